import Derived.Test.YtbdfdfahpdilpaaM6
/-! Layer 12: a master, and crashes. -/
namespace Go.Proofs.Ytbdfdfahpdilpaa.X12
open Go Go.RowKit Go.ChangeMaps Go.Proofs.Ytbdfdfahpdilpaa.Arr Go.Proofs.Ytbdfdfahpdilpaa.Mp Go.Proofs.Ytbdfdfahpdilpaa.Ow Go.Proofs.Ytbdfdfahpdilpaa.Dk Go.Proofs.Ytbdfdfahpdilpaa.Slab Go.Proofs.Ytbdfdfahpdilpaa.Lv Go.Proofs.YtbdfdfahpdilpaaW.PrintWords Go.Proofs.YtbdfdfahpdilpaaW.PrintLast Go.Proofs.YtbdfdfahpdilpaaW.PrintMore
set_option linter.unusedVariables false
set_option linter.unusedSimpArgs false
/-- Two sectors, nothing waits, a fuse. -/
def LF (s0 s1 : ByteArray) (f : Int) : DS := ⟨[s0, s1], [], false, f⟩
theorem LF_arm (s0 s1 : ByteArray) (n : Int) (h : 0 ≤ n) : { LD s0 s1 with fuse := max n (-1) } = LF s0 s1 n := by
  have e : max n (-1) = n := by omega
  rw [e]
  rfl
theorem write_at (d : DS) (i : Int) (s : ByteArray) (ht : thereD d i = true) (hs : s.size = 128) : writeE d i s = bearsE d ∧ writeD d i s = if bearsE d ≠ 0 then bearsD d else pushD (bearsD d) i s := by
  unfold writeE writeD
  rw [ht, hs]
  simp
/-- What a master's write leaves, with a fuse of n. -/
theorem LF_write (s0 s1 : ByteArray) (n : Int) {t c l : Int} (hn : 0 ≤ n ∧ n < 4) (ht : 0 ≤ t ∧ t < 4294967296) (h : mayM c l = true) :
    (n = 0 → writeME (LF s0 s1 n) 0 t c l = 4 ∧ writeMD (LF s0 s1 n) 0 t c l = ⟨[s0, s1], [], true, 0⟩) ∧
    (n = 1 → writeME (LF s0 s1 n) 0 t c l = 4 ∧ writeMD (LF s0 s1 n) 0 t c l = ⟨[s0, s1], [(t % 2, secM t c l)], true, 0⟩) ∧
    (2 ≤ n → writeME (LF s0 s1 n) 0 t c l = 0 ∧ writeMD (LF s0 s1 n) 0 t c l = { LDput s0 s1 (t % 2) (secM t c l) with fuse := n - 2 }) := by
  have hk : t % 2 = 0 ∨ t % 2 = 1 := by omega
  have hsp : spotM 0 t = t % 2 := by unfold spotM; omega
  have hs := secM_size t c l ht
  have hb : bothE (LF s0 s1 n) 0 = 0 := rfl
  have hth : thereD (LF s0 s1 n) (t % 2) = true := by rcases hk with e | e <;> rw [e] <;> rfl
  have hw := write_at (LF s0 s1 n) (t % 2) (secM t c l) hth hs
  have e1 : writeME (LF s0 s1 n) 0 t c l = if bearsE (LF s0 s1 n) ≠ 0 then bearsE (LF s0 s1 n) else syncE (if bearsE (LF s0 s1 n) ≠ 0 then bearsD (LF s0 s1 n) else pushD (bearsD (LF s0 s1 n)) (t % 2) (secM t c l)) := by
    unfold writeME
    rw [if_neg (by rw [hb]; simp), if_neg (by simp [h]), hsp, hw.1, hw.2]
  have e2 : writeMD (LF s0 s1 n) 0 t c l = if bearsE (LF s0 s1 n) ≠ 0 then (if bearsE (LF s0 s1 n) ≠ 0 then bearsD (LF s0 s1 n) else pushD (bearsD (LF s0 s1 n)) (t % 2) (secM t c l)) else syncD (if bearsE (LF s0 s1 n) ≠ 0 then bearsD (LF s0 s1 n) else pushD (bearsD (LF s0 s1 n)) (t % 2) (secM t c l)) := by
    unfold writeMD
    rw [if_neg (by rw [hb]; simp), if_neg (by simp [h]), hsp, hw.1, hw.2]
  rw [e1, e2]
  generalize secM t c l = s at *
  refine ⟨fun e => ?_, fun e => ?_, fun e => ?_⟩
  · subst e; exact ⟨rfl, rfl⟩
  · subst e; exact ⟨rfl, rfl⟩
  · rcases (show n = 2 ∨ n = 3 by omega) with rfl | rfl
    · rcases hk with e | e <;> rw [e] <;> exact ⟨rfl, rfl⟩
    · rcases hk with e | e <;> rw [e] <;> exact ⟨rfl, rfl⟩
theorem crash_none (m : Nat) (p : Nat → Nat) (sf : List ByteArray) (g : Bool) (f : Int) : crashD m p ⟨sf, [], g, f⟩ = ⟨sf, [], false, -1⟩ := rfl
theorem crash_one (m : Nat) (p : Nat → Nat) (s0 s1 s : ByteArray) (k : Int) (g : Bool) (f : Int) (hk : k = 0 ∨ k = 1) : crashD m p ⟨[s0, s1], [(k, s)], g, f⟩ = LD s0 s1 ∨ crashD m p ⟨[s0, s1], [(k, s)], g, f⟩ = LDput s0 s1 k s ∨ crashD m p ⟨[s0, s1], [(k, s)], g, f⟩ = LDput s0 s1 k (noughts 128) := by
  have e : crashD m p ⟨[s0, s1], [(k, s)], g, f⟩ = ⟨crashStep (fateN m p 0) [s0, s1] (k, s), [], false, -1⟩ := rfl
  rw [e]
  unfold crashStep
  split
  · right; left
    rcases hk with rfl | rfl <;> rfl
  · split
    · right; right
      rcases hk with rfl | rfl <;> rfl
    · left; rfl
theorem LDput_eq (s0 s1 : ByteArray) (k : Int) (s : ByteArray) : ∃ a b, LDput s0 s1 k s = LD a b ∧ (k = 0 → a = s ∧ b = s1) ∧ (k ≠ 0 → a = s0 ∧ b = s) := by
  unfold LDput
  by_cases h : k = 0
  · rw [if_pos h]; exact ⟨_, _, rfl, fun _ => ⟨rfl, rfl⟩, fun q => absurd h q⟩
  · rw [if_neg h]; exact ⟨_, _, rfl, fun q => absurd q h, fun _ => ⟨rfl, rfl⟩⟩
/-- The sectors behind a write, a crash in it or not: the master's the new one, or the old one. -/
theorem inv_new_put {s0 s1 : ByteArray} {T : Nat} {c l c' l' : Int} (h : InvT s0 s1 T c l) (hT : T < 1000000) (hm : mayM c' l' = true) : ∃ a b, LDput s0 s1 (((T + 1 : Nat) : Int) % 2) (secM ((T + 1 : Nat) : Int) c' l') = LD a b ∧ InvT a b (T + 1) c' l' := by
  have hp := inv_put h hT hm
  rcases (show T % 2 = 0 ∨ T % 2 = 1 by omega) with e | e
  · have e2 : ((T + 1 : Nat) : Int) % 2 = 1 := by omega
    refine ⟨_, _, ?_, hp.1 e⟩
    rw [e2]; rfl
  · have e2 : ((T + 1 : Nat) : Int) % 2 = 0 := by omega
    refine ⟨_, _, ?_, hp.2 e⟩
    rw [e2]; rfl
theorem inv_zero {s0 s1 : ByteArray} {T : Nat} {c l : Int} (h : InvT s0 s1 T c l) : ∃ a b, LDput s0 s1 (((T + 1 : Nat) : Int) % 2) (noughts 128) = LD a b ∧ InvT a b T c l := by
  rcases (show T % 2 = 0 ∨ T % 2 = 1 by omega) with e | e
  · have e2 : ((T + 1 : Nat) : Int) % 2 = 1 := by omega
    refine ⟨s0, noughts 128, by rw [e2]; rfl, ?_⟩
    rcases h with ⟨h0, h1, h2, h3⟩ | ⟨h0, h1, h2, h3⟩ | ⟨h0, h1, _⟩
    · exact .inl ⟨h0, h1, one_zero, h3⟩
    · exact .inr (.inl ⟨h0, h1, h2, fun hk => by rw [one_zero] at hk; cases hk⟩)
    · omega
  · have e2 : ((T + 1 : Nat) : Int) % 2 = 0 := by omega
    refine ⟨noughts 128, s1, by rw [e2]; rfl, ?_⟩
    rcases h with ⟨h0, _⟩ | ⟨h0, h1, _⟩ | ⟨h0, h1, h2, h3⟩
    · omega
    · omega
    · exact .inr (.inr ⟨h0, h1, h2, fun hk => by rw [one_zero] at hk; cases hk⟩)
/-- One write with a fuse of n, and the crash. -/
theorem fuse_step {s0 s1 : ByteArray} {T : Nat} {c l c' l' n : Int} (h : InvT s0 s1 T c l) (hT : T < 1000000) (hm : mayM c' l' = true) (hn : 0 ≤ n ∧ n < 4) (m : Nat) (p : Nat → Nat) :
    ∃ a b U c2 l2, crashD m p (writeMD (LF s0 s1 n) 0 ((T + 1 : Nat) : Int) c' l') = LD a b ∧ InvT a b U c2 l2 ∧ U ≤ T + 1 ∧ ((c2 = c' ∧ l2 = l') ∨ (c2 = c ∧ l2 = l ∧ writeME (LF s0 s1 n) 0 ((T + 1 : Nat) : Int) c' l' = 4)) := by
  have hw := LF_write s0 s1 n (t := ((T + 1 : Nat) : Int)) hn (by omega) hm
  rcases (show n = 0 ∨ n = 1 ∨ 2 ≤ n by omega) with e | e | e
  · obtain ⟨w1, w2⟩ := hw.1 e
    rw [w2, w1]
    exact ⟨s0, s1, T, c, l, rfl, h, by omega, .inr ⟨rfl, rfl, rfl⟩⟩
  · obtain ⟨w1, w2⟩ := hw.2.1 e
    rw [w2, w1]
    rcases crash_one m p s0 s1 (secM ((T + 1 : Nat) : Int) c' l') (((T + 1 : Nat) : Int) % 2) true 0 (by omega) with q | q | q
    · exact ⟨s0, s1, T, c, l, q, h, by omega, .inr ⟨rfl, rfl, rfl⟩⟩
    · obtain ⟨a, b, e1, e2⟩ := inv_new_put h hT hm
      exact ⟨a, b, T + 1, c', l', q.trans e1, e2, by omega, .inl ⟨rfl, rfl⟩⟩
    · obtain ⟨a, b, e1, e2⟩ := inv_zero h
      exact ⟨a, b, T, c, l, q.trans e1, e2, by omega, .inr ⟨rfl, rfl, rfl⟩⟩
  · obtain ⟨w1, w2⟩ := hw.2.2 e
    obtain ⟨a, b, e1, e2⟩ := inv_new_put h hT hm
    rw [w2, e1]
    exact ⟨a, b, T + 1, c', l', rfl, e2, by omega, .inl ⟨rfl, rfl⟩⟩
end Go.Proofs.Ytbdfdfahpdilpaa.X12
