import Derived.Test.YtcelfhoomhmioaaPEZ0
import Derived.Test.YtcelfhoomhmioaaPEZ1
import Derived.Test.YtcelfhoomhmioaaPEZ2
import Derived.Test.YtcelfhoomhmioaaPEZ3
import Derived.Test.YtcelfhoomhmioaaPEZ4
import Derived.Test.YtcelfhoomhmioaaPEZ5
import Derived.Test.YtcelfhoomhmioaaPEZ6
import Derived.Test.YtcelfhoomhmioaaPEZ7
import Derived.Test.YtcelfhoomhmioaaPEZ8
import Derived.Test.YtcelfhoomhmioaaPEZ9
import Derived.Test.YtcelfhoomhmioaaPEZ10
import Derived.Test.YtcelfhoomhmioaaPEZ11
import Derived.Test.YtcelfhoomhmioaaPEZ12
import Derived.Test.YtcelfhoomhmioaaPEZ13
import Derived.Test.YtcelfhoomhmioaaPEZ14
import Derived.Test.YtcelfhoomhmioaaPEZ15
import Derived.Test.YtcelfhoomhmioaaPEZ16
set_option maxRecDepth 8192
namespace Go.Proofs.Ytcelfhoomhmioaa.St
open Go Go.RowKit Go.ChangeMaps Go.Proofs.Ytcelfhoomhmioaa.Arr Go.Proofs.Ytcelfhoomhmioaa.Mp Go.Proofs.Ytcelfhoomhmioaa.Ow Go.Proofs.Ytcelfhoomhmioaa.Dk Go.Proofs.YtcelfhoomhmioaaW.PrintWords Go.Proofs.YtcelfhoomhmioaaW.PrintLast Go.Proofs.YtcelfhoomhmioaaW.PrintMore
set_option linter.unusedVariables false
set_option linter.unusedSimpArgs false
theorem loop_bl (s : ByteArray) : ∀ (d i : Nat) (r : List UInt8), i + d = s.size → ByteArray.toList.loop s i r = r.reverse ++ (s.data.toList).drop i := by
  intro d
  induction d with
  | zero =>
    intro i r h
    rw [ByteArray.toList.loop, if_neg (by omega), List.drop_of_length_le (by rw [Array.length_toList]; exact Nat.le_of_eq (by show s.size = i; omega)), List.append_nil]
  | succ d ih =>
    intro i r h
    have hi : i < s.size := by omega
    have hl : i < (s.data.toList).length := by rw [Array.length_toList]; exact hi
    rw [ByteArray.toList.loop, if_pos hi, ih (i + 1) _ (by omega), List.drop_eq_getElem_cons hl, List.reverse_cons, List.append_assoc]
    have e : s.get! i = (s.data.toList)[i] := by
      show s.data[i]! = s.data.toList[i]
      have hd : i < s.data.size := hi
      rw [getElem!_pos s.data i hd]
      exact (Array.getElem_toList hd).symm
    rw [e]
    rfl
theorem toList_bl (s : ByteArray) : s.toList = s.data.toList := by
  show ByteArray.toList.loop s 0 [] = _
  rw [loop_bl s s.size 0 [] (by omega)]
  rfl
theorem toList_eq (a b : ByteArray) : a.toList = b.toList ↔ a = b := by
  constructor
  · intro h
    rw [toList_bl, toList_bl] at h
    cases a; cases b
    simp at h
    rw [h]
  · rintro rfl; rfl
/-- What Read says, by equality of bytes. -/
def readP (d : DS) (base n i : Int) : Int × ByteArray × Int :=
  if i < 0 ∨ n ≤ i then (0, ⟨#[]⟩, 2)
  else if readE d (base + (3 + 2 * i)) ≠ 0 then (0, ⟨#[]⟩, readE d (base + (3 + 2 * i)))
  else if readS d (base + (3 + 2 * i)) = noughts 128 ∧ readS d (base + (3 + 2 * i) + 1) = readS d (base + (3 + 2 * i)) then (0, noughts 220, 0)
  else if (sreadF d (base + (3 + 2 * i)) (2 * i)).2.2.2 = true ∧ (sreadF d (base + (3 + 2 * i + 1)) (2 * i + 1)).2.2.2 = true ∧ (sreadF d (base + (3 + 2 * i)) (2 * i)).1 = (sreadF d (base + (3 + 2 * i + 1)) (2 * i + 1)).1 then
    (if (X12.punF ((sreadF d (base + (3 + 2 * i)) (2 * i)).2.2.1 ++ (sreadF d (base + (3 + 2 * i + 1)) (2 * i + 1)).2.2.1)).2.2 = 0 then X12.punF ((sreadF d (base + (3 + 2 * i)) (2 * i)).2.2.1 ++ (sreadF d (base + (3 + 2 * i + 1)) (2 * i + 1)).2.2.1) else (0, ⟨#[]⟩, 8))
  else (0, ⟨#[]⟩, 8)
theorem readP_eq (d : DS) (base n i : Int) : storeR d base n i = readP d base n i := by
  unfold storeR readP
  simp only [toList_eq]
end Go.Proofs.Ytcelfhoomhmioaa.St
set_option maxRecDepth 8192
namespace Go.Proofs.Ytcelfhoomhmioaa.St
open Go Go.RowKit Go.ChangeMaps Go.Proofs.Ytcelfhoomhmioaa.Arr Go.Proofs.Ytcelfhoomhmioaa.Mp Go.Proofs.Ytcelfhoomhmioaa.Ow Go.Proofs.Ytcelfhoomhmioaa.Dk Go.Proofs.YtcelfhoomhmioaaW.PrintWords Go.Proofs.YtcelfhoomhmioaaW.PrintLast Go.Proofs.YtcelfhoomhmioaaW.PrintMore
set_option linter.unusedVariables false
set_option linter.unusedSimpArgs false
theorem str_noughts : strOfNums (List.replicate 220 0) = noughts 220 := by decide +kernel
theorem refempty_calls (w : World) : Calls Try.prog 18 #[] w fun e w' => e = .returned (.agg #[.int .i64 0, .string (noughts 220)]) ∧ Below w.heap.size w w' :=
  X12.careenref06_Empty.calls 0 (noughts 220) w (by unfold X12.careenref06_Empty.f; rw [if_pos (by decide), str_noughts])
theorem fld1 (a b : Value) (w : World) : (Instr.field 35 (.agg #[a, b]) 1).run Try.prog w = .ok b w := by kernel_rfl
theorem eqA34 (d : Nat) (w : World) (x0 y0 : Int) (x1 y1 : ByteArray) : (Op.equalIn (d + 2) 35 (.agg #[.int .i64 x0, .string x1]) (.agg #[.int .i64 y0, .string y1])).run Try.prog w = .ok (x0 == y0 && (x1.toList == y1.toList)) w := by
  refine eqA_of Try.underlying35 (by kernel_rfl) ?_
  refine eqf_cons (by rfl) (by go_simp; rfl) (by go_simp; rfl) (by go_simp) ?_
  exact eqf_last (by rfl) (by go_simp; rfl) (by go_simp; rfl) (by go_simp)
attribute [local go_sem] fld1
attribute [local go_sem high] eqA34
end Go.Proofs.Ytcelfhoomhmioaa.St
set_option maxRecDepth 8192
namespace Go.Proofs.Ytcelfhoomhmioaa.St
open Go Go.RowKit Go.ChangeMaps Go.Proofs.YtcelfhoomhmioaaW.PrintWords Go.Proofs.Ytcelfhoomhmioaa.Arr Go.Proofs.Ytcelfhoomhmioaa.Mp Go.Proofs.Ytcelfhoomhmioaa.Ow Go.Proofs.Ytcelfhoomhmioaa.Dk Go.Proofs.Ytcelfhoomhmioaa.Cr
set_option linter.unusedVariables false
set_option linter.unusedSimpArgs false
def valid (s : ByteArray) : Prop := (X12.unpackF s).2.2.2 = 0
abbrev ep (s : ByteArray) : Int := (X12.unpackF s).1
abbrev ix (s : ByteArray) : Int := (X12.unpackF s).2.1
abbrev bd (s : ByteArray) : ByteArray := (X12.unpackF s).2.2.1
theorem not_nought : ¬ valid (noughts 128) := by unfold valid; decide +kernel
theorem u_sec (t i : Int) (b : ByteArray) (ht : 0 ≤ t ∧ t < 4294967296) (hi : 0 ≤ i ∧ i < 4294967296) (hb : b.size ≤ 112) : X12.unpackF (secS t i b) = (t, i, b, 0) := X12.unpack_pack t i b ht hi hb
theorem sec_valid {t i : Int} {b : ByteArray} (ht : 0 ≤ t ∧ t < 4294967296) (hi : 0 ≤ i ∧ i < 4294967296) (hb : b.size ≤ 112) : valid (secS t i b) := by unfold valid; rw [u_sec t i b ht hi hb]
theorem sec_nz {t i : Int} {b : ByteArray} (ht : 0 ≤ t ∧ t < 4294967296) (hi : 0 ≤ i ∧ i < 4294967296) (hb : b.size ≤ 112) : secS t i b ≠ noughts 128 := fun e => not_nought (e ▸ sec_valid ht hi hb)
theorem ep_sec {t i : Int} {b : ByteArray} (ht : 0 ≤ t ∧ t < 4294967296) (hi : 0 ≤ i ∧ i < 4294967296) (hb : b.size ≤ 112) : ep (secS t i b) = t := by unfold ep; rw [u_sec t i b ht hi hb]
open Classical in
/-- What the journal's head says. -/
noncomputable def hd (n : Int) (h : ByteArray) : Option (Int × Int) := if valid h ∧ ix h = 2 ∧ (bd h).size = 1 ∧ bt (bd h) 0 < n then some (ep h, bt (bd h) 0) else none
open Classical in
/-- What a copy says. -/
noncomputable def part (e k : Int) (c : ByteArray) : Option ByteArray := if valid c ∧ ix c = k ∧ ep c = e ∧ (bd c).size = 112 then some (bd c) else none
/-- What the journal says: ticket, page, bytes. -/
noncomputable def jour (n : Int) (c0 c1 h : ByteArray) : Option (Int × Int × ByteArray) :=
  match hd n h with
  | none => none
  | some x => match part x.1 0 c0 with
    | none => none
    | some a => match part x.1 1 c1 with
      | none => none
      | some b => some (x.1, x.2, a ++ b)
theorem jour_some {n : Int} {c0 c1 h : ByteArray} {e i : Int} {b : ByteArray} (hj : jour n c0 c1 h = some (e, i, b)) : valid h ∧ ep h = e ∧ (0 ≤ i ∧ i < n) ∧ valid c0 ∧ ep c0 = e ∧ valid c1 ∧ ep c1 = e ∧ b = bd c0 ++ bd c1 ∧ b.size = 224 ∧ i = bt (bd h) 0 := by
  unfold jour at hj
  split at hj
  · cases hj
  · rename_i x hx
    split at hj
    · cases hj
    · rename_i a ha
      split at hj
      · cases hj
      · rename_i c hc
        unfold hd at hx
        split at hx
        · rename_i h1
          injection hx with hx; subst hx
          unfold part at ha hc
          split at ha
          · rename_i h2
            split at hc
            · rename_i h3
              injection ha with ha; injection hc with hc
              injection hj with hj; injection hj with j1 j2; injection j2 with j2 j3
              refine ⟨h1.1, j1, ⟨?_, ?_⟩, h2.1, ?_, h3.1, ?_, ?_, ?_, j2.symm⟩
              · rw [← j2]; exact (bt_range _ _).1
              · rw [← j2]; exact h1.2.2.2
              · rw [h2.2.2.1]; exact j1
              · rw [h3.2.2.1]; exact j1
              · rw [← j3, ← ha, ← hc]
              · rw [← j3, ByteArray.size_append, ← ha, ← hc, h2.2.2.2, h3.2.2.2]
            · cases hc
          · cases ha
        · cases hx
/-- The bytes of a page. -/
def Packed (b : ByteArray) (p : Int × ByteArray) : Prop := Page.packF p.1 p.2 = (b, 0)
theorem Packed.size {b : ByteArray} {p : Int × ByteArray} (h : Packed b p) : b.size = 224 := by
  have := pack_sz (a := p.1) (dta := p.2) (by rw [h])
  rw [h] at this
  exact this
abbrev noPage : Int × ByteArray := (0, noughts 220)
/-- A page's homes say it. -/
def PageOk (s0 s1 : ByteArray) (k : Int) (p : Int × ByteArray) : Prop :=
  (s0 = noughts 128 ∧ s1 = noughts 128 ∧ p = noPage) ∨ ∃ e b, (0 ≤ e ∧ e < 4294967296) ∧ Packed b p ∧ s0 = secS e (2 * k) (b.extract 0 112) ∧ s1 = secS e (2 * k + 1) (b.extract 112 224)
abbrev hm (base i : Int) : Int := base + (3 + 2 * i)
/-- The journal of a store's sectors. -/
noncomputable abbrev J (C : Int → ByteArray) (base n : Int) := jour n (C base) (C (base + 1)) (C (base + 2))
structure Inv (C : Int → ByteArray) (base n T : Int) (want : Int → Int × ByteArray) : Prop where
  fine : ∀ q, base ≤ q → q < base + (3 + 2 * n) → valid (C q) → ep (C q) < T
  j : ∀ e i b, J C base n = some (e, i, b) → Packed b (want i)
  page : ∀ k, 0 ≤ k → k < n → (∀ e b, J C base n ≠ some (e, k, b)) → PageOk (C (hm base k)) (C (hm base k + 1)) k (want k)
structure Good (C : Int → ByteArray) (base n T : Int) (want : Int → Int × ByteArray) : Prop where
  inv : Inv C base n T want
  all : ∀ k, 0 ≤ k → k < n → PageOk (C (hm base k)) (C (hm base k + 1)) k (want k)
theorem good_of {C : Int → ByteArray} {base n T : Int} {want : Int → Int × ByteArray} (h : Inv C base n T want) (hj : J C base n = none) : Good C base n T want := ⟨h, fun k h0 h1 => h.page k h0 h1 (fun e b => by rw [hj]; exact fun h => by cases h)⟩
/-- Of the writes each is done, not done, or has left noughts. -/
def Mix (lo hi : Int) (C : Int → ByteArray) (W : WL) (D : Int → ByteArray) : Prop := ∀ q, lo ≤ q → q < hi → D q = C q ∨ (∃ s, (q, s) ∈ W ∧ D q = s) ∨ ((∃ s, (q, s) ∈ W) ∧ D q = noughts 128)
theorem Mix.off {lo hi : Int} {C D : Int → ByteArray} {W : WL} (h : Mix lo hi C W D) {q : Int} (a : lo ≤ q) (b : q < hi) (hn : ∀ s, (q, s) ∉ W) : D q = C q := by
  rcases h q a b with e | ⟨s, m, _⟩ | ⟨⟨s, m⟩, _⟩
  · exact e
  · exact absurd m (hn s)
  · exact absurd m (hn s)
/-- A place at which s was written. -/
theorem Mix.at {lo hi : Int} {C D : Int → ByteArray} {W : WL} (h : Mix lo hi C W D) {q : Int} (a : lo ≤ q) (b : q < hi) {x : ByteArray} (hn : ∀ s, (q, s) ∈ W → s = x) : D q = C q ∨ D q = x ∨ D q = noughts 128 := by
  rcases h q a b with e | ⟨s, m, e⟩ | ⟨⟨s, m⟩, e⟩
  · exact .inl e
  · exact .inr (.inl (e.trans (hn s m)))
  · exact .inr (.inr e)
abbrev two (p : Int) (s0 s1 : ByteArray) : WL := [(p, s0), (p + 1, s1)]
theorem mem_two {p q : Int} {s s0 s1 : ByteArray} : (q, s) ∈ two p s0 s1 ↔ (q = p ∧ s = s0) ∨ (q = p + 1 ∧ s = s1) := by simp [two]
theorem mem_sing {p q : Int} {s s0 : ByteArray} : (q, s) ∈ [(p, s0)] ↔ q = p ∧ s = s0 := by simp
/-- Homes that are written, in part: the journal has them still. -/
theorem inv_homes {C D : Int → ByteArray} {base n T : Int} {want : Int → Int × ByteArray} (h : Inv C base n T want) {e i : Int} {b : ByteArray} (hj : J C base n = some (e, i, b)) (hT : T ≤ 4294967296)
    (hn : 0 ≤ n ∧ n ≤ 8) (hm' : Mix base (base + (3 + 2 * n)) C (two (hm base i) (secS e (2 * i) (b.extract 0 112)) (secS e (2 * i + 1) (b.extract 112 224))) D) : Inv D base n T want := by
  obtain ⟨vh, he, hi, v0, e0, v1, e1, hb, hb2, _⟩ := jour_some hj
  have eb := (unpack_lt (C (base + 2))).1
  have heT : ep (C (base + 2)) < T := h.fine (base + 2) (by omega) (by omega) vh
  have hJ : J D base n = J C base n := by
    have o : ∀ q, base ≤ q → q < base + 3 → D q = C q := fun q a c => hm'.off a (by omega) (fun s m => by rcases mem_two.1 m with m | m <;> (have := m.1; unfold hm at this; omega))
    show jour n (D base) (D (base + 1)) (D (base + 2)) = jour n (C base) (C (base + 1)) (C (base + 2))
    rw [o base (by omega) (by omega), o (base + 1) (by omega) (by omega), o (base + 2) (by omega) (by omega)]
  have he2 : 0 ≤ e ∧ e < 4294967296 := by rw [← he]; exact eb
  have s1 : (b.extract 0 112).size ≤ 112 := by rw [ByteArray.size_extract]; omega
  have s2 : (b.extract 112 224).size ≤ 112 := by rw [ByteArray.size_extract]; omega
  refine ⟨fun q a c hv => ?_, fun e' i' b' hj' => h.j e' i' b' (hJ ▸ hj'), fun k k0 k1 hk => ?_⟩
  · rcases hm' q a c with x | ⟨s, m, x⟩ | ⟨_, x⟩
    · rw [x] at hv ⊢; exact h.fine q a c hv
    · rw [x]
      rcases mem_two.1 m with ⟨_, y⟩ | ⟨_, y⟩
      · rw [y, ep_sec he2 (by omega) s1]; omega
      · rw [y, ep_sec he2 (by omega) s2]; omega
    · rw [x] at hv; exact absurd hv not_nought
  · rw [hJ] at hk
    have hki : k ≠ i := fun x => by subst x; exact hk e b hj
    have o : ∀ q, q = hm base k ∨ q = hm base k + 1 → D q = C q := fun q a => hm'.off (by unfold hm at a; omega) (by unfold hm at a; omega) (fun s m => by unfold hm at a; rcases mem_two.1 m with m | m <;> (have := m.1; unfold hm at this; omega))
    rw [o _ (.inl rfl), o _ (.inr rfl)]
    exact h.page k k0 k1 hk
/-- Homes that are written whole. -/
theorem good_homes {C D : Int → ByteArray} {base n T : Int} {want : Int → Int × ByteArray} (h : Inv C base n T want) {e i : Int} {b : ByteArray} (hj : J C base n = some (e, i, b)) (hT : T ≤ 4294967296) (hn : 0 ≤ n ∧ n ≤ 8)
    (hD : ∀ q, base ≤ q → q < base + (3 + 2 * n) → D q = if q = hm base i then secS e (2 * i) (b.extract 0 112) else if q = hm base i + 1 then secS e (2 * i + 1) (b.extract 112 224) else C q) : Good D base n T want := by
  obtain ⟨vh, he, hi, v0, e0, v1, e1, hb, hb2, _⟩ := jour_some hj
  have eb := (unpack_lt (C (base + 2))).1
  have he2 : 0 ≤ e ∧ e < 4294967296 := by rw [← he]; exact eb
  refine ⟨inv_homes h hj hT hn (fun q a c => ?_), fun k k0 k1 => ?_⟩
  · rw [hD q a c]
    by_cases x : q = hm base i
    · rw [if_pos x]; exact .inr (.inl ⟨_, mem_two.2 (.inl ⟨x, rfl⟩), rfl⟩)
    · rw [if_neg x]
      by_cases y : q = hm base i + 1
      · rw [if_pos y]; exact .inr (.inl ⟨_, mem_two.2 (.inr ⟨y, rfl⟩), rfl⟩)
      · rw [if_neg y]; exact .inl rfl
  · by_cases x : k = i
    · subst x
      refine .inr ⟨e, b, he2, h.j e k b hj, ?_, ?_⟩
      · rw [hD _ (by unfold hm; omega) (by unfold hm; omega), if_pos rfl]
      · rw [hD _ (by unfold hm; omega) (by unfold hm; omega), if_neg (by omega), if_pos rfl]
    · rw [hD _ (by unfold hm; omega) (by unfold hm; omega), hD _ (by unfold hm; omega) (by unfold hm; omega), if_neg (by unfold hm; omega), if_neg (by unfold hm; omega), if_neg (by unfold hm; omega), if_neg (by unfold hm; omega)]
      refine h.page k k0 k1 (fun e' b' hx => ?_)
      rw [hj] at hx
      injection hx with hx; injection hx with h1 hx; injection hx with h2 h3
      exact x h2.symm
def up (want : Int → Int × ByteArray) (i : Int) (p : Int × ByteArray) : Int → Int × ByteArray := fun k => if k = i then p else want k
theorem byte1_bt {i : Int} (h : 0 ≤ i ∧ i < 256) : bt (byte1 i) 0 = i := by
  unfold byte1
  rw [show i % 256 = i by omega]
  unfold bt
  have hz : (0 : Int).toNat < (strOfNums [i]).size := by rw [strOfNums_size]; exact Nat.one_pos
  rw [dif_pos hz]
  show (((UInt8.ofNat i.toNat).toNat : Nat) : Int) = i
  rw [UInt8.toNat_ofNat']
  omega
/-- The head is written, or not: the new page, or the old one. -/
theorem inv_head {C D : Int → ByteArray} {base n T : Int} {want : Int → Int × ByteArray} (hT : 0 ≤ T ∧ T < 4294967296) (hn : 0 ≤ n ∧ n ≤ 8) {i : Int} (hi : 0 ≤ i ∧ i < n) {p : Int × ByteArray} {b : ByteArray} (hp : Packed b p)
    (hf : ∀ q, base ≤ q → q < base + (3 + 2 * n) → valid (C q) → ep (C q) ≤ T) (hh : valid (C (base + 2)) → ep (C (base + 2)) < T) (ha : ∀ k, 0 ≤ k → k < n → PageOk (C (hm base k)) (C (hm base k + 1)) k (want k))
    (h0 : C base = secS T 0 (b.extract 0 112)) (h1 : C (base + 1) = secS T 1 (b.extract 112 224))
    (hm' : Mix base (base + (3 + 2 * n)) C [(base + 2, secS T 2 (byte1 i))] D) : (D (base + 2) = secS T 2 (byte1 i) → Inv D base n (T + 1) (up want i p) ∧ J D base n = some (T, i, b)) ∧ (D (base + 2) ≠ secS T 2 (byte1 i) → Good D base n (T + 1) want) := by
  have o : ∀ q, base ≤ q → q < base + (3 + 2 * n) → q ≠ base + 2 → D q = C q := fun q a c x => hm'.off a c (fun s m => by have := (mem_sing.1 m).1; omega)
  have x2 := hm'.at (q := base + 2) (x := secS T 2 (byte1 i)) (by omega) (by omega) (fun s m => (mem_sing.1 m).2)
  have sz := hp.size
  have s1 : (b.extract 0 112).size = 112 := by rw [ByteArray.size_extract]; omega
  have s2 : (b.extract 112 224).size = 112 := by rw [ByteArray.size_extract]; omega
  have s3 : (byte1 i).size ≤ 112 := by rw [byte1_size]; decide
  have u0 := u_sec T 0 (b.extract 0 112) hT (by decide) (by omega)
  have u1 := u_sec T 1 (b.extract 112 224) hT (by decide) (by omega)
  have u2 := u_sec T 2 (byte1 i) hT (by decide) s3
  have d0 : D base = secS T 0 (b.extract 0 112) := by rw [o base (by omega) (by omega) (by omega), h0]
  have d1 : D (base + 1) = secS T 1 (b.extract 112 224) := by rw [o (base + 1) (by omega) (by omega) (by omega), h1]
  have pg : ∀ k, 0 ≤ k → k < n → PageOk (D (hm base k)) (D (hm base k + 1)) k (want k) := fun k k0 k1 => by
    rw [o _ (by unfold hm; omega) (by unfold hm; omega) (by unfold hm; omega), o _ (by unfold hm; omega) (by unfold hm; omega) (by unfold hm; omega)]
    exact ha k k0 k1
  have fine : ∀ q, base ≤ q → q < base + (3 + 2 * n) → valid (D q) → ep (D q) < T + 1 := fun q a c v => by
    by_cases e : q = base + 2
    · subst e
      rcases x2 with y | y | y
      · rw [y] at v ⊢; have := hf _ a c v; omega
      · rw [y]; show (X12.unpackF _).1 < T + 1; rw [u2]; show T < T + 1; omega
      · rw [y] at v; exact absurd v not_nought
    · rw [o q a c e] at v ⊢; have := hf q a c v; omega
  have old : J D base n = none → Good D base n (T + 1) want := fun x => ⟨⟨fine, fun e i b h => absurd (x.symm.trans h) (fun z => by cases z), fun k k0 k1 _ => pg k k0 k1⟩, pg⟩
  constructor
  · intro y
    have hJ : J D base n = some (T, i, b) := by
      show jour n (D base) (D (base + 1)) (D (base + 2)) = _
      rw [d0, d1, y]
      unfold jour
      have hh : hd n (secS T 2 (byte1 i)) = some (T, i) := by
        unfold hd
        rw [if_pos ⟨by unfold valid; rw [u2], by show (X12.unpackF _).2.1 = 2; rw [u2], by show (X12.unpackF _).2.2.1.size = 1; rw [u2]; exact byte1_size i, by show bt (X12.unpackF _).2.2.1 0 < n; rw [u2]; show bt (byte1 i) 0 < n; rw [byte1_bt (by omega)]; exact hi.2⟩]
        show some ((X12.unpackF _).1, bt (X12.unpackF _).2.2.1 0) = _
        rw [u2]
        show some (T, bt (byte1 i) 0) = _
        rw [byte1_bt (by omega)]
      have p0 : part T 0 (secS T 0 (b.extract 0 112)) = some (b.extract 0 112) := by
        unfold part
        rw [if_pos ⟨by unfold valid; rw [u0], by show (X12.unpackF _).2.1 = 0; rw [u0], by show (X12.unpackF _).1 = T; rw [u0], by show (X12.unpackF _).2.2.1.size = 112; rw [u0]; exact s1⟩]
        show some (X12.unpackF _).2.2.1 = _
        rw [u0]
      have p1 : part T 1 (secS T 1 (b.extract 112 224)) = some (b.extract 112 224) := by
        unfold part
        rw [if_pos ⟨by unfold valid; rw [u1], by show (X12.unpackF _).2.1 = 1; rw [u1], by show (X12.unpackF _).1 = T; rw [u1], by show (X12.unpackF _).2.2.1.size = 112; rw [u1]; exact s2⟩]
        show some (X12.unpackF _).2.2.1 = _
        rw [u1]
      rw [hh]
      simp only [p0, p1]
      have cat : b.extract 0 112 ++ b.extract 112 224 = b := by
        rw [ByteArray.extract_append_extract]
        have e : b.size = 224 := sz
        rw [show min 0 112 = 0 by decide, show max 112 224 = b.size by rw [e]; decide]
        exact ByteArray.extract_zero_size
      rw [cat]
    refine ⟨⟨fine, fun e i' b' h => ?_, fun k k0 k1 hk => ?_⟩, hJ⟩
    · have e := Prod.mk.inj (Prod.mk.inj (Option.some.inj (hJ.symm.trans h))).2
      rw [← e.1, ← e.2]
      unfold up; rw [if_pos rfl]; exact hp
    · have hki : k ≠ i := fun x => by subst x; exact hk T b hJ
      unfold up; rw [if_neg hki]; exact pg k k0 k1
  · intro hne
    rcases x2 with y | y | y
    · refine old ?_
      by_cases hc : J D base n = none
      · exact hc
      · obtain ⟨⟨e, i', b'⟩, hx⟩ := Option.ne_none_iff_exists'.1 hc
        obtain ⟨vh, he, _, v0, e0, _⟩ := jour_some hx
        rw [y] at vh he
        have := hh vh
        rw [d0] at e0
        have : (X12.unpackF (secS T 0 (b.extract 0 112))).1 = e := e0
        rw [u0] at this
        have : T = e := this
        omega
    · exact absurd y hne
    · refine old ?_
      by_cases hc : J D base n = none
      · exact hc
      · obtain ⟨⟨e, i', b'⟩, hx⟩ := Option.ne_none_iff_exists'.1 hc
        obtain ⟨vh, _⟩ := jour_some hx
        rw [y] at vh
        exact absurd vh not_nought
end Go.Proofs.Ytcelfhoomhmioaa.St
set_option maxRecDepth 8192
namespace Go.Proofs.Ytcelfhoomhmioaa.St
open Go Go.RowKit Go.ChangeMaps Go.Proofs.YtcelfhoomhmioaaW.PrintWords Go.Proofs.Ytcelfhoomhmioaa.Arr Go.Proofs.Ytcelfhoomhmioaa.Mp Go.Proofs.Ytcelfhoomhmioaa.Ow Go.Proofs.Ytcelfhoomhmioaa.Dk Go.Proofs.Ytcelfhoomhmioaa.Cr
set_option linter.unusedVariables false
set_option linter.unusedSimpArgs false
theorem last_one (p : Int) (s : ByteArray) (q : Int) : lastOf [(p, s)] q = if q = p then some s else none := by simp [lastOf]
theorem last_two (p : Int) (s0 s1 : ByteArray) (q : Int) : lastOf (two p s0 s1) q = if q = p + 1 then some s1 else if q = p then some s0 else none := by simp [lastOf]
def put1 (S : List ByteArray) (p : Int) (s : ByteArray) : List ByteArray := overF (lastOf [(p, s)]) S
def put2 (S : List ByteArray) (p : Int) (s0 s1 : ByteArray) : List ByteArray := overF (lastOf (two p s0 s1)) S
theorem put1_len (S : List ByteArray) (p : Int) (s : ByteArray) : (put1 S p s).length = S.length := over_len _ _
theorem put2_len (S : List ByteArray) (p : Int) (s0 s1 : ByteArray) : (put2 S p s0 s1).length = S.length := over_len _ _
theorem put1_cut (S : List ByteArray) (p : Int) (s : ByteArray) (q : Int) (h0 : 0 ≤ q) (h1 : q < S.length) : cut (put1 S p s) q = if q = p then s else cut S q := by
  unfold put1
  rw [cut_over _ _ _ h0 h1, last_one]
  split <;> rfl
theorem put2_cut (S : List ByteArray) (p : Int) (s0 s1 : ByteArray) (q : Int) (h0 : 0 ≤ q) (h1 : q < S.length) : cut (put2 S p s0 s1) q = if q = p then s0 else if q = p + 1 then s1 else cut S q := by
  unfold put2
  rw [cut_over _ _ _ h0 h1, last_two]
  by_cases a : q = p
  · rw [if_pos a, if_neg (by omega), if_pos a]; rfl
  · by_cases b : q = p + 1
    · rw [if_pos b, if_neg a, if_pos b]; rfl
    · rw [if_neg b, if_neg a, if_neg a, if_neg b]; rfl
theorem both_run {S : List ByteArray} {d : DS} (h : Mid S [] d) {p index t : Int} {b : ByteArray} (hp : 0 ≤ p ∧ p + 1 < S.length) (ht : 0 ≤ t ∧ t < 4294967296) (hi : 0 ≤ index ∧ index < 4294967290) :
    ((bothS p index t b d).1 = 0 ∧ Mid (put2 S p (secS t index (b.extract 0 112)) (secS t (index + 1) (b.extract 112 224))) [] (bothS p index t b d).2) ∨
    ((bothS p index t b d).1 = 4 ∧ Ded S (two p (secS t index (b.extract 0 112)) (secS t (index + 1) (b.extract 112 224))) (bothS p index t b d).2) := by
  have z1 : (b.extract 0 112).size ≤ 112 := by rw [ByteArray.size_extract]; omega
  have z2 : (b.extract 112 224).size ≤ 112 := by rw [ByteArray.size_extract]; omega
  have k1 := secS_size t index (b.extract 0 112) ht (by omega) z1
  have k2 := secS_size t (index + 1) (b.extract 112 224) ht (by omega) z2
  unfold bothS
  rcases mid_write h (p := p) (s := secS t index (b.extract 0 112)) hp.1 (by omega) k1 with ⟨e1, m1⟩ | ⟨e1, m1⟩
  · rw [then_some (show (putS p index t (b.extract 0 112) d).1 = 0 from e1)]
    rcases mid_write m1 (p := p + 1) (s := secS t (index + 1) (b.extract 112 224)) (by omega) hp.2 k2 with ⟨e2, m2⟩ | ⟨e2, m2⟩
    · rw [then_some (show (putS (p + 1) (index + 1) t (b.extract 112 224) (putS p index t (b.extract 0 112) d).2).1 = 0 from e2)]
      rcases mid_sync m2 with ⟨e3, m3⟩ | ⟨e3, m3⟩
      · exact .inl ⟨e3, m3⟩
      · exact .inr ⟨e3, m3⟩
    · rw [then_none (show (putS (p + 1) (index + 1) t (b.extract 112 224) (putS p index t (b.extract 0 112) d).2).1 ≠ 0 from fun z => by have : (4 : Int) = 0 := e2.symm.trans z; omega)]
      exact .inr ⟨e2, m2.mono (fun q m => by simp at m; subst m; simp [two])⟩
  · rw [then_none (show (putS p index t (b.extract 0 112) d).1 ≠ 0 from fun z => by have : (4 : Int) = 0 := e1.symm.trans z; omega)]
    exact .inr ⟨e1, m1.mono (fun q m => by cases m)⟩
theorem both_free {d : DS} (hg : d.gone = false) (hf : d.fuse = -1) (p index t : Int) (b : ByteArray) : (bothS p index t b d).1 ≠ 4 ∧ (bothS p index t b d).2.gone = false ∧ (bothS p index t b d).2.fuse = -1 := by
  unfold bothS
  obtain ⟨a1, a2, a3⟩ := free_write hg hf p (secS t index (b.extract 0 112))
  by_cases e1 : (putS p index t (b.extract 0 112) d).1 = 0
  · rw [then_some e1]
    obtain ⟨b1, b2, b3⟩ := free_write a2 a3 (p + 1) (secS t (index + 1) (b.extract 112 224))
    by_cases e2 : (putS (p + 1) (index + 1) t (b.extract 112 224) (putS p index t (b.extract 0 112) d).2).1 = 0
    · rw [then_some e2]
      obtain ⟨c1, c2, c3⟩ := free_sync b2 b3
      exact ⟨by show syncE _ ≠ 4; rw [show syncE (putS (p + 1) (index + 1) t (b.extract 112 224) (putS p index t (b.extract 0 112) d).2).2 = 0 from c1]; decide, c2, c3⟩
    · rw [then_none e2]
      exact ⟨b1, b2, b3⟩
  · rw [then_none e1]
    exact ⟨a1, a2, a3⟩
theorem jour_free {d : DS} (hg : d.gone = false) (hf : d.fuse = -1) (base t i : Int) (b : ByteArray) : (jourS base t i b d).1 ≠ 4 ∧ (jourS base t i b d).2.gone = false ∧ (jourS base t i b d).2.fuse = -1 := by
  unfold jourS
  obtain ⟨a1, a2, a3⟩ := both_free hg hf base 0 t b
  by_cases e1 : (bothS base 0 t b d).1 = 0
  · rw [then_some e1]
    obtain ⟨b1, b2, b3⟩ := free_write a2 a3 (base + 2) (secS t 2 (byte1 i))
    by_cases e2 : (putS (base + 2) 2 t (byte1 i) (bothS base 0 t b d).2).1 = 0
    · rw [then_some e2]
      obtain ⟨c1, c2, c3⟩ := free_sync b2 b3
      rw [then_some (show (syS (putS (base + 2) 2 t (byte1 i) (bothS base 0 t b d).2).2).1 = 0 from c1)]
      exact both_free c2 c3 _ _ _ _
    · rw [then_none e2]
      exact ⟨b1, b2, b3⟩
  · rw [then_none e1]
    exact ⟨a1, a2, a3⟩
theorem cut_nn {b : ByteArray} (h : b.size = 224) : (b.extract 0 112).size = 112 ∧ (b.extract 112 224).size = 112 := by
  rw [ByteArray.size_extract, ByteArray.size_extract]
  omega
/-- What Write leaves of its sectors. -/
def wrote (S : List ByteArray) (base t i : Int) (b : ByteArray) : List ByteArray :=
  put2 (put1 (put2 S base (secS t 0 (b.extract 0 112)) (secS t 1 (b.extract 112 224))) (base + 2) (secS t 2 (byte1 i))) (hm base i) (secS t (2 * i) (b.extract 0 112)) (secS t (2 * i + 1) (b.extract 112 224))
theorem wrote_len (S : List ByteArray) (base t i : Int) (b : ByteArray) : (wrote S base t i b).length = S.length := by unfold wrote; rw [put2_len, put1_len, put2_len]
/-- A store over a disk: where it lies. -/
structure Lies (S : List ByteArray) (base n : Int) : Prop where
  b0 : 0 ≤ base
  n0 : 0 ≤ n ∧ n ≤ 8
  hi : base + (3 + 2 * n) ≤ S.length
theorem Lies.len {S T : List ByteArray} {base n : Int} (h : Lies S base n) (e : T.length = S.length) : Lies T base n := ⟨h.b0, h.n0, by rw [e]; exact h.hi⟩
/-- The journal, in its three parts. -/
theorem jour_run {S : List ByteArray} {d : DS} (h : Mid S [] d) {base n t i : Int} {b : ByteArray} (hl : Lies S base n) (hi : 0 ≤ i ∧ i < n) (ht : 0 ≤ t ∧ t < 4294967296) :
    ((jourS base t i b d).1 = 0 ∧ Mid (wrote S base t i b) [] (jourS base t i b d).2) ∨
    ((jourS base t i b d).1 = 4 ∧ (Ded S (two base (secS t 0 (b.extract 0 112)) (secS t 1 (b.extract 112 224))) (jourS base t i b d).2 ∨
      Ded (put2 S base (secS t 0 (b.extract 0 112)) (secS t 1 (b.extract 112 224))) [(base + 2, secS t 2 (byte1 i))] (jourS base t i b d).2 ∨
      Ded (put1 (put2 S base (secS t 0 (b.extract 0 112)) (secS t 1 (b.extract 112 224))) (base + 2) (secS t 2 (byte1 i))) (two (hm base i) (secS t (2 * i) (b.extract 0 112)) (secS t (2 * i + 1) (b.extract 112 224))) (jourS base t i b d).2)) := by
  have := hl.b0; have := hl.n0; have := hl.hi
  have ne4 : ∀ {x : Int}, x = 4 → x ≠ 0 := fun e => by omega
  unfold jourS
  rcases both_run h (p := base) (index := 0) (t := t) (b := b) (by omega) ht (by omega) with ⟨e1, m1⟩ | ⟨e1, m1⟩
  · rw [then_some e1]
    have k2 := secS_size t 2 (byte1 i) ht (by decide) (by rw [byte1_size]; decide)
    rcases mid_write m1 (p := base + 2) (s := secS t 2 (byte1 i)) (by omega) (by rw [put2_len]; omega) k2 with ⟨e2, m2⟩ | ⟨e2, m2⟩
    · rw [then_some (show (putS (base + 2) 2 t (byte1 i) (bothS base 0 t b d).2).1 = 0 from e2)]
      rcases mid_sync m2 with ⟨e3, m3⟩ | ⟨e3, m3⟩
      · rw [then_some (show (syS (putS (base + 2) 2 t (byte1 i) (bothS base 0 t b d).2).2).1 = 0 from e3)]
        rcases both_run m3 (p := hm base i) (index := 2 * i) (t := t) (b := b) (by rw [over_len, put2_len]; unfold hm; omega) ht (by omega) with ⟨e4, m4⟩ | ⟨e4, m4⟩
        · exact .inl ⟨e4, m4⟩
        · exact .inr ⟨e4, .inr (.inr m4)⟩
      · rw [then_none (show (syS (putS (base + 2) 2 t (byte1 i) (bothS base 0 t b d).2).2).1 ≠ 0 from ne4 e3)]
        exact .inr ⟨e3, .inr (.inl m3)⟩
    · rw [then_none (show (putS (base + 2) 2 t (byte1 i) (bothS base 0 t b d).2).1 ≠ 0 from ne4 e2)]
      exact .inr ⟨e2, .inr (.inl (m2.mono fun q m => by cases m))⟩
  · rw [then_none (ne4 e1)]
    exact .inr ⟨e1, .inl m1⟩
/-- The store behind the copies. -/
theorem copied {S : List ByteArray} {base n T : Int} {want : Int → Int × ByteArray} (hl : Lies S base n) (h : Good (cut S) base n T want) {b0 b1 : ByteArray} :
    ∀ q, base ≤ q → q < base + (3 + 2 * n) → cut (put2 S base b0 b1) q = if q = base then b0 else if q = base + 1 then b1 else cut S q := fun q a c => put2_cut _ _ _ _ _ (by have := hl.b0; omega) (by have := hl.hi; omega)
theorem behind_copies {S : List ByteArray} {base n T : Int} {want : Int → Int × ByteArray} (hl : Lies S base n) (h : Good (cut S) base n T want) (hT : 0 ≤ T ∧ T < 4294967296) {b : ByteArray} {i : Int} (hi : 0 ≤ i ∧ i < n) {p : Int × ByteArray} (hp : Packed b p) {D : Int → ByteArray}
    (hm' : Mix base (base + (3 + 2 * n)) (cut (put2 S base (secS T 0 (b.extract 0 112)) (secS T 1 (b.extract 112 224)))) [(base + 2, secS T 2 (byte1 i))] D) :
    (D (base + 2) = secS T 2 (byte1 i) → Inv D base n (T + 1) (up want i p) ∧ J D base n = some (T, i, b)) ∧ (D (base + 2) ≠ secS T 2 (byte1 i) → Good D base n (T + 1) want) := by
  have c := copied hl h (b0 := secS T 0 (b.extract 0 112)) (b1 := secS T 1 (b.extract 112 224))
  have hn := hl.n0
  have z := cut_nn hp.size
  refine inv_head hT hn hi hp ?_ ?_ ?_ ?_ ?_ hm'
  · intro q a e v
    rw [c q a e] at v ⊢
    split at v
    · rename_i x
      rw [if_pos x, ep_sec hT (by decide) (by omega)]
      exact Int.le_refl _
    · rename_i x
      rw [if_neg x]
      split at v
      · rename_i y
        rw [if_pos y, ep_sec hT (by decide) (by omega)]
        exact Int.le_refl _
      · rename_i y
        rw [if_neg y]
        exact Int.le_of_lt (h.inv.fine q a e v)
  · intro v
    rw [c _ (by omega) (by omega), if_neg (by omega), if_neg (by omega)] at v ⊢
    exact h.inv.fine _ (by omega) (by omega) v
  · intro k k0 k1
    rw [c _ (by unfold hm; omega) (by unfold hm; omega), c _ (by unfold hm; omega) (by unfold hm; omega), if_neg (by unfold hm; omega), if_neg (by unfold hm; omega), if_neg (by unfold hm; omega), if_neg (by unfold hm; omega)]
    exact h.all k k0 k1
  · rw [c _ (by omega) (by omega), if_pos rfl]
  · rw [c _ (by omega) (by omega), if_neg (by omega), if_pos rfl]
/-- A write's head is there. -/
theorem head_there {S : List ByteArray} {base n T : Int} {want : Int → Int × ByteArray} (hl : Lies S base n) (h : Good (cut S) base n T want) (hT : 0 ≤ T ∧ T < 4294967296) {b : ByteArray} {i : Int} (hi : 0 ≤ i ∧ i < n) {p : Int × ByteArray} (hp : Packed b p) {R : List ByteArray}
    (hR : R = put1 (put2 S base (secS T 0 (b.extract 0 112)) (secS T 1 (b.extract 112 224))) (base + 2) (secS T 2 (byte1 i))) : Inv (cut R) base n (T + 1) (up want i p) ∧ J (cut R) base n = some (T, i, b) := by
  have h0 := hl.b0; have hh := hl.hi; have hn := hl.n0
  have e : ∀ q, base ≤ q → q < base + (3 + 2 * n) → cut R q = if q = base + 2 then secS T 2 (byte1 i) else cut (put2 S base (secS T 0 (b.extract 0 112)) (secS T 1 (b.extract 112 224))) q := fun q a c => by rw [hR]; exact put1_cut _ _ _ _ (by omega) (by rw [put2_len]; omega)
  refine (behind_copies hl h hT hi hp (D := cut R) (fun q a c => ?_)).1 (by rw [e _ (by omega) (by omega), if_pos rfl])
  rw [e q a c]
  by_cases x : q = base + 2
  · rw [if_pos x]; exact .inr (.inl ⟨_, mem_sing.2 ⟨x, rfl⟩, rfl⟩)
  · rw [if_neg x]; exact .inl rfl
/-- A write that is borne: the store has the new page. -/
theorem write_good {S : List ByteArray} {base n T : Int} {want : Int → Int × ByteArray} (hl : Lies S base n) (h : Good (cut S) base n T want) (hT : 0 ≤ T ∧ T < 4294967295) {b : ByteArray} {i : Int} (hi : 0 ≤ i ∧ i < n) {p : Int × ByteArray} (hp : Packed b p) :
    Good (cut (wrote S base T i b)) base n (T + 1) (up want i p) ∧ cut (wrote S base T i b) (base + 2) = secS T 2 (byte1 i) := by
  have h0 := hl.b0; have hh := hl.hi; have hn := hl.n0
  obtain ⟨g1, g2⟩ := head_there hl h ⟨hT.1, by omega⟩ hi hp rfl
  have e : ∀ q, base ≤ q → q < base + (3 + 2 * n) → cut (wrote S base T i b) q = if q = hm base i then secS T (2 * i) (b.extract 0 112) else if q = hm base i + 1 then secS T (2 * i + 1) (b.extract 112 224) else cut (put1 (put2 S base (secS T 0 (b.extract 0 112)) (secS T 1 (b.extract 112 224))) (base + 2) (secS T 2 (byte1 i))) q := fun q a c => by
    unfold wrote
    exact put2_cut _ _ _ _ _ (by omega) (by rw [put1_len, put2_len]; omega)
  refine ⟨good_homes g1 g2 (by omega) hn e, ?_⟩
  rw [e _ (by omega) (by omega), if_neg (by unfold hm; omega), if_neg (by unfold hm; omega), put1_cut _ _ _ _ (by omega) (by rw [put2_len]; omega), if_pos rfl]
theorem storeW_eq {base n T i : Int} {b : ByteArray} {p : Int × ByteArray} (hi : 0 ≤ i ∧ i < n) (hp : Packed b p) (d : DS) : storeW base n T i p.1 p.2 d = ((jourS base T i b d).1, T + 1, (jourS base T i b d).2) := by
  unfold storeW
  rw [if_neg (by omega), hp, if_neg (fun h => h rfl)]
/-- Write, without a fuse. -/
theorem write_free {S : List ByteArray} {d : DS} (h : Mid S [] d) (hf : d.fuse = -1) {base n T i : Int} {want : Int → Int × ByteArray} (hl : Lies S base n) (hG : Good (cut S) base n T want) (hT : 0 ≤ T ∧ T < 4294967295) {b : ByteArray} (hi : 0 ≤ i ∧ i < n) {p : Int × ByteArray} (hp : Packed b p) :
    (storeW base n T i p.1 p.2 d).1 = 0 ∧ (storeW base n T i p.1 p.2 d).2.1 = T + 1 ∧ Mid (wrote S base T i b) [] (storeW base n T i p.1 p.2 d).2.2 ∧ (storeW base n T i p.1 p.2 d).2.2.fuse = -1 := by
  rw [storeW_eq hi hp d]
  obtain ⟨f1, f2, f3⟩ := jour_free h.2.2 hf base T i b
  rcases jour_run h (t := T) (b := b) hl hi (by omega) with ⟨e, m⟩ | ⟨e, _⟩
  · exact ⟨e, rfl, m, f3⟩
  · exact absurd e f1
theorem ix_sec {t i : Int} {b : ByteArray} (ht : 0 ≤ t ∧ t < 4294967296) (hi : 0 ≤ i ∧ i < 4294967296) (hb : b.size ≤ 112) : ix (secS t i b) = i := by unfold ix; rw [u_sec t i b ht hi hb]
theorem bd_sec {t i : Int} {b : ByteArray} (ht : 0 ≤ t ∧ t < 4294967296) (hi : 0 ≤ i ∧ i < 4294967296) (hb : b.size ≤ 112) : bd (secS t i b) = b := by unfold bd; rw [u_sec t i b ht hi hb]
/-- Slabs of a quiet disk. -/
theorem sread_quiet {S : List ByteArray} {d : DS} (h : Mid S [] d) {p : Int} (h0 : 0 ≤ p) (h1 : p < S.length) (k : Int) : sreadF d p k = (ep (cut S p), ix (cut S p), bd (cut S p), (X12.unpackF (cut S p)).2.2.2 == 0 && ix (cut S p) == k) := by
  unfold sreadF
  rw [quiet_readE h h0 h1, if_neg (by decide), quiet_readS h h0 h1]
theorem and_iff {s : ByteArray} {k : Int} : ((X12.unpackF s).2.2.2 == 0 && ix s == k) = true ↔ valid s ∧ ix s = k := by
  rw [Bool.and_eq_true, beq_iff_eq, beq_iff_eq]
  rfl
/-- What is read of a store that is whole. -/
theorem read_good {S : List ByteArray} {d : DS} (h : Mid S [] d) {base n T k : Int} {want : Int → Int × ByteArray} (hl : Lies S base n) (hG : Good (cut S) base n T want) (hk : 0 ≤ k ∧ k < n) : storeR d base n k = ((want k).1, (want k).2, 0) := by
  have h0 := hl.b0; have hh := hl.hi; have hn := hl.n0
  rw [readP_eq]
  unfold readP
  rw [if_neg (by omega), quiet_readE h (p := base + (3 + 2 * k)) (by omega) (by omega), if_neg (by decide), quiet_readS h (p := base + (3 + 2 * k)) (by omega) (by omega), quiet_readS h (p := base + (3 + 2 * k) + 1) (by omega) (by omega),
    sread_quiet h (p := base + (3 + 2 * k)) (by omega) (by omega), sread_quiet h (p := base + (3 + 2 * k + 1)) (by omega) (by omega), show base + (3 + 2 * k + 1) = base + (3 + 2 * k) + 1 by omega]
  rcases hG.all k hk.1 hk.2 with ⟨e0, e1, ew⟩ | ⟨e, b, he, hp, e0, e1⟩
  · unfold hm at e0 e1
    rw [e0, e1, if_pos ⟨rfl, rfl⟩, ew]
  · unfold hm at e0 e1
    have z := cut_nn hp.size
    have cat : b.extract 0 112 ++ b.extract 112 224 = b := by
      have sz := hp.size
      rw [ByteArray.extract_append_extract]
      rw [show min 0 112 = 0 by decide, show max 112 224 = b.size by rw [sz]; decide]
      exact ByteArray.extract_zero_size
    have hpp : Page.packF (want k).1 (want k).2 = (b, 0) := hp
    have pu := X12.pun_pack (a := (want k).1) (dta := (want k).2) (by rw [hpp])
    rw [hpp] at pu
    have pu2 : X12.punF b = ((want k).1, (want k).2, 0) := pu
    have v0 := sec_valid (i := 2 * k) (b := b.extract 0 112) he (by omega) (by omega)
    have v1 := sec_valid (i := 2 * k + 1) (b := b.extract 112 224) he (by omega) (by omega)
    have i0 := ix_sec (i := 2 * k) (b := b.extract 0 112) he (by omega) (by omega)
    have i1 := ix_sec (i := 2 * k + 1) (b := b.extract 112 224) he (by omega) (by omega)
    have y2 : ep (secS e (2 * k) (b.extract 0 112)) = ep (secS e (2 * k + 1) (b.extract 112 224)) := by rw [ep_sec (i := 2 * k) he (by omega) (by omega), ep_sec (i := 2 * k + 1) he (by omega) (by omega)]
    have b0 := bd_sec (i := 2 * k) (b := b.extract 0 112) he (by omega) (by omega)
    have b1 := bd_sec (i := 2 * k + 1) (b := b.extract 112 224) he (by omega) (by omega)
    have nz := sec_nz (i := 2 * k) (b := b.extract 0 112) he (by omega) (by omega)
    rw [← e0] at v0 i0 y2 b0 nz
    rw [← e1] at v1 i1 y2 b1
    clear e0 e1
    generalize cut S (base + (3 + 2 * k)) = s0 at *
    generalize cut S (base + (3 + 2 * k) + 1) = s1 at *
    rw [if_neg (fun x => nz x.1)]
    have y0 := and_iff.2 ⟨v0, i0⟩
    have y1 := and_iff.2 ⟨v1, i1⟩
    dsimp only
    rw [if_pos (And.intro y0 (And.intro y1 y2)), b0, b1, cat]
    have y3 : (X12.punF b).2.2 = 0 := by rw [pu2]
    rw [if_pos y3, pu2]
/-- A new disk. -/
theorem new_mid (L : Nat) : Mid (List.replicate L (noughts 128)) [] (newD L) := ⟨rfl, rfl, rfl⟩
theorem new_good {L : Nat} {base n : Int} (hl : Lies (List.replicate L (noughts 128)) base n) : Good (cut (List.replicate L (noughts 128))) base n 1 (fun _ => noPage) := by
  have h0 := hl.b0; have hh := hl.hi; have hn := hl.n0
  rw [List.length_replicate] at hh
  have c : ∀ q, 0 ≤ q → q < (L : Int) → cut (List.replicate L (noughts 128)) q = noughts 128 := fun q a b => by
    unfold cut
    rw [List.getElem?_replicate, if_pos (by omega)]
    rfl
  refine good_of ⟨fun q a b v => ?_, fun e i b hj => ?_, fun k k0 k1 _ => .inl ⟨c _ (by unfold hm; omega) (by unfold hm; omega), c _ (by unfold hm; omega) (by unfold hm; omega), rfl⟩⟩ ?_
  · rw [c q (by omega) (by omega)] at v
    exact absurd v not_nought
  · obtain ⟨vh, _⟩ := jour_some hj
    rw [c _ (by omega) (by omega)] at vh
    exact absurd vh not_nought
  · by_cases hc : J (cut (List.replicate L (noughts 128))) base n = none
    · exact hc
    · obtain ⟨⟨e, i', b'⟩, hx⟩ := Option.ne_none_iff_exists'.1 hc
      obtain ⟨vh, _⟩ := jour_some hx
      rw [c _ (by omega) (by omega)] at vh
      exact absurd vh not_nought
end Go.Proofs.Ytcelfhoomhmioaa.St
set_option maxRecDepth 8192
namespace Go.Proofs.Ytcelfhoomhmioaa.St
open Go Go.RowKit Go.ChangeMaps Go.Proofs.YtcelfhoomhmioaaW.PrintWords Go.Proofs.Ytcelfhoomhmioaa.Arr Go.Proofs.Ytcelfhoomhmioaa.Mp Go.Proofs.Ytcelfhoomhmioaa.Ow Go.Proofs.Ytcelfhoomhmioaa.Dk Go.Proofs.Ytcelfhoomhmioaa.Cr
set_option linter.unusedVariables false
set_option linter.unusedSimpArgs false
/-- A store over a quiet disk. -/
def QS (base n T : Int) (want : Int → Int × ByteArray) (d : DS) : Prop := ∃ S, Mid S [] d ∧ d.fuse = -1 ∧ Lies S base n ∧ S.length ≤ 512 ∧ Good (cut S) base n T want
/-- A store behind a crash. -/
def CS (base n T : Int) (want : Int → Int × ByteArray) (d : DS) : Prop := ∃ S, Mid S [] d ∧ d.fuse = -1 ∧ Lies S base n ∧ S.length ≤ 512 ∧ Inv (cut S) base n T want
/-- The last ticket stands in the head. -/
def HT (base T : Int) (d : DS) : Prop := T = 1 ∨ (valid (readS d (base + 2)) ∧ ep (readS d (base + 2)) = T - 1)
section
variable {base n T : Int} {want : Int → Int × ByteArray} {d : DS}
theorem QS.cs (h : QS base n T want d) : CS base n T want d := by
  obtain ⟨S, a, b, c, e, f⟩ := h
  exact ⟨S, a, b, c, e, f.inv⟩
theorem mid_ok {S : List ByteArray} {d : DS} (h : Mid S [] d) (hf : d.fuse = -1) (hl : S.length ≤ 512) : OkN 0 d := ⟨⟨by rw [h.2.1]; decide, by rw [hf]; decide, by rw [hf]; decide, by rw [h.1]; exact hl, by rw [h.2.1]; intro p m; cases m⟩, by rw [h.2.1]; decide⟩
theorem CS.ok (h : CS base n T want d) : OkN 0 d := by
  obtain ⟨S, a, b, c, e, f⟩ := h
  exact mid_ok a b e
theorem QS.ok (h : QS base n T want d) : OkN 0 d := h.cs.ok
theorem qs_new (L : Nat) (hL : L ≤ 512) (h0 : 0 ≤ base) (hn : 0 ≤ n ∧ n ≤ 8) (hi : base + (3 + 2 * n) ≤ (L : Int)) : QS base n 1 (fun _ => noPage) (newD L) := by
  have hl : Lies (List.replicate L (noughts 128)) base n := ⟨h0, hn, by rw [List.length_replicate]; exact hi⟩
  exact ⟨_, new_mid L, rfl, hl, by rw [List.length_replicate]; exact hL, new_good hl⟩
theorem packed_iff (p : Int × ByteArray) : (Page.packF p.1 p.2).2 = 0 → Packed (Page.packF p.1 p.2).1 p := fun h => by
  unfold Packed
  rw [← h]
theorem packed_right {p : Int × ByteArray} (h0 : 0 ≤ p.1) (h1 : p.1 ≤ 2147483647) (h2 : p.2.size = 220) : Packed (Page.packF p.1 p.2).1 p := packed_iff p (by unfold Page.packF; rw [if_pos ⟨h0, h1, h2⟩])
/-- Write, on a quiet disk. -/
theorem qs_write (h : QS base n T want d) (hT : 0 ≤ T ∧ T < 4294967295) {i : Int} (hi : 0 ≤ i ∧ i < n) {p : Int × ByteArray} {b : ByteArray} (hp : Packed b p) :
    (storeW base n T i p.1 p.2 d).1 = 0 ∧ (storeW base n T i p.1 p.2 d).2.1 = T + 1 ∧ QS base n (T + 1) (up want i p) (storeW base n T i p.1 p.2 d).2.2 ∧ HT base (T + 1) (storeW base n T i p.1 p.2 d).2.2 := by
  obtain ⟨S, a, b', c, e, f⟩ := h
  obtain ⟨r1, r2, r3, r4⟩ := write_free a b' c f hT hi hp
  obtain ⟨g1, g2⟩ := write_good c f hT hi hp
  refine ⟨r1, r2, ⟨_, r3, r4, c.len (wrote_len _ _ _ _ _), by rw [wrote_len]; exact e, g1⟩, .inr ?_⟩
  have := c.b0; have := c.hi; have := c.n0
  rw [quiet_readS r3 (by omega) (by rw [wrote_len]; omega), g2]
  have hb : (byte1 i).size ≤ 112 := by rw [byte1_size]; decide
  exact ⟨sec_valid (by omega) (by decide) hb, by rw [ep_sec (by omega) (by decide) hb]; omega⟩
theorem qs_read (h : QS base n T want d) {k : Int} (hk : 0 ≤ k ∧ k < n) : storeR d base n k = ((want k).1, (want k).2, 0) := by
  obtain ⟨S, a, b, c, e, f⟩ := h
  exact read_good a c f hk
def AC (base n T : Int) (want : Int → Int × ByteArray) (d : DS) : Prop := ∃ S, Mid S [] d ∧ Lies S base n ∧ S.length ≤ 512 ∧ Inv (cut S) base n T want
end
end Go.Proofs.Ytcelfhoomhmioaa.St
set_option maxRecDepth 8192
namespace Go.Proofs.Ytcelfhoomhmioaa.St
open Go Go.RowKit Go.ChangeMaps Go.Proofs.YtcelfhoomhmioaaW.PrintWords Go.Proofs.Ytcelfhoomhmioaa.Arr Go.Proofs.Ytcelfhoomhmioaa.Mp Go.Proofs.Ytcelfhoomhmioaa.Ow Go.Proofs.Ytcelfhoomhmioaa.Dk Go.Proofs.Ytcelfhoomhmioaa.Fr
set_option linter.unusedVariables false
set_option linter.unusedSimpArgs false
structure SO (w : World) (c : Nat → Nat) (gs g : Nat) (base n T : Int) (d : DS) : Prop where
  sk : SK w (Col c 1) gs g base n T d
  col : c gs = 2
section
variable {M : List Nat} {w w' w0 : World} {c c' : Nat → Nat} {gs g gs2 : Nat} {base n T T2 : Int} {d d' : DS}
theorem SO.keep (h : SO w c gs g base n T d) (hf : Fr M w c w' c') (h1 : 1 ∉ M) (h2 : 2 ∉ M) : SO w' c' gs g base n T d := by
  have hl := h.sk.lt
  refine ⟨⟨?_, ?_, dk_keep h.sk.dk hf h1⟩, (hf.col gs hl).trans h.col⟩
  · exact (hf.blk gs hl (by rw [h.col]; exact h2)).trans h.sk.blk
  · intro e
    have : c' gs = 1 := e
    rw [hf.col gs hl, h.col] at this
    omega
theorem SO.below (h : SO w c gs g base n T d) (hb : Below w.heap.size w w') : SO w' c gs g base n T d := h.keep (Fr.of_below (M := []) hb) (by simp) (by simp)
theorem SO.drew (h : SO w c gs g base n T d) : SO w.drew c gs g base n T d := h.below ((Below.refl _ _).drew)
theorem write_o {N : Nat} (h : SO w c gs g base n T d) (ho : OkN N d) (hN : N < 800000) (hi : (0 ≤ base ∧ base ≤ 900) ∧ 0 ≤ n ∧ n ≤ 8) (ht : 0 ≤ T ∧ T < 4294967295) (i a : Int) (dta : ByteArray) :
    Calls Try.prog 46 #[.pointer (some ⟨gs, 0, none⟩), .int .i64 i, .agg #[.int .i64 a, .string dta]] w fun x w' => x = .returned (.int .i64 (storeW base n T i a dta d).1) ∧ ∃ c', Fr [1, 2] w c w' c' ∧ SO w' c' gs g base n (storeW base n T i a dta d).2.1 (storeW base n T i a dta d).2.2 := by
  have hl := h.sk.lt
  have hS := h.sk.less (S1 := Col (Dk.paint c w.heap.size 1) 1) (fun k hk e => (paint_old hk).trans e)
  have h2 : SK w (Col (Dk.paint c w.heap.size 1) 1) gs g base n T d := ⟨h.sk.blk, fun e => h.sk.off ((paint_old hl).symm.trans e), h.sk.dk.mono fun k hk e => (paint_old hk).trans e⟩
  refine (swrite_calls d g gs base n T i a dta _ w (top_paint c w 1) h2 ho hN hi ht).mono ?_
  rintro x w' ⟨rfl, hk, hf⟩
  refine ⟨rfl, Dk.paint c w.heap.size 1, Fr.of_fs hf (fun k hk => paint_old hk) (fun k hk e => ?_), hk, (paint_old hl).trans h.col⟩
  rcases e with e | e
  · have e2 : Dk.paint c w.heap.size 1 k = 1 := e
    rw [paint_old hk] at e2
    rw [e2]; simp
  · rw [e, h.col]; simp
theorem read_o {N : Nat} (h : SO w c gs g base n T d) (ho : OkN N d) (hi : (0 ≤ base ∧ base ≤ 900) ∧ 0 ≤ n ∧ n ≤ 8) (i : Int) :
    Calls Try.prog 17 #[.pointer (some ⟨gs, 0, none⟩), .int .i64 i] w fun x w' => x = .returned (.tuple #[.agg #[.int .i64 (storeR d base n i).1, .string (storeR d base n i).2.1], .int .i64 (storeR d base n i).2.2]) ∧ Below w.heap.size w w' := sRead_calls d g gs base n T i _ w h.sk ho hi
theorem new_o {N : Nat} (h : DK w (Col c 1) g d) (ho : OkN N d) (hb : base ≤ 1000) (hn : newOk d base n) : Calls Try.prog 26 #[.pointer (some ⟨g, 0, none⟩), .int .i64 base, .int .i64 n] w fun x w' =>
    ∃ gs c', x = .returned (.tuple #[.pointer (some ⟨gs, 0, none⟩), .int .i64 0]) ∧ Fr [] w c w' c' ∧ SO w' c' gs g base n 1 d := by
  refine (snew_calls d g base n _ w h ho hb hn).mono ?_
  rintro x w' ⟨gs, rfl, hgs, hk, hb⟩
  refine ⟨gs, Dk.paint (fun k => c k) w.heap.size 2, rfl, Fr.of_paint hb 2, ⟨hk.blk, fun e => ?_, ?_⟩, paint_new hgs⟩
  · have : Dk.paint (fun k => c k) w.heap.size 2 gs = 1 := e
    rw [paint_new hgs] at this; omega
  · exact (h.mono (S2 := Col (Dk.paint (fun k => c k) w.heap.size 2) 1) fun k hk e => (paint_old hk).trans e).below hb
theorem up_at (want : Int → Int × ByteArray) (k : Int) (p : Int × ByteArray) : St.up want k p k = p := if_pos rfl
theorem up_same (want : Int → Int × ByteArray) (k : Int) : St.up want k (want k) = want := by
  funext j
  unfold St.up
  split
  · rename_i e; rw [e]
  · rfl
end
end Go.Proofs.Ytcelfhoomhmioaa.St
set_option maxRecDepth 8192
namespace Go.Proofs.Ytcelfhoomhmioaa.Pl
open Go Go.RowKit Go.ChangeMaps Go.Proofs.Ytcelfhoomhmioaa.Arr Go.Proofs.Ytcelfhoomhmioaa.Ow Go.Proofs.Ytcelfhoomhmioaa.Dk Go.Proofs.Ytcelfhoomhmioaa.Fr Go.Proofs.Ytcelfhoomhmioaa.Wl Go.Proofs.Ytcelfhoomhmioaa.St
set_option linter.unusedVariables false
set_option linter.unusedSimpArgs false
/-- A pool, its store's ticket, its log, and the disk. -/
structure XS where
  P : PS
  T : Int
  W : WS
  d : DS
/-- A Flush, where a record isn't safe. -/
def safeF (X : XS) (a : Int) : Int × WS × DS := if safeW X.W a then (0, X.W, X.d) else flushW X.W X.d
def frP (P : PS) (k : Nat) : FrS := P.fr.getD k noF
/-- What 'empty' does. -/
def emptyP (b pn : Int) (X : XS) (k : Nat) : Int × XS :=
  if (frP X.P k).di = false then (0, { X with P := letP X.P k })
  else if (safeF X (frP X.P k).a).1 ≠ 0 then ((safeF X (frP X.P k).a).1, { X with W := (safeF X (frP X.P k).a).2.1, d := (safeF X (frP X.P k).a).2.2 })
  else if (storeW b pn X.T (frP X.P k).pg (frP X.P k).a (frP X.P k).dt (safeF X (frP X.P k).a).2.2).1 ≠ 0 then
    ((storeW b pn X.T (frP X.P k).pg (frP X.P k).a (frP X.P k).dt (safeF X (frP X.P k).a).2.2).1, ⟨X.P, (storeW b pn X.T (frP X.P k).pg (frP X.P k).a (frP X.P k).dt (safeF X (frP X.P k).a).2.2).2.1, (safeF X (frP X.P k).a).2.1, (storeW b pn X.T (frP X.P k).pg (frP X.P k).a (frP X.P k).dt (safeF X (frP X.P k).a).2.2).2.2⟩)
  else (0, ⟨letP X.P k, (storeW b pn X.T (frP X.P k).pg (frP X.P k).a (frP X.P k).dt (safeF X (frP X.P k).a).2.2).2.1, (safeF X (frP X.P k).a).2.1, (storeW b pn X.T (frP X.P k).pg (frP X.P k).a (frP X.P k).dt (safeF X (frP X.P k).a).2.2).2.2⟩)
/-- The first empty frame. -/
def freeP (L : List FrS) : Nat := L.findIdx (fun f => decide (f.pg < 0))
/-- What 'room' does: the frame, the error, what is. -/
def roomP (b pn : Int) (X : XS) : Nat × Int × XS :=
  if freeP X.P.fr < X.P.fr.length then (freeP X.P.fr, 0, X)
  else if (emptyP b pn X X.P.hand).1 ≠ 0 then (0, (emptyP b pn X X.P.hand).1, (emptyP b pn X X.P.hand).2)
  else (X.P.hand, 0, { (emptyP b pn X X.P.hand).2 with P := { (emptyP b pn X X.P.hand).2.P with hand := (X.P.hand + 1) % X.P.fr.length } })
/-- A page is put into a frame. -/
def fetchP (P : PS) (k : Nat) (i a : Int) (dt : ByteArray) : PS := { P with fr := P.fr.set k ⟨i, a, dt, false, 0⟩, wh := fun j => if j = i then some (k : Int) else P.wh j }
/-- What Get does: the page, the error, what is. -/
def getP (b pn : Int) (X : XS) (i : Int) : (Int × ByteArray) × Int × XS :=
  if i < 0 ∨ pn ≤ i then ((0, ⟨#[]⟩), 2, X)
  else if 0 ≤ holdsP X.P i then (((frP X.P (holdsP X.P i).toNat).a, (frP X.P (holdsP X.P i).toNat).dt), 0, X)
  else if (roomP b pn X).2.1 ≠ 0 then ((0, ⟨#[]⟩), (roomP b pn X).2.1, (roomP b pn X).2.2)
  else if (storeR (roomP b pn X).2.2.d b pn i).2.2 ≠ 0 then ((0, ⟨#[]⟩), (storeR (roomP b pn X).2.2.d b pn i).2.2, (roomP b pn X).2.2)
  else (((storeR (roomP b pn X).2.2.d b pn i).1, (storeR (roomP b pn X).2.2.d b pn i).2.1), 0, { (roomP b pn X).2.2 with P := fetchP (roomP b pn X).2.2.P (roomP b pn X).1 i (storeR (roomP b pn X).2.2.d b pn i).1 (storeR (roomP b pn X).2.2.d b pn i).2.1 })
/-- A frame that has changed. -/
def soilF (f : FrS) (a : Int) (dt : ByteArray) : FrS := if f.di then { f with a := a, dt := dt } else { f with a := a, dt := dt, di := true, si := a }
/-- What Put does. -/
def putP (P : PS) (i a : Int) (dt : ByteArray) : Int × PS :=
  if holdsP P i < 0 then (7, P)
  else if ¬ (0 ≤ a ∧ a ≤ 2147483647 ∧ dt.size = 220) then (3, P)
  else (0, { P with fr := P.fr.set (holdsP P i).toNat (soilF (frP P (holdsP P i).toNat) a dt) })
/-- What Evict does. -/
def evictP (b pn : Int) (X : XS) (k : Int) : Int × XS :=
  if k < 0 ∨ (X.P.fr.length : Int) ≤ k then (2, X) else if (frP X.P k.toNat).pg < 0 then (7, X) else emptyP b pn X k.toNat
/-- A pool that is new. -/
def newP (n : Nat) : PS := ⟨List.replicate n noF, fun _ => none, 0⟩
/-- A pool in order: its map tells its frames. -/
structure WF (pn : Int) (P : PS) : Prop where
  hand : P.hand < P.fr.length
  wh : ∀ i v, P.wh i = some v → (0 ≤ i ∧ i < pn) ∧ ∃ (k : Nat) (f : FrS), v = (k : Int) ∧ P.fr[k]? = some f ∧ f.pg = i
  inv : ∀ (k : Nat) (f : FrS), P.fr[k]? = some f → 0 ≤ f.pg → P.wh f.pg = some (k : Int)
section
variable {pn : Int} {P : PS}
theorem fr_of {P : PS} {k : Nat} {f : FrS} (h : P.fr[k]? = some f) : frP P k = f ∧ k < P.fr.length := by
  have hk : k < P.fr.length := by
    rcases Nat.lt_or_ge k P.fr.length with h4 | h4
    · exact h4
    · rw [List.getElem?_eq_none h4] at h; cases h
  exact ⟨by unfold frP; rw [List.getD_eq_getElem?_getD, h]; rfl, hk⟩
theorem fr_some {P : PS} {k : Nat} (h : k < P.fr.length) : P.fr[k]? = some (frP P k) := by
  unfold frP
  rw [List.getD_eq_getElem?_getD, List.getElem?_eq_getElem h]
  rfl
theorem WF.holds (h : WF pn P) (i : Int) : holdsP P i = -1 ∧ P.wh i = none ∨ ∃ k : Nat, holdsP P i = (k : Int) ∧ P.wh i = some (k : Int) ∧ k < P.fr.length ∧ (frP P k).pg = i ∧ (0 ≤ i ∧ i < pn) := by
  cases e : P.wh i with
  | none => exact .inl ⟨by unfold holdsP; rw [e]; rfl, rfl⟩
  | some v =>
    obtain ⟨hi, k, f, rfl, h2, h3⟩ := h.wh i v e
    obtain ⟨h4, h5⟩ := fr_of h2
    exact .inr ⟨k, by unfold holdsP; rw [e]; rfl, rfl, h5, by rw [h4]; exact h3, hi⟩
theorem WF.letP (h : WF pn P) {k : Nat} (hk : k < P.fr.length) : WF pn (letP P k) := by
  have hs : (Pl.letP P k).fr = P.fr.set k noF := rfl
  have hw : ∀ j, (Pl.letP P k).wh j = if j = (frP P k).pg then none else P.wh j := fun _ => rfl
  have hkk := fr_some hk
  refine ⟨by rw [hs, List.length_set]; exact h.hand, fun i v e => ?_, fun q f e h0 => ?_⟩
  · rw [hw] at e
    by_cases ei : i = (frP P k).pg
    · rw [if_pos ei] at e; cases e
    · rw [if_neg ei] at e
      obtain ⟨h1, q, f, e1, e2, e3⟩ := h.wh i v e
      refine ⟨h1, q, f, e1, ?_, e3⟩
      rw [hs, List.getElem?_set_ne (fun e4 => ei ?_)]
      · exact e2
      · rw [← e4] at e2
        rw [hkk] at e2
        injection e2 with e2
        rw [e2]; exact e3.symm
  · rw [hs] at e
    by_cases ek : k = q
    · subst ek
      rw [List.getElem?_set_self hk] at e
      injection e with e
      subst e
      exact absurd h0 (by decide)
    · rw [List.getElem?_set_ne ek] at e
      rw [hw, if_neg]
      · exact h.inv q f e h0
      · intro e2
        have h1 := h.inv q f e h0
        have h2 := h.inv k _ hkk (by rw [← e2]; exact h0)
        rw [e2, h2] at h1
        injection h1 with h1
        omega
theorem WF.fetch (h : WF pn P) {k : Nat} (hk : k < P.fr.length) (he : (frP P k).pg < 0) {i : Int} (hi : 0 ≤ i ∧ i < pn) (hn : P.wh i = none) (a : Int) (dt : ByteArray) : WF pn (fetchP P k i a dt) := by
  have hs : (fetchP P k i a dt).fr = P.fr.set k ⟨i, a, dt, false, 0⟩ := rfl
  have hw : ∀ j, (fetchP P k i a dt).wh j = if j = i then some (k : Int) else P.wh j := fun _ => rfl
  have hkk := fr_some hk
  refine ⟨by rw [hs, List.length_set]; exact h.hand, fun j v e => ?_, fun q f e h0 => ?_⟩
  · rw [hw] at e
    by_cases ei : j = i
    · rw [if_pos ei] at e
      injection e with e
      exact ⟨by rw [ei]; exact hi, k, _, e.symm, by rw [hs]; exact List.getElem?_set_self hk, ei.symm⟩
    · rw [if_neg ei] at e
      obtain ⟨h1, q, f, e1, e2, e3⟩ := h.wh j v e
      refine ⟨h1, q, f, e1, ?_, e3⟩
      rw [hs, List.getElem?_set_ne (fun e4 => ?_)]
      · exact e2
      · rw [← e4, hkk] at e2
        injection e2 with e2
        rw [← e2] at e3
        omega
  · rw [hs] at e
    by_cases ek : k = q
    · subst ek
      rw [List.getElem?_set_self hk] at e
      injection e with e
      subst e
      rw [hw, if_pos rfl]
    · rw [List.getElem?_set_ne ek] at e
      have h1 := h.inv q f e h0
      rw [hw, if_neg (fun e2 => ?_)]
      · exact h1
      · rw [e2, hn] at h1; cases h1
theorem WF.soil (h : WF pn P) (k : Nat) (f' : FrS) (he : f'.pg = (frP P k).pg) : WF pn { P with fr := P.fr.set k f' } := by
  refine ⟨by show P.hand < (P.fr.set k f').length; rw [List.length_set]; exact h.hand, fun j v e => ?_, fun q f e h0 => ?_⟩
  · obtain ⟨h1, q, f, e1, e2, e3⟩ := h.wh j v e
    refine ⟨h1, q, ?_⟩
    show ∃ g, v = (q : Int) ∧ (P.fr.set k f')[q]? = some g ∧ g.pg = j
    by_cases ek : k = q
    · subst ek
      refine ⟨f', e1, List.getElem?_set_self (fr_of e2).2, ?_⟩
      rw [he, (fr_of e2).1]; exact e3
    · exact ⟨f, e1, by rw [List.getElem?_set_ne ek]; exact e2, e3⟩
  · have e : (P.fr.set k f')[q]? = some f := e
    show P.wh f.pg = some (q : Int)
    by_cases ek : k = q
    · subst ek
      have hl : k < P.fr.length := by
        have := (fr_of (P := { P with fr := P.fr.set k f' }) e).2
        have h2 : k < (P.fr.set k f').length := this
        rw [List.length_set] at h2; exact h2
      rw [List.getElem?_set_self hl] at e
      injection e with e
      rw [← e] at h0 ⊢
      rw [he] at h0 ⊢
      exact h.inv k _ (fr_some hl) h0
    · rw [List.getElem?_set_ne ek] at e
      exact h.inv q f e h0
end
end Go.Proofs.Ytcelfhoomhmioaa.Pl
set_option maxRecDepth 8192
namespace Go.Proofs.Ytcelfhoomhmioaa.Pl
open Go.Proofs.Ytcelfhoomhmioaa.Rgn
open Go Go.RowKit Go.ChangeMaps Go.Proofs.Ytcelfhoomhmioaa.Arr Go.Proofs.Ytcelfhoomhmioaa.Ow Go.Proofs.Ytcelfhoomhmioaa.Dk Go.Proofs.Ytcelfhoomhmioaa.Fr Go.Proofs.YtcelfhoomhmioaaW.PrintWords Go.Proofs.YtcelfhoomhmioaaW.PrintLast Go.Proofs.YtcelfhoomhmioaaW.PrintMore Go.Proofs.Ytcelfhoomhmioaa.Wl Go.Proofs.Ytcelfhoomhmioaa.St
set_option linter.unusedVariables false
set_option linter.unusedSimpArgs false
/-- A pool, its store, its log, over one disk. -/
structure AO (w : World) (c : Nat → Nat) (gp fb m gs gl ml g n cp : Nat) (b pn : Int) (X : XS) : Prop where
  po : PO w c gp fb m gs gl n cp X.P
  so : SO w c gs g b pn X.T X.d
  lo : LO w c gl ml g X.W
/-- What calls ask. -/
structure Rdy (b pn : Int) (N : Nat) (X : XS) : Prop where
  ok : OkN N X.d
  fit : Fit X.W
  bd : ∀ i, (bdy X.W i).size ≤ 112
  op : X.W.op ≤ 100000000
  gap : X.W.first ≤ X.W.op + 1 ∧ X.W.op - X.W.first ≤ 1000
  hi : (0 ≤ b ∧ b ≤ 900) ∧ 0 ≤ pn ∧ pn ≤ 8
  T : 0 ≤ X.T ∧ X.T < 4294967295
  a : ∀ (k : Nat) (f : FrS), X.P.fr[k]? = some f → -9223372036854775808 ≤ f.a ∧ f.a < 9223372036854775808
section
variable {M : List Nat} {w w' : World} {c c' : Nat → Nat} {gp fb m gs gl ml g n cp : Nat} {b pn : Int} {X : XS}
theorem AO.keep (h : AO w c gp fb m gs gl ml g n cp b pn X) (hf : Fr M w c w' c') (h1 : 1 ∉ M) (h2 : 2 ∉ M) (h3 : 3 ∉ M) (h4 : 4 ∉ M) : AO w' c' gp fb m gs gl ml g n cp b pn X := ⟨h.po.keep hf h4, h.so.keep hf h1 h2, h.lo.keep hf h3⟩
theorem AO.below (h : AO w c gp fb m gs gl ml g n cp b pn X) (hb : Below w.heap.size w w') : AO w' c gp fb m gs gl ml g n cp b pn X := ⟨h.po.below hb, h.so.below hb, h.lo.below hb⟩
theorem AO.drew (h : AO w c gp fb m gs gl ml g n cp b pn X) : AO w.drew c gp fb m gs gl ml g n cp b pn X := ⟨h.po.drew, h.so.drew, h.lo.drew⟩
theorem AO.flush (h : AO w c gp fb m gs gl ml g n cp b pn X) {W' : WS} {d' : DS} (hf : Fr [1, 3] w c w' c') (hl : LO w' c' gl ml g W') (hd : DK w' (Col c' 1) g d') : AO w' c' gp fb m gs gl ml g n cp b pn { X with W := W', d := d' } := by
  have hlt := h.so.sk.lt
  have e2 : c' gs = 2 := (hf.col gs hlt).trans h.so.col
  refine ⟨h.po.keep hf (by decide), ⟨⟨(hf.blk gs hlt (by rw [h.so.col]; decide)).trans h.so.sk.blk, ?_, hd⟩, e2⟩, hl⟩
  intro e
  have : c' gs = 1 := e
  omega
theorem AO.write (h : AO w c gp fb m gs gl ml g n cp b pn X) {T' : Int} {d' : DS} (hf : Fr [1, 2] w c w' c') (hs : SO w' c' gs g b pn T' d') : AO w' c' gp fb m gs gl ml g n cp b pn { X with T := T', d := d' } := ⟨h.po.keep hf (by decide), hs, h.lo.keep hf (by decide)⟩
theorem AO.pool (h : AO w c gp fb m gs gl ml g n cp b pn X) {P' : PS} (hf : Fr [4] w c w' c') (hp : PO w' c' gp fb m gs gl n cp P') : AO w' c' gp fb m gs gl ml g n cp b pn { X with P := P' } := ⟨hp, h.so.keep hf (by decide) (by decide), h.lo.keep hf (by decide)⟩
set_option maxHeartbeats 16000000 in
theorem empty_calls {N : Nat} (h : AO w c gp fb m gs gl ml g n cp b pn X) (r : Rdy b pn N X) (hN : N ≤ 1000) (k : Nat) (hk : k < n) : Calls Try.prog 29 #[.pointer (some ⟨gp, 0, none⟩), .int .i64 (k : Int)] w fun e w' => e = .returned (.int .i64 (emptyP b pn X k).1) ∧ ∃ c', Fr [1, 2, 3, 4] w c w' c' ∧ AO w' c' gp fb m gs gl ml g n cp b pn (emptyP b pn X k).2 := by
  obtain ⟨f, hf, hg⟩ := fr_at h.po hk
  have hki : (k : Int) < (n : Int) := by omega
  have hk0 : (0 : Int) ≤ (k : Int) := by omega
  have HA := Aside0.mk h; have HR := Aside0.mk r; have HN := Aside0.mk hN; have HK := Aside0.mk hk; have HF := Aside0.mk hf; have HG := Aside0.mk (show frP X.P k = f from hg)
  have HFR := Aside0.mk (Fr.refl [1, 2, 3, 4] w c)
  have HAB := Aside0.mk (r.a k f hf)
  have c2 := h.po.c2
  have q3 : w.cell? ⟨fb, k * 5 + 3, none⟩ = some (.bool f.di) := h.po.fcell hf 3 (by decide)
  clear h r hN hf hk hg
  go_enter Try.func29, Try.ntmps29
  cases hdi : f.di with
  | false =>
    rw [hdi] at q3
    have HE := Aside0.mk (show emptyP b pn X k = (0, { X with P := letP X.P k }) by unfold emptyP; rw [HG.out, if_pos hdi])
    clear hdi
    go_upto_region 11 with (go_at_call 33; (with_reducible refine (let_calls HA.out.po k HK.out).mono ?_); rintro e w9 ⟨rfl, hf9, hp9⟩; have HA9 := Aside0.mk (HA.out.pool hf9 hp9); have HFR9 := Aside0.mk (HFR.out.trans (hf9.mono (M2 := [1, 2, 3, 4]) (by decide))); clear hf9 hp9)
    go_wp2
    go_ret
    rw [HE.out]
    exact ⟨rfl, _, HFR9.out, HA9.out⟩
  | true =>
    rw [hdi] at q3
    have HDI := Aside0.mk hdi; clear hdi
    go_upto_region 3 with (fail)
    have HA_n := Aside0.mk HA.out.drew; have HFR_n := Aside0.mk (HFR.out.trans (fr_drew [1, 2, 3, 4] w c)); clear HA HFR; have HA := HA_n; have HFR := HFR_n; clear HA_n HFR_n
    clear c2 q3
    have c1 := HA.out.po.c1
    have q1 : w.drew.cell? ⟨fb, k * 5 + 1, none⟩ = some (.int .i64 f.a) := HA.out.po.fcell HF.out 1 (by decide)
    refine start_ (n := 11) (S := fun w' => w'.cell? ⟨gp, 1, none⟩ = some (.pointer (some ⟨gl, 0, none⟩)) ∧ w'.cell? ⟨fb, k * 5 + 1, none⟩ = some (.int .i64 f.a)) (ds := []) #[false, false, false, false, false, false, false, false, false, false, false] (by kernel_rfl) rfl rfl ⟨c1, q1⟩ (fun hHeld => ?_)
    refine rgp 0 18 ?_
    refine rgp 1 19 ?_
    refine rgp 2 20 ?_
    refine rgp 4 22 ?_
    refine rgp 5 23 ?_
    refine rgp 6 24 ?_
    refine rgp 7 25 ?_
    refine rgt 3 21 hHeld ?_
    refine rgt 8 26 hHeld ?_
    refine one_ (i := 9) (N := some 27) #[true, true, true, true, true, true, true, true, true, true, false] rfl rfl (by kernel_rfl) (by decide) (fun K hK => ?_)
    refine goes_ Try.func24 (by kernel_rfl) rfl #[.pointer (some ⟨gl, 0, none⟩), .int .i64 f.a] (by rfl) rfl rfl (by (try simp only [List.map_toArray, List.map_cons, List.map_nil]); first | done | rfl) ?_
    refine (safe_calls HA.out.lo f.a HAB.out).mono ?_
    rintro e wsf ⟨rfl, hb1⟩
    refine ⟨_, rfl, ?_⟩
    have HA_n := Aside0.mk (HA.out.below hb1); have HFR_n := Aside0.mk (HFR.out.trans (Fr.of_below (M := [1, 2, 3, 4]) hb1)); clear HA HFR hb1; have HA := HA_n; have HFR := HFR_n; clear HA_n HFR_n
    refine hK _ _ ⟨HA.out.po.c1, HA.out.po.fcell HF.out 1 (by decide)⟩ (fun hHeld => ?_)
    clear hK K
    refine norm_ (a' := ?_) ?_ ?_
    rotate_left
    · show Act.put _ (some 27) _ = _
      simp only [Act.put, List.setIfInBounds_toArray, List.set_cons_zero, List.set_cons_succ, i64_w, i32_w]
      rfl
    refine rgp 10 28 ?_
    refine done_ (by kernel_rfl) ?_
    (try clear hHeld)
    clear c1 q1
    (try simp only [Exit.inBlock, Exit.then])
    cases hsa : safeW X.W f.a with
    | true =>
      have HS := Aside0.mk (show safeF X f.a = (0, X.W, X.d) by unfold safeF; rw [hsa]; rfl)
      clear hsa
      have HOK := Aside0.mk (HR.out.ok.mono (show N ≤ N + 1100 by omega))
      go_upto_region 7 with (fail)
      have HA_n := Aside0.mk HA.out.drew; have HFR_n := Aside0.mk (HFR.out.trans (fr_drew [1, 2, 3, 4] wsf _)); clear HA HFR; have HA := HA_n; have HFR := HFR_n; clear HA_n HFR_n
      (try clear c2 q0 q1 q2 q3 c1)
      have c0 := HA.out.po.c0
      have q0 : wsf.drew.cell? ⟨fb, k * 5, none⟩ = some (.int .i64 f.pg) := HA.out.po.fcell HF.out 0 (by decide)
      have q1 : wsf.drew.cell? ⟨fb, k * 5 + 1, none⟩ = some (.int .i64 f.a) := HA.out.po.fcell HF.out 1 (by decide)
      have q2 : wsf.drew.cell? ⟨fb, k * 5 + 2, none⟩ = some (.string f.dt) := HA.out.po.fcell HF.out 2 (by decide)
      refine start_ (n := 14) (S := fun w' => w'.cell? ⟨gp, 0, none⟩ = some (.pointer (some ⟨gs, 0, none⟩)) ∧ w'.cell? ⟨fb, k * 5, none⟩ = some (.int .i64 f.pg) ∧ w'.cell? ⟨fb, k * 5 + 1, none⟩ = some (.int .i64 f.a) ∧ w'.cell? ⟨fb, k * 5 + 2, none⟩ = some (.string f.dt)) (ds := [12]) #[false, false, false, false, false, false, false, false, false, false, false, false, false, false] (by kernel_rfl) rfl rfl ⟨c0, q0, q1, q2⟩ (fun hHeld => ?_)
      refine rgp 0 37 ?_
      refine rgp 1 38 ?_
      refine rgp 2 39 ?_
      refine rgp 4 41 ?_
      refine rgp 5 42 ?_
      refine rgp 6 43 ?_
      refine rgp 8 45 ?_
      refine rgp 9 46 ?_
      refine rgp 10 47 ?_
      refine rgt 3 40 hHeld ?_
      refine rgt 7 44 hHeld ?_
      refine rgt 11 48 hHeld ?_
      refine last_ (i := 12) (N := some 49) #[true, true, true, true, true, true, true, true, true, true, true, true, true, false] rfl rfl (by kernel_rfl) (by decide) (fun K hK => ?_)
      refine goes_ Try.func46 (by kernel_rfl) rfl #[.pointer (some ⟨gs, 0, none⟩), .int .i64 f.pg, .agg #[.int .i64 f.a, .string f.dt]] (by rfl) rfl rfl (by (try simp only [List.map_toArray, List.map_cons, List.map_nil]); first | done | rfl) ?_
      refine (write_o HA.out.so HOK.out (by have := HN.out; omega) HR.out.hi HR.out.T f.pg f.a f.dt).mono ?_
      rintro e w8 ⟨rfl, c8, hf8, hs8⟩
      refine ⟨_, rfl, ?_⟩
      have HA_n := Aside0.mk (HA.out.write hf8 hs8); have HFR_n := Aside0.mk (HFR.out.trans (hf8.mono (M2 := [1, 2, 3, 4]) (by decide))); clear HA HFR hf8 hs8; have HA := HA_n; have HFR := HFR_n; clear HA_n HFR_n
      refine hK _ _ ?_
      clear hK K
      refine norm_ (a' := ?_) ?_ ?_
      rotate_left
      · show Act.put _ (some 49) _ = _
        simp only [Act.put, List.setIfInBounds_toArray, List.set_cons_zero, List.set_cons_succ, i64_w, i32_w]
        rfl
      refine rgp 13 7 ?_
      refine done_ (by kernel_rfl) ?_
      (try clear hHeld)
      clear c0 q0 q1 q2
      (try simp only [Exit.inBlock, Exit.then])
      have HSW := Aside0.mk (rfl : storeW b pn X.T f.pg f.a f.dt X.d = storeW b pn X.T f.pg f.a f.dt X.d)
      generalize hsw : storeW b pn X.T f.pg f.a f.dt X.d = sw at *
      obtain ⟨se, sT, sd⟩ := sw
      have HSE := Aside0.mk hsw; clear hsw HSW
      simp only [] at HA ⊢
      by_cases he : se = 0
      · have e0 : (se != 0) = false := by simpa using he
        have e1 : (se == 0) = true := by simpa using he
        have HE := Aside0.mk (show emptyP b pn X k = (0, ⟨letP X.P k, sT, X.W, sd⟩) by unfold emptyP; rw [HG.out, if_neg (by rw [HDI.out]; decide), HS.out]; simp only []; rw [if_neg (fun x => x rfl), HSE.out, if_neg (fun x => x he)])
        clear he
        go_upto_region 11 with (go_at_call 33; (with_reducible refine (let_calls HA.out.po k HK.out).mono ?_); rintro e w9 ⟨rfl, hf9, hp9⟩; have HA9 := Aside0.mk (HA.out.pool hf9 hp9); have HFR9 := Aside0.mk (HFR.out.trans (hf9.mono (M2 := [1, 2, 3, 4]) (by decide))); clear hf9 hp9)
        go_wp2
        go_ret
        rw [HE.out]
        exact ⟨rfl, _, HFR9.out, HA9.out⟩
      · have e0 : (se != 0) = true := by simpa using he
        have e1 : (se == 0) = false := by simpa using he
        have HE := Aside0.mk (show emptyP b pn X k = (se, ⟨X.P, sT, X.W, sd⟩) by unfold emptyP; rw [HG.out, if_neg (by rw [HDI.out]; decide), HS.out]; simp only []; rw [if_neg (fun x => x rfl), HSE.out, if_pos he])
        clear he
        go_wp2
        go_ret
        rw [HE.out]
        exact ⟨rfl, _, HFR.out, HA.out⟩
    | false =>
      go_upto_region 4 with (fail)
      have c1 := HA.out.po.c1
      generalize hfl : flushW X.W X.d = fl at *
      obtain ⟨fe, Wk, dk⟩ := fl
      have HFL := Aside0.mk hfl; clear hfl
      have HSF := Aside0.mk (show safeF X f.a = (fe, Wk, dk) by unfold safeF; rw [hsa, if_neg (by decide)]; exact HFL.out)
      clear hsa
      go_upto_region 5 with (go_at_call 45; (with_reducible refine (flush_calls HA.out.lo HA.out.so.sk.dk HR.out.ok HN.out HR.out.fit HR.out.bd HR.out.op HR.out.gap).mono ?_); rintro e w7 ⟨rfl, c7, hf7, hl7, hd7, ho7⟩; rw [HFL.out] at hl7 hd7 ho7 ⊢; simp only [] at hl7 hd7 ho7 ⊢; have HA_n := Aside0.mk (HA.out.flush hf7 hl7 hd7); have HFR_n := Aside0.mk (HFR.out.trans (hf7.mono (M2 := [1, 2, 3, 4]) (by decide))); have HOK := Aside0.mk ho7; clear HA HFR hf7 hl7 hd7 ho7; have HA := HA_n; have HFR := HFR_n; clear HA_n HFR_n)
      clear c1
      by_cases hfe : fe = 0
      · have e0 : (fe != 0) = false := by simpa using hfe
        have e1 : (fe == 0) = true := by simpa using hfe
        subst hfe
        have HS := HSF; clear HSF
        go_upto_region 7 with (fail)
        have HA_n := Aside0.mk HA.out.drew; have HFR_n := Aside0.mk (HFR.out.trans (fr_drew [1, 2, 3, 4] w7 _)); clear HA HFR; have HA := HA_n; have HFR := HFR_n; clear HA_n HFR_n
        (try clear c2 q0 q1 q2 q3 c1)
        have c0 := HA.out.po.c0
        have q0 : w7.drew.cell? ⟨fb, k * 5, none⟩ = some (.int .i64 f.pg) := HA.out.po.fcell HF.out 0 (by decide)
        have q1 : w7.drew.cell? ⟨fb, k * 5 + 1, none⟩ = some (.int .i64 f.a) := HA.out.po.fcell HF.out 1 (by decide)
        have q2 : w7.drew.cell? ⟨fb, k * 5 + 2, none⟩ = some (.string f.dt) := HA.out.po.fcell HF.out 2 (by decide)
        refine start_ (n := 14) (S := fun w' => w'.cell? ⟨gp, 0, none⟩ = some (.pointer (some ⟨gs, 0, none⟩)) ∧ w'.cell? ⟨fb, k * 5, none⟩ = some (.int .i64 f.pg) ∧ w'.cell? ⟨fb, k * 5 + 1, none⟩ = some (.int .i64 f.a) ∧ w'.cell? ⟨fb, k * 5 + 2, none⟩ = some (.string f.dt)) (ds := [12]) #[false, false, false, false, false, false, false, false, false, false, false, false, false, false] (by kernel_rfl) rfl rfl ⟨c0, q0, q1, q2⟩ (fun hHeld => ?_)
        refine rgp 0 37 ?_
        refine rgp 1 38 ?_
        refine rgp 2 39 ?_
        refine rgp 4 41 ?_
        refine rgp 5 42 ?_
        refine rgp 6 43 ?_
        refine rgp 8 45 ?_
        refine rgp 9 46 ?_
        refine rgp 10 47 ?_
        refine rgt 3 40 hHeld ?_
        refine rgt 7 44 hHeld ?_
        refine rgt 11 48 hHeld ?_
        refine last_ (i := 12) (N := some 49) #[true, true, true, true, true, true, true, true, true, true, true, true, true, false] rfl rfl (by kernel_rfl) (by decide) (fun K hK => ?_)
        refine goes_ Try.func46 (by kernel_rfl) rfl #[.pointer (some ⟨gs, 0, none⟩), .int .i64 f.pg, .agg #[.int .i64 f.a, .string f.dt]] (by rfl) rfl rfl (by (try simp only [List.map_toArray, List.map_cons, List.map_nil]); first | done | rfl) ?_
        refine (write_o HA.out.so HOK.out (by have := HN.out; omega) HR.out.hi HR.out.T f.pg f.a f.dt).mono ?_
        rintro e w8 ⟨rfl, c8, hf8, hs8⟩
        refine ⟨_, rfl, ?_⟩
        have HA_n := Aside0.mk (HA.out.write hf8 hs8); have HFR_n := Aside0.mk (HFR.out.trans (hf8.mono (M2 := [1, 2, 3, 4]) (by decide))); clear HA HFR hf8 hs8; have HA := HA_n; have HFR := HFR_n; clear HA_n HFR_n
        refine hK _ _ ?_
        clear hK K
        refine norm_ (a' := ?_) ?_ ?_
        rotate_left
        · show Act.put _ (some 49) _ = _
          simp only [Act.put, List.setIfInBounds_toArray, List.set_cons_zero, List.set_cons_succ, i64_w, i32_w]
          rfl
        refine rgp 13 7 ?_
        refine done_ (by kernel_rfl) ?_
        (try clear hHeld)
        clear c0 q0 q1 q2
        (try simp only [Exit.inBlock, Exit.then])
        have HSW := Aside0.mk (rfl : storeW b pn X.T f.pg f.a f.dt dk = storeW b pn X.T f.pg f.a f.dt dk)
        generalize hsw : storeW b pn X.T f.pg f.a f.dt dk = sw at *
        obtain ⟨se, sT, sd⟩ := sw
        have HSE := Aside0.mk hsw; clear hsw HSW
        simp only [] at HA ⊢
        by_cases he : se = 0
        · have e0 : (se != 0) = false := by simpa using he
          have e1 : (se == 0) = true := by simpa using he
          have HE := Aside0.mk (show emptyP b pn X k = (0, ⟨letP X.P k, sT, Wk, sd⟩) by unfold emptyP; rw [HG.out, if_neg (by rw [HDI.out]; decide), HS.out]; simp only []; rw [if_neg (fun x => x rfl), HSE.out, if_neg (fun x => x he)])
          clear he
          go_upto_region 11 with (go_at_call 33; (with_reducible refine (let_calls HA.out.po k HK.out).mono ?_); rintro e w9 ⟨rfl, hf9, hp9⟩; have HA9 := Aside0.mk (HA.out.pool hf9 hp9); have HFR9 := Aside0.mk (HFR.out.trans (hf9.mono (M2 := [1, 2, 3, 4]) (by decide))); clear hf9 hp9)
          go_wp2
          go_ret
          rw [HE.out]
          exact ⟨rfl, _, HFR9.out, HA9.out⟩
        · have e0 : (se != 0) = true := by simpa using he
          have e1 : (se == 0) = false := by simpa using he
          have HE := Aside0.mk (show emptyP b pn X k = (se, ⟨X.P, sT, Wk, sd⟩) by unfold emptyP; rw [HG.out, if_neg (by rw [HDI.out]; decide), HS.out]; simp only []; rw [if_neg (fun x => x rfl), HSE.out, if_pos he])
          clear he
          go_wp2
          go_ret
          rw [HE.out]
          exact ⟨rfl, _, HFR.out, HA.out⟩
      · have e0 : (fe != 0) = true := by simpa using hfe
        have e1 : (fe == 0) = false := by simpa using hfe
        have HE := Aside0.mk (show emptyP b pn X k = (fe, { X with W := Wk, d := dk }) by unfold emptyP; rw [HG.out, if_neg (by rw [HDI.out]; decide), HSF.out]; simp only []; rw [if_pos hfe])
        clear hfe
        go_wp2
        go_ret
        rw [HE.out]
        exact ⟨rfl, _, HFR.out, HA.out⟩
end
end Go.Proofs.Ytcelfhoomhmioaa.Pl
set_option maxRecDepth 8192
namespace Go.Proofs.Ytcelfhoomhmioaa.Pl
open Go Go.RowKit Go.ChangeMaps Go.Proofs.Ytcelfhoomhmioaa.Arr Go.Proofs.Ytcelfhoomhmioaa.Ow Go.Proofs.Ytcelfhoomhmioaa.Dk Go.Proofs.Ytcelfhoomhmioaa.Fr Go.Proofs.YtcelfhoomhmioaaW.PrintWords Go.Proofs.YtcelfhoomhmioaaW.PrintLast Go.Proofs.YtcelfhoomhmioaaW.PrintMore Go.Proofs.Ytcelfhoomhmioaa.Wl Go.Proofs.Ytcelfhoomhmioaa.St
set_option linter.unusedVariables false
set_option linter.unusedSimpArgs false
theorem free_at {L : List FrS} {j : Nat} (hj : j < L.length) (h1 : (L.getD j noF).pg < 0) (h0 : ∀ q, q < j → 0 ≤ (L.getD q noF).pg) : freeP L = j := by
  have e : ∀ q (hq : q < L.length), L.getD q noF = L[q] := fun q hq => by rw [List.getD_eq_getElem?_getD, List.getElem?_eq_getElem hq]; rfl
  unfold freeP
  rw [List.findIdx_eq hj]
  refine ⟨decide_eq_true (by rw [e j hj] at h1; exact h1), fun q hq => decide_eq_false ?_⟩
  have := h0 q hq
  rw [e q (by omega)] at this
  omega
theorem free_no {L : List FrS} (h0 : ∀ q, q < L.length → 0 ≤ (L.getD q noF).pg) : ¬ freeP L < L.length := by
  intro h
  have h1 := List.findIdx_getElem (w := h)
  have h2 := h0 _ h
  rw [List.getD_eq_getElem?_getD, List.getElem?_eq_getElem h] at h2
  have h1 := of_decide_eq_true h1
  unfold freeP at h2
  simp only [Option.getD_some] at h2
  omega
theorem empty_hand (b pn : Int) (X : XS) (k : Nat) : (emptyP b pn X k).2.P.hand = X.P.hand := by
  unfold emptyP
  split
  · rfl
  · split
    · rfl
    · split <;> rfl
section
variable {w : World} {c : Nat → Nat} {gp fb m gs gl ml g n cp : Nat} {b pn : Int} {X : XS}
set_option maxHeartbeats 16000000 in
theorem room_calls {N : Nat} (h : AO w c gp fb m gs gl ml g n cp b pn X) (r : Rdy b pn N X) (hN : N ≤ 1000) (hh : X.P.hand < n) : Calls Try.prog 31 #[.pointer (some ⟨gp, 0, none⟩)] w fun e w' => e = .returned (.tuple #[.int .i64 ((roomP b pn X).1 : Nat), .int .i64 (roomP b pn X).2.1]) ∧ ∃ c', Fr [1, 2, 3, 4] w c w' c' ∧ AO w' c' gp fb m gs gl ml g n cp b pn (roomP b pn X).2.2 := by
  have HA := Aside0.mk h; have HR := Aside0.mk r; have HN := Aside0.mk hN; have HH := Aside0.mk hh; have HL := Aside0.mk h.po.len; have HN8 := Aside0.mk h.po.nn
  have HFR := Aside0.mk (Fr.refl [1, 2, 3, 4] w c)
  have c2 := h.po.c2
  clear h r hN hh
  go_enter Try.func31, Try.ntmps31
  go_upto_region 2 with (fail)
  clear c2
  go_loopw [12] (fun kv wr => ∃ j : Nat, kv = .int .i64 j ∧ Aside0 (j ≤ n) ∧ Aside0 (∀ q, q < j → 0 ≤ (X.P.fr.getD q noF).pg) ∧ Aside0 (AO wr c gp fb m gs gl ml g n cp b pn X) ∧ Aside0 (Fr [1, 2, 3, 4] w c wr c)) (fun kv _ => n - (intOf kv).toNat)
  case atStart => exact ⟨0, rfl, ⟨Nat.zero_le _⟩, ⟨fun q hq => by omega⟩, HA, HFR⟩
  case round =>
    clear HA HFR
    obtain ⟨j, rfl, J, HE, HA, HFR⟩ := hrel
    have c2 := HA.out.po.c2
    by_cases hlt : j < n
    · have hji : (j : Int) < (n : Int) := by omega
      have hj0 : (0 : Int) ≤ (j : Int) := by omega
      have hwj : wrap64 ((j : Int) + 1) = ((j + 1 : Nat) : Int) := by have := HN8.out; unfold wrap64; omega
      obtain ⟨f, hf, hg⟩ := fr_at HA.out.po hlt
      have HF := Aside0.mk hf; have HG := Aside0.mk hg; have HLT := Aside0.mk hlt
      have q0 : wr.cell? ⟨fb, j * 5, none⟩ = some (.int .i64 f.pg) := HA.out.po.fcell hf 0 (by decide)
      clear hf hg hlt
      by_cases hp : f.pg < 0
      · have HFR0 := Aside0.mk (show freeP X.P.fr = j from free_at (by rw [HL.out]; exact HLT.out) (by rw [HG.out]; exact hp) HE.out)
        have HRM := Aside0.mk (show roomP b pn X = (j, 0, X) by unfold roomP; rw [HFR0.out, if_pos (by rw [HL.out]; exact HLT.out)])
        go_wp2
        go_ret2
        rw [HRM.out]
        exact ⟨rfl, c, HFR.out, HA.out⟩
      · have HP := Aside0.mk hp
        go_wp2
        go_roundw
        case rel => exact ⟨j + 1, by first | rfl | (rw [hwj]) | go_num, ⟨by have := HLT.out; omega⟩, ⟨fun q hq => by
          by_cases e : q = j
          · rw [e, HG.out]; have := HP.out; omega
          · exact HE.out q (by omega)⟩, HA, HFR⟩
        case measure =>
          have := HLT.out
          (try rw [hwj])
          simp only [intOf]; omega
    · obtain rfl : j = n := by have := J.out; omega
      have HNF := Aside0.mk (show ¬ freeP X.P.fr < X.P.fr.length from free_no (fun q hq => HE.out q (by rw [HL.out] at hq; exact hq)))
      have c4 := HA.out.po.c4
      have hlf : decide ((j : Int) < (j : Int)) = false := by simp
      generalize hem : emptyP b pn X X.P.hand = em at *
      obtain ⟨ee, X1⟩ := em
      have HEM := Aside0.mk hem; clear hem
      go_upto_region 9 with (go_at_call 29; (with_reducible refine (empty_calls HA.out HR.out HN.out X.P.hand HH.out).mono ?_); rintro e w1 ⟨rfl, c1, hf1, ha1⟩; rw [HEM.out] at ha1 ⊢; simp only [] at ha1 ⊢; have HFR_n := Aside0.mk (HFR.out.trans hf1); clear HFR; have HFR := HFR_n; clear HFR_n; have HA1 := Aside0.mk ha1; clear hf1 ha1)
      clear c2 c4
      by_cases he : ee = 0
      · have e0 : (ee != 0) = false := by simpa using he
        have e1 : (ee == 0) = true := by simpa using he
        subst he
        have HRM := Aside0.mk (show roomP b pn X = (X.P.hand, 0, { X1 with P := { X1.P with hand := (X.P.hand + 1) % X.P.fr.length } }) by unfold roomP; rw [if_neg HNF.out, HEM.out]; simp only []; rw [if_neg (fun x => x rfl)])
        have HHD := Aside0.mk (show X1.P.hand = X.P.hand by have := empty_hand b pn X X.P.hand; rw [HEM.out] at this; exact this)
        go_upto_region 11 with (fail)
        have HA1_n := Aside0.mk (HA1.out.drew); clear HA1; have HA1 := HA1_n; clear HA1_n
        have HFR_n := Aside0.mk (HFR.out.trans (fr_drew [1, 2, 3, 4] w1 c1)); clear HFR; have HFR := HFR_n; clear HFR_n
        have c2 := HA1.out.po.c2; have c4 := HA1.out.po.c4; have f4 := HA1.out.po.fz 4
        rw [HHD.out] at c4
        have hwh : wrap64 ((X.P.hand : Int) + 1) = (X.P.hand : Int) + 1 := by have := HH.out; have := HN8.out; unfold wrap64; omega
        have hww : IntKind.i64.wrap ((X.P.hand : Int) + 1) = (X.P.hand : Int) + 1 := (i64_w _).trans hwh
        have hnz : ¬ (j = 0) := by have := HH.out; omega
        have hnz1 : ¬ ((j : Int) = 0) := by have := HH.out; omega
        have hmd : ((X.P.hand : Int) + 1).tmod (j : Int) = (((X.P.hand + 1) % j : Nat) : Int) := rfl
        have hv := Aside0.mk (show ((X.P.hand : Int) + 1) % (j : Int) = (((X.P.hand + 1) % X.P.fr.length : Nat) : Int) by rw [HL.out]; push_cast; rfl)
        go_region
        go_wp2
        go_ret2
        rw [HRM.out, hv.out]
        have hs := HA1.out.po.hand ((X.P.hand + 1) % X.P.fr.length)
        refine ⟨rfl, c1, HFR.out.trans (hs.2.mono (M2 := [1, 2, 3, 4]) (by decide)), ?_⟩
        have ha := HA1.out.pool hs.2 hs.1
        rw [HL.out] at ha ⊢
        exact ha
      · have e0 : (ee != 0) = true := by simpa using he
        have e1 : (ee == 0) = false := by simpa using he
        have HRM := Aside0.mk (show roomP b pn X = (0, ee, X1) by unfold roomP; rw [if_neg HNF.out, HEM.out]; simp only []; rw [if_pos he])
        clear he
        go_wp2
        go_ret2
        rw [HRM.out]
        exact ⟨rfl, c1, HFR.out, HA1.out⟩
end
end Go.Proofs.Ytcelfhoomhmioaa.Pl
set_option maxRecDepth 8192
namespace Go.Proofs.Ytcelfhoomhmioaa.Pl
open Go Go.RowKit Go.ChangeMaps Go.Proofs.Ytcelfhoomhmioaa.Arr Go.Proofs.Ytcelfhoomhmioaa.Ow Go.Proofs.Ytcelfhoomhmioaa.Dk Go.Proofs.Ytcelfhoomhmioaa.Fr Go.Proofs.YtcelfhoomhmioaaW.PrintWords Go.Proofs.YtcelfhoomhmioaaW.PrintLast Go.Proofs.YtcelfhoomhmioaaW.PrintMore Go.Proofs.Ytcelfhoomhmioaa.Wl Go.Proofs.Ytcelfhoomhmioaa.St
set_option linter.unusedVariables false
set_option linter.unusedSimpArgs false
theorem Fr.newcell {M : List Nat} {w w' : World} {c c' : Nat → Nat} (h : Fr M w c w' c') {p : Addr} (hb : w.heap.size ≤ p.block) (v : Value) : Fr M w c (w'.setCell p v) c' :=
  ⟨h.os, h.tape, h.output, by simp [World.setCell]; exact h.size, h.col, fun k hk hn => (Below.heap_setCell w' p v k (by omega)).trans (h.blk k hk hn)⟩
theorem Loc.set2 {w : World} {c : Nat → Nat} {b x : Nat} {a0 a1 : Value} {T : TypeId} (h : Fr.Loc w c b x #[a0, a1] T) (v0 v1 : Value) : Fr.Loc ((w.setCell ⟨b, 0, none⟩ v0).setCell ⟨b, 1, none⟩ v1) c b x #[v0, v1] T ∧ Fr [x] w c ((w.setCell ⟨b, 0, none⟩ v0).setCell ⟨b, 1, none⟩ v1) c := by
  have h1 := h.set 0 v0
  exact ⟨h1.set 1 v1, (h.set_fr 0 v0).trans (h1.set_fr 1 v1)⟩
theorem room_lt (b pn : Int) (X : XS) {n : Nat} (hl : X.P.fr.length = n) (hh : X.P.hand < n) : (roomP b pn X).1 < n := by
  unfold roomP
  split
  · rename_i h; rw [← hl]; exact h
  · split
    · show 0 < n; omega
    · exact hh
end Go.Proofs.Ytcelfhoomhmioaa.Pl
set_option maxRecDepth 8192
namespace Go.Proofs.Ytcelfhoomhmioaa.Pl
open Go Go.RowKit Go.ChangeMaps Go.Proofs.Ytcelfhoomhmioaa.Arr Go.Proofs.Ytcelfhoomhmioaa.Ow Go.Proofs.Ytcelfhoomhmioaa.Dk Go.Proofs.Ytcelfhoomhmioaa.Fr Go.Proofs.YtcelfhoomhmioaaW.PrintWords Go.Proofs.YtcelfhoomhmioaaW.PrintLast Go.Proofs.YtcelfhoomhmioaaW.PrintMore Go.Proofs.Ytcelfhoomhmioaa.Wl Go.Proofs.Ytcelfhoomhmioaa.St
set_option linter.unusedVariables false
set_option linter.unusedSimpArgs false
/-- The cells of empty frames. -/
def ec (j : Nat) : List Value := (List.replicate j ()).flatMap fun _ => [.int .i64 (-1), .int .i64 0, .string ⟨#[]⟩, .bool false, .int .i64 0]
theorem ec_push (j : Nat) : ec (j + 1) = ec j ++ [.int .i64 (-1), .int .i64 0, .string ⟨#[]⟩, .bool false, .int .i64 0] := by
  unfold ec
  rw [List.replicate_succ', List.flatMap_append]
  rfl
theorem ec_len (j : Nat) : (ec j).length = j * 5 := by
  induction j with
  | zero => rfl
  | succ j ih => rw [ec_push, List.length_append, ih]; simp; omega
theorem ec_get (j k i : Nat) (hk : k < j) (hi : i < 5) : (ec j)[k * 5 + i]? = some (fv noF i) := by
  induction j with
  | zero => omega
  | succ j ih =>
    rw [ec_push]
    by_cases e : k = j
    · subst e
      rw [List.getElem?_append_right (by rw [ec_len]; omega), ec_len, show k * 5 + i - k * 5 = i by omega]
      match i, hi with
      | 0, _ => rfl
      | 1, _ => rfl
      | 2, _ => rfl
      | 3, _ => rfl
      | 4, _ => rfl
      | q + 5, h => omega
    · rw [List.getElem?_append_left (by rw [ec_len]; omega)]
      exact ih (by omega)
theorem infoF : (Try.prog.info? TFr).map (fun i => (i.zero, i.size, i.bytes)) = some (some (.agg #[.int .i64 0, .int .i64 0, .string ⟨#[]⟩, .bool false, .int .i64 0]), 5, 48) := by kernel_rfl
theorem append_fr {w : World} {S : Nat → Prop} {v : Value} (j : Nat) (h : Ow w S TFr 5 v j (ec j)) {g0 : Nat} (hg : w.heap[g0]? = some (.cells #[.int .i64 (-1), .int .i64 0, .string ⟨#[]⟩, .bool false, .int .i64 0] TFr (0, 0))) (hl : j ≤ 1000000) (ty : TypeId) :
    ∃ v' w', (Builtin.append_ #[72, 72] ty #[v, .slice (some ⟨g0, 0, none⟩) 1 1]).run Try.prog w = .ok v' w' ∧ Ow w' (fun k => S k ∨ k = w.heap.size) TFr 5 v' (j + 1) (ec (j + 1)) ∧ w.grownBy w' v.ownBlock ∧ (v'.ownBlock = v.ownBlock ∨ v'.ownBlock = some w.heap.size) ∧ ∃ g' c', v' = .slice (some ⟨g', 0, none⟩) (j + 1) c' := by
  obtain ⟨i0, hi, h2⟩ := Option.map_eq_some_iff.1 infoF
  have hz : i0.zero = some (.agg #[.int .i64 0, .int .i64 0, .string ⟨#[]⟩, .bool false, .int .i64 0]) := congrArg Prod.fst h2
  have hs : i0.size = 5 := congrArg (fun p => p.2.1) h2
  have hb : i0.bytes = 48 := congrArg (fun p => p.2.2) h2
  have r := run_append_ow (P := Try.prog) (ty := ty) 72 TFr i0 _ 5 48 (by kernel_rfl) hi hz hs hb rfl (by decide) v j _ h ⟨g0, 0, none⟩ 1 1 [.int .i64 (-1), .int .i64 0, .string ⟨#[]⟩, .bool false, .int .i64 0] rfl (fun i u hj => ?_) (fun u hu => ?_) (by simp only [maxLen]; omega) (by omega) (by decide)
  · rw [ec_push]
    exact r
  · match i with
    | 0 => exact (blk_cell hg 0).trans (by simpa using hj)
    | 1 => exact (blk_cell hg 1).trans (by simpa using hj)
    | 2 => exact (blk_cell hg 2).trans (by simpa using hj)
    | 3 => exact (blk_cell hg 3).trans (by simpa using hj)
    | 4 => exact (blk_cell hg 4).trans (by simpa using hj)
    | i + 5 => simp at hj
  · rcases List.mem_cons.1 hu with rfl | hu
    · rfl
    · rcases List.mem_cons.1 hu with rfl | hu
      · rfl
      · rcases List.mem_cons.1 hu with rfl | hu
        · rfl
        · rcases List.mem_cons.1 hu with rfl | hu
          · rfl
          · rcases List.mem_cons.1 hu with rfl | hu
            · rfl
            · cases hu
theorem heap_alloc_size_ (w : World) (o : Obj) : (w.alloc o).heap.size = w.heap.size + 1 := by simp
theorem pnew_bad (p1 p2 : Addr) (q : Int) (hq : q < 1 ∨ 8 < q) (w : World) : Calls Try.prog 19 #[.pointer (some p1), .pointer (some p2), .int .i64 q] w fun e w' => e = .returned (.tuple #[.pointer none, .int .i64 1]) ∧ Below w.heap.size w w' := by
  by_cases h1 : q < 1
  · clear hq
    go_enter Try.func19, Try.ntmps19
    go_wp2
    go_ret2
    exact ⟨rfl, Below.refl _ _⟩
  · have h8 : 8 < q := by omega
    clear hq
    go_enter Try.func19, Try.ntmps19
    go_wp2
    go_ret2
    exact ⟨rfl, Below.refl _ _⟩
set_option maxHeartbeats 16000000 in
theorem pnew_calls (gs gl nf : Nat) (hn : 1 ≤ nf ∧ nf ≤ 8) (w : World) (c : Nat → Nat) : Calls Try.prog 19 #[.pointer (some ⟨gs, 0, none⟩), .pointer (some ⟨gl, 0, none⟩), .int .i64 (nf : Int)] w fun e w' => ∃ gp fb m cp c', e = .returned (.tuple #[.pointer (some ⟨gp, 0, none⟩), .int .i64 0]) ∧ Fr [] w c w' c' ∧ PO w' c' gp fb m gs gl nf cp (newP nf) := by
  have HN := Aside0.mk hn
  have h1 : ¬ ((nf : Int) < 1) := by omega
  have h8 : ¬ ((8 : Int) < (nf : Int)) := by omega
  have hmm : ∀ W : World, (Instr.makeMap 47 none).run Try.prog W = .ok (.map (some W.heap.size)) (W.alloc (.map #[] 0)) := fun W => rfl
  clear hn
  go_enter Try.func19, Try.ntmps19
  go_upto_region 6 with (fail)
  clear h1 h8 hmm
  have hm := Mi.MP.made w
  have ba := (Below.refl w.heap.size w).alloc (Nat.le_refl _) (.map #[] 0)
  have bb := (Below.refl (w.alloc (.map #[] 0)).heap.size (w.alloc (.map #[] 0))).alloc (Nat.le_refl _) (.cells #[.pointer (some ⟨gs, 0, none⟩), .pointer (some ⟨gl, 0, none⟩), .slice none 0 0, .map (some w.heap.size), .int .i64 0] TPl)
  have HB := Aside0.mk (Arr.below_trans ba bb)
  have hnew := heap_alloc_new (w.alloc (.map #[] 0)) (.cells #[.pointer (some ⟨gs, 0, none⟩), .pointer (some ⟨gl, 0, none⟩), .slice none 0 0, .map (some w.heap.size), .int .i64 0] TPl)
  rw [show (w.alloc (.map #[] 0)).heap.size = w.heap.size + 1 by simp] at hnew bb
  have HM := Aside0.mk (hm.same (bb.block _ (by simp)))
  have HG := Aside0.mk hnew
  have HSZ := Aside0.mk (show w.heap.size + 2 ≤ ((w.alloc (.map #[] 0)).alloc (.cells #[.pointer (some ⟨gs, 0, none⟩), .pointer (some ⟨gl, 0, none⟩), .slice none 0 0, .map (some w.heap.size), .int .i64 0] TPl)).heap.size by simp)
  clear hm ba bb hnew
  generalize (w.alloc (.map #[] 0)).alloc (.cells #[.pointer (some ⟨gs, 0, none⟩), .pointer (some ⟨gl, 0, none⟩), .slice none 0 0, .map (some w.heap.size), .int .i64 0] TPl) = W0 at *
  obtain ⟨m, hm⟩ : ∃ m, m = w.heap.size := ⟨_, rfl⟩
  obtain ⟨gp, hgp⟩ : ∃ gp, gp = w.heap.size + 1 := ⟨_, rfl⟩
  rw [← hgp] at HG
  rw [← hm] at HM HG
  (try rw [← hgp])
  (try rw [← hm])
  have HMM := Aside0.mk hm; have HGP := Aside0.mk hgp
  clear hm hgp
  go_upto_region 7 with (fail)
  go_loopw [29] (fun kv wr => ∃ (j : Nat) (vr : Value), kv = .int .i64 j ∧ Aside0 (j ≤ nf) ∧ Aside0 (wr.heap[gp]? = some (.cells #[.pointer (some ⟨gs, 0, none⟩), .pointer (some ⟨gl, 0, none⟩), vr, .map (some m), .int .i64 0] TPl (0, 0))) ∧ Aside0 (Ow wr (fun k => w.heap.size + 2 ≤ k) TFr 5 vr j (ec j)) ∧ Aside0 (Mi.MP wr m (fun _ => none)) ∧ Aside0 (Below w.heap.size w wr) ∧ Aside0 (w.heap.size + 2 ≤ wr.heap.size)) (fun kv _ => nf - (intOf kv).toNat)
  case atStart => exact ⟨0, _, rfl, ⟨Nat.zero_le _⟩, HG, ⟨Ow.nil _ _ _ _⟩, HM, HB, HSZ⟩
  case round =>
    clear HG HM HB HSZ
    obtain ⟨j, vr, rfl, J, HG, HO, HM, HB, HSZ⟩ := hrel
    by_cases hlt : j < nf
    · have hji : (j : Int) < (nf : Int) := by omega
      have hwj : wrap64 ((j : Int) + 1) = ((j + 1 : Nat) : Int) := by have := HN.out; unfold wrap64; omega
      have HLT := Aside0.mk hlt; clear hlt
      have c2 : wr.cell? ⟨gp, 2, none⟩ = some vr := blk_cell HG.out 2
      have hbr := (Below.refl wr.heap.size wr).alloc (Nat.le_refl _) (.cells #[.int .i64 (-1), .int .i64 0, .string ⟨#[]⟩, .bool false, .int .i64 0] TFr)
      have hgo : gp < wr.heap.size := blk_lt' HG.out
      have how1 : Ow (wr.alloc (.cells #[.int .i64 (-1), .int .i64 0, .string ⟨#[]⟩, .bool false, .int .i64 0] TFr)) (fun k => w.heap.size + 2 ≤ k) TFr 5 vr j (ec j) := HO.out.same (fun k hk => hbr.block k (HO.out.own.lt k hk).2)
      obtain ⟨v', W4, hrun, how, hgr, hsame, g', c', hv'⟩ := append_fr j how1 (heap_alloc_new wr _) (by have := HLT.out; have := HN.out; omega) 72
      have hne : vr.ownBlock ≠ some gp := fun e => by have := HO.out.mem gp e; have := HGP.out; omega
      have hnm : vr.ownBlock ≠ some m := fun e => by have := HO.out.mem m e; have := HMM.out; omega
      have hG4 := grown_blk hgr ((hbr.block gp hgo).trans HG.out) hne
      have hml := HM.out.lt
      have hM4 : Mi.MP W4 m (fun _ => none) := HM.out.same ((hgr.block m (Nat.lt_of_lt_of_le hml hbr.size) (fun e => hnm e.symm)).trans (hbr.block m hml))
      have hB4 : Below w.heap.size w W4 := FS.to_below (S := fun k => w.heap.size ≤ k) (Arr.below_trans HB.out hbr) (((FS.refl (fun k => w.heap.size ≤ k) _).grown hgr (fun k hk => .inl (by have := HO.out.mem k hk; omega)))) (fun _ h => h)
      have hz4 : w.heap.size + 2 ≤ W4.heap.size := Nat.le_trans HSZ.out (Nat.le_trans hbr.size hgr.size)
      have k1 : W4.cell? ⟨gp, 2, none⟩ = some vr := blk_cell hG4 2; have k2 : W4.frozen? ⟨gp, 2, none⟩ = false := blk_frozen hG4 2
      have HR := Aside0.mk hrun
      have HG4 := Aside0.mk (Wl.set_blk hG4 2 v'); have HM4 := Aside0.mk (hM4.same (Below.heap_setCell W4 ⟨gp, 2, none⟩ v' m (by have := HMM.out; have := HGP.out; show m ≠ gp; omega)))
      have HB4 := Aside0.mk (hB4.setCell (p := ⟨gp, 2, none⟩) (show w.heap.size ≤ gp by have := HGP.out; omega) v'); have HZ4 := Aside0.mk (show w.heap.size + 2 ≤ (W4.setCell ⟨gp, 2, none⟩ v').heap.size by simp [World.setCell]; exact hz4)
      have hown : ∀ k, v'.ownBlock = some k → k ≠ gp := fun k hk e => by
        rcases hsame with h1 | h1
        · rw [h1] at hk; exact hne (e ▸ hk)
        · rw [h1] at hk; injection hk with hk; have := Nat.lt_of_lt_of_le hgo hbr.size; have := heap_alloc_size_ wr (.cells #[.int .i64 (-1), .int .i64 0, .string ⟨#[]⟩, .bool false, .int .i64 0] TFr); omega
      have HO4 := Aside0.mk (Ow.same (w' := W4.setCell ⟨gp, 2, none⟩ v') (how.mono (S2 := fun k => w.heap.size + 2 ≤ k) (fun k hk e => e.elim id (fun e => by rw [e]; have := HSZ.out; have := hbr.size; omega))) (fun k hk => Below.heap_setCell W4 ⟨gp, 2, none⟩ v' k (hown k hk)))
      clear hbr hgo how1 hrun how hgr hsame hne hnm hG4 hml hM4 hB4 hz4 hown HG HO HM HB HSZ
      subst hv'
      go_upto_region 9 with ((with_reducible refine gate_builtin (b := .append) (xs := #[.tmp 35, .tmp 37]) rfl ?_); at_builtin; refine ev_append (.tmp 35) (.tmp 37) 72 rfl rfl _ _ rfl rfl HR.out ?_)
      clear c2 k1 k2 HR
      generalize W4.setCell ⟨gp, 2, none⟩ (.slice (some ⟨g', 0, none⟩) (j + 1) c') = W5 at *
      go_wp2
      go_roundw
      case rel => exact ⟨j + 1, _, by first | rfl | (rw [hwj]) | go_num, ⟨by have := HLT.out; omega⟩, HG4, HO4, HM4, HB4, HZ4⟩
      case measure =>
        have := HLT.out
        (try rw [hwj])
        simp only [intOf]; omega
    · obtain rfl : j = nf := by have := J.out; omega
      clear hlt
      go_wp2
      go_ret2
      obtain ⟨fb, cp, cur, hvr, hfs, hfb, hcap, hcm, hcs, htk⟩ := HO.out.open (by have := HN.out; omega)
      subst hvr
      have hmw : w.heap.size ≤ m := by have := HMM.out; omega
      have hgw : w.heap.size ≤ gp := by have := HGP.out; omega
      have hfs : w.heap.size ≤ fb := by omega
      refine ⟨gp, fb, m, cp, Dk.paint c w.heap.size 4, rfl, Fr.of_paint HB.out 4, ⟨⟨HG.out, paint_new hgw⟩, ⟨cur, hfb, fun k f hk i hi => ?_⟩, HM.out, paint_new hfs, paint_new hmw, List.length_replicate, hcap, by have := HN.out; omega⟩⟩
      have hk : (List.replicate j noF)[k]? = some f := hk
      rw [List.getElem?_replicate] at hk
      split at hk
      · rename_i hkj
        injection hk with hk
        subst hk
        have h1 := ec_get j k i hkj hi
        rw [← htk] at h1
        have h2 := take_get h1
        simpa using h2
      · cases hk
end Go.Proofs.Ytcelfhoomhmioaa.Pl
set_option maxRecDepth 8192
namespace Go.Proofs.Ytcelfhoomhmioaa.Pl
open Go Go.RowKit Go.ChangeMaps Go.Proofs.Ytcelfhoomhmioaa.Arr Go.Proofs.Ytcelfhoomhmioaa.Ow Go.Proofs.Ytcelfhoomhmioaa.Dk Go.Proofs.Ytcelfhoomhmioaa.Fr Go.Proofs.YtcelfhoomhmioaaW.PrintWords Go.Proofs.YtcelfhoomhmioaaW.PrintLast Go.Proofs.YtcelfhoomhmioaaW.PrintMore Go.Proofs.Ytcelfhoomhmioaa.Wl Go.Proofs.Ytcelfhoomhmioaa.St
set_option linter.unusedVariables false
set_option linter.unusedSimpArgs false
/-- The cells of rows. -/
def dc (L : List (Int × Int)) : List Value := L.flatMap fun p => [.int .i64 p.1, .int .i64 p.2]
theorem dc_push (L : List (Int × Int)) (p : Int × Int) : dc (L ++ [p]) = dc L ++ [.int .i64 p.1, .int .i64 p.2] := by
  unfold dc
  rw [List.flatMap_append]
  rfl
theorem infoR : (Try.prog.info? 70).map (fun i => (i.zero, i.size, i.bytes)) = some (some (.agg #[.int .i64 0, .int .i64 0]), 2, 16) := by kernel_rfl
theorem append_pr {w : World} {S : Nat → Prop} {v : Value} (L : List (Int × Int)) (p : Int × Int) (h : Ow w S 70 2 v L.length (dc L)) {g0 : Nat} (hg : w.heap[g0]? = some (.cells #[.int .i64 p.1, .int .i64 p.2] 70 (0, 0))) (hl : L.length ≤ 1000000) (ty : TypeId) :
    ∃ v' w', (Builtin.append_ #[37, 37] ty #[v, .slice (some ⟨g0, 0, none⟩) 1 1]).run Try.prog w = .ok v' w' ∧ Ow w' (fun k => S k ∨ k = w.heap.size) 70 2 v' (L ++ [p]).length (dc (L ++ [p])) ∧ w.grownBy w' v.ownBlock := by
  obtain ⟨i0, hi, h2⟩ := Option.map_eq_some_iff.1 infoR
  have hz : i0.zero = some (.agg #[.int .i64 0, .int .i64 0]) := congrArg Prod.fst h2
  have hs : i0.size = 2 := congrArg (fun p => p.2.1) h2
  have hb : i0.bytes = 16 := congrArg (fun p => p.2.2) h2
  have r := run_append_ow (P := Try.prog) (ty := ty) 37 70 i0 _ 2 16 (by kernel_rfl) hi hz hs hb rfl (by decide) v L.length _ h ⟨g0, 0, none⟩ 1 1 [.int .i64 p.1, .int .i64 p.2] rfl (fun i u hj => ?_) (fun u hu => ?_) (by simp only [maxLen]; omega) (by omega) (by decide)
  · rw [dc_push, List.length_append]
    obtain ⟨v', w', r1, r2, r3, _⟩ := r
    exact ⟨v', w', r1, r2, r3⟩
  · match i with
    | 0 => exact (blk_cell hg 0).trans (by simpa using hj)
    | 1 => exact (blk_cell hg 1).trans (by simpa using hj)
    | i + 2 => simp at hj
  · rcases List.mem_cons.1 hu with rfl | hu
    · rfl
    · rcases List.mem_cons.1 hu with rfl | hu
      · rfl
      · cases hu
/-- The pages below k that have changed. -/
def dirtyK (P : PS) (k : Nat) : List (Int × Int) := (List.range k).flatMap fun (i : Nat) => if 0 ≤ holdsP P (i : Int) ∧ (frP P (holdsP P (i : Int)).toNat).di = true then [((i : Int), (frP P (holdsP P (i : Int)).toNat).si)] else []
theorem dirtyK_succ (P : PS) (k : Nat) : dirtyK P (k + 1) = dirtyK P k ++ if 0 ≤ holdsP P (k : Int) ∧ (frP P (holdsP P (k : Int)).toNat).di = true then [((k : Int), (frP P (holdsP P (k : Int)).toNat).si)] else [] := by
  unfold dirtyK
  rw [List.range_succ, List.flatMap_append]
  simp
theorem dirtyK_len (P : PS) (k : Nat) : (dirtyK P k).length ≤ k := by
  induction k with
  | zero => exact Nat.le_refl _
  | succ k ih =>
    rw [dirtyK_succ, List.length_append]
    split
    · simp; omega
    · simp; omega
section
variable {w : World} {c : Nat → Nat} {gp fb m gs gl ml g n cp : Nat} {b : Int} {X : XS}
set_option maxHeartbeats 16000000 in
theorem dirty_calls {q : Nat} (h : AO w c gp fb m gs gl ml g n cp b (q : Int) X) (hq : q ≤ 8) (hw : WF (q : Int) X.P) : Calls Try.prog 20 #[.pointer (some ⟨gp, 0, none⟩)] w fun e w' => ∃ v, e = .returned v ∧ Ow w' (fun k => w.heap.size ≤ k) 70 2 v (dirtyK X.P q).length (dc (dirtyK X.P q)) ∧ Below w.heap.size w w' := by
  have HA := Aside0.mk h; have HW := Aside0.mk hw; have HQ := Aside0.mk hq; have HL := Aside0.mk h.po.len
  have HB := Aside0.mk (Below.refl w.heap.size w)
  have c0p := h.po.c0
  clear h hw hq
  go_enter Try.func20, Try.ntmps20
  go_upto_region 4 with (go_at_call 30; (with_reducible refine (pages_calls X.d g gs b (q : Int) X.T _ _ HA.out.so.sk).mono ?_); rintro e w1 ⟨rfl, hb1⟩; have HB_n := Aside0.mk hb1; clear HB hb1; have HB := HB_n; clear HB_n)
  clear c0p
  go_loopw [2, 12] (fun lv kv wr => ∃ j : Nat, kv = .int .i64 j ∧ Aside0 (j ≤ q) ∧ Aside0 (Ow wr (fun k => w.heap.size ≤ k) 70 2 lv (dirtyK X.P j).length (dc (dirtyK X.P j))) ∧ Aside0 (Below w.heap.size w wr)) (fun _ kv _ => q - (intOf kv).toNat)
  case atStart => exact ⟨0, rfl, ⟨Nat.zero_le _⟩, ⟨Ow.nil _ _ _ _⟩, HB⟩
  case round =>
    clear HB
    obtain ⟨j, rfl, J, HO, HB⟩ := hrel
    by_cases hlt : j < q
    · have hji : (j : Int) < (q : Int) := by omega
      have hwj : wrap64 ((j : Int) + 1) = ((j + 1 : Nat) : Int) := by have := HQ.out; unfold wrap64; omega
      have HLT := Aside0.mk hlt; clear hlt
      rcases HW.out.holds (j : Int) with ⟨e1, e2⟩ | ⟨k, e1, e2, e3, e4, _⟩
      · have HHO := Aside0.mk e1
        have HDK := Aside0.mk (show dirtyK X.P (j + 1) = dirtyK X.P j by rw [dirtyK_succ, e1, if_neg (fun x => absurd x.1 (by decide)), List.append_nil])
        clear e1 e2
        go_upto_region 7 with (go_at_call 12; (with_reducible refine (holds_calls (HA.out.below HB.out).po (j : Int)).mono ?_); rintro e w2 ⟨rfl, hb1⟩; rw [HHO.out]; have HB_n := Aside0.mk (Arr.below_trans HB.out hb1); have HO_n := Aside0.mk (HO.out.same (fun k hk => hb1.block k (HO.out.own.lt k hk).2)); clear HB HO hb1; have HB := HB_n; have HO := HO_n; clear HB_n HO_n)
        have ho2 := HO.out
        rw [← HDK.out] at ho2
        have HO2 := Aside0.mk ho2; clear ho2
        go_wp2
        go_roundw
        case rel => exact ⟨j + 1, by first | rfl | (rw [hwj]) | go_num, ⟨by have := HLT.out; omega⟩, HO2, HB⟩
        case measure =>
          have := HLT.out
          (try rw [hwj])
          simp only [intOf]; omega
      · have HHO := Aside0.mk e1; have HKL := Aside0.mk (show k < n by rw [HL.out] at e3; exact e3)
        have hk0 : (0 : Int) ≤ (k : Int) := by omega
        have hki : (k : Int) < (n : Int) := by have := HKL.out; omega
        obtain ⟨f, hf, hg⟩ := fr_at HA.out.po HKL.out
        have HF := Aside0.mk hf; have HG := Aside0.mk (show frP X.P k = f from hg)
        have HDU := Aside0.mk (show dirtyK X.P (j + 1) = dirtyK X.P j ++ if f.di = true then [((j : Int), f.si)] else [] by rw [dirtyK_succ, e1, Int.toNat_natCast, HG.out]; congr 1; by_cases hd : f.di = true <;> simp [hd])
        clear e1 e2 e3 e4 hf hg
        go_upto_region 7 with (go_at_call 12; (with_reducible refine (holds_calls (HA.out.below HB.out).po (j : Int)).mono ?_); rintro e w2 ⟨rfl, hb1⟩; rw [HHO.out]; have HB_n := Aside0.mk (Arr.below_trans HB.out hb1); have HO_n := Aside0.mk (HO.out.same (fun k hk => hb1.block k (HO.out.own.lt k hk).2)); clear HB HO hb1; have HB := HB_n; have HO := HO_n; clear HB_n HO_n)
        have HA2 := Aside0.mk (HA.out.below HB.out)
        have c2 := HA2.out.po.c2
        have q3 : w2.cell? ⟨fb, k * 5 + 3, none⟩ = some (.bool f.di) := HA2.out.po.fcell HF.out 3 (by decide)
        have q4 : w2.cell? ⟨fb, k * 5 + 4, none⟩ = some (.int .i64 f.si) := HA2.out.po.fcell HF.out 4 (by decide)
        cases hdi : f.di with
        | false =>
          rw [hdi] at q3
          have HDK := Aside0.mk (show dirtyK X.P (j + 1) = dirtyK X.P j by rw [HDU.out, hdi]; simp)
          have ho2 := HO.out
          rw [← HDK.out] at ho2
          have HO2 := Aside0.mk ho2; clear ho2 hdi
          go_wp2
          go_roundw
          case rel => exact ⟨j + 1, by first | rfl | (rw [hwj]) | go_num, ⟨by have := HLT.out; omega⟩, HO2, HB⟩
          case measure =>
            have := HLT.out
            (try rw [hwj])
            simp only [intOf]; omega
        | true =>
          rw [hdi] at q3
          have HDK := Aside0.mk (show dirtyK X.P (j + 1) = dirtyK X.P j ++ [((j : Int), f.si)] by rw [HDU.out, hdi]; simp)
          clear hdi
          have hbr := (Below.refl w2.heap.size w2).alloc (Nat.le_refl _) (.cells #[.int .i64 (j : Int), .int .i64 f.si] 70)
          have how1 := HO.out.same (w' := w2.alloc (.cells #[.int .i64 (j : Int), .int .i64 f.si] 70)) (fun k hk => hbr.block k (HO.out.own.lt k hk).2)
          obtain ⟨v', W4, hrun, how, hgr⟩ := append_pr (dirtyK X.P j) ((j : Int), f.si) how1 (heap_alloc_new w2 _) (by have := dirtyK_len X.P j; have := HLT.out; have := HQ.out; omega) 37
          have HR := Aside0.mk hrun
          have hB4 : Below w.heap.size w W4 := FS.to_below (S := fun k => w.heap.size ≤ k) (Arr.below_trans HB.out hbr) (((FS.refl (fun k => w.heap.size ≤ k) _).grown hgr (fun k hk => .inl (HO.out.mem k hk)))) (fun _ h => h)
          rw [← HDK.out] at how
          have HO2 := Aside0.mk (how.mono (S2 := fun k => w.heap.size ≤ k) (fun k hk e => e.elim id (fun e => by rw [e]; have := HB.out.size; have := hbr.size; omega)))
          have HB4 := Aside0.mk hB4
          clear hbr how1 hrun how hgr hB4 HO HB HA2
          go_upto_region 9 with ((with_reducible refine gate_builtin (b := .append) (xs := #[.tmp 30, .tmp 41]) rfl ?_); at_builtin; refine ev_append (.tmp 30) (.tmp 41) 37 rfl rfl _ _ rfl rfl HR.out ?_)
          have HB := HB4
          clear c2 q3 q4 HR HB4
          go_wp2
          go_roundw
          case rel => exact ⟨j + 1, by first | rfl | (rw [hwj]) | go_num, ⟨by have := HLT.out; omega⟩, HO2, HB⟩
          case measure =>
            have := HLT.out
            (try rw [hwj])
            simp only [intOf]; omega
    · obtain rfl : j = q := by have := J.out; omega
      clear hlt
      go_wp2
      go_ret
      exact ⟨_, rfl, HO.out, HB.out⟩
end
end Go.Proofs.Ytcelfhoomhmioaa.Pl
set_option maxRecDepth 8192
namespace Go.Proofs.Ytcelfhoomhmioaa.Pl
open Go Go.RowKit Go.ChangeMaps Go.Proofs.Ytcelfhoomhmioaa.Arr Go.Proofs.Ytcelfhoomhmioaa.Ow Go.Proofs.Ytcelfhoomhmioaa.Dk Go.Proofs.Ytcelfhoomhmioaa.Fr Go.Proofs.YtcelfhoomhmioaaW.PrintWords Go.Proofs.YtcelfhoomhmioaaW.PrintLast Go.Proofs.YtcelfhoomhmioaaW.PrintMore Go.Proofs.Ytcelfhoomhmioaa.Wl Go.Proofs.Ytcelfhoomhmioaa.St
set_option linter.unusedVariables false
set_option linter.unusedSimpArgs false
section
variable {w : World} {c : Nat → Nat} {gp fb m gs gl ml g n cp : Nat} {b pn : Int} {X : XS}
set_option maxHeartbeats 16000000 in
theorem put_calls (h : AO w c gp fb m gs gl ml g n cp b pn X) (hw : WF pn X.P) (i a : Int) (dt : ByteArray) : Calls Try.prog 14 #[.pointer (some ⟨gp, 0, none⟩), .int .i64 i, .agg #[.int .i64 a, .string dt]] w fun e w' => e = .returned (.int .i64 (putP X.P i a dt).1) ∧ ∃ c', Fr [4] w c w' c' ∧ AO w' c' gp fb m gs gl ml g n cp b pn { X with P := (putP X.P i a dt).2 } := by
  have HA := Aside0.mk h; have HL := Aside0.mk h.po.len; have HW := Aside0.mk hw
  clear h hw
  go_enter Try.func14, Try.ntmps14
  go_upto_region 1 with (fail)
  have hf0 := fr_alloc [] w c 5 (.cells #[.int .i64 a, .string dt] 35)
  have HA_n := Aside0.mk (HA.out.keep hf0 (by decide) (by decide) (by decide) (by decide)); clear HA; have HA := HA_n; clear HA_n
  have HX := Aside0.mk (loc_alloc w c 5 #[.int .i64 a, .string dt] 35)
  have HFR := Aside0.mk (hf0.mono (M2 := [4]) (by decide))
  clear hf0
  generalize Dk.paint c w.heap.size 5 = c0 at *
  generalize w.alloc (.cells #[.int .i64 a, .string dt] 35) = W0 at *
  generalize w.heap.size = b0 at HX ⊢
  rcases HW.out.holds i with ⟨e1, e2⟩ | ⟨k, e1, e2, e3, e4, _⟩
  · have HHO := Aside0.mk e1
    have HG := Aside0.mk (show putP X.P i a dt = (7, X.P) by unfold putP; rw [e1, if_pos (by decide)])
    clear e1 e2
    go_upto_region 5 with (go_at_call 12; (with_reducible refine (holds_calls HA.out.po i).mono ?_); rintro e w2 ⟨rfl, hb1⟩; rw [HHO.out]; have HA_n := Aside0.mk (HA.out.below hb1); have HX_n := Aside0.mk (HX.out.below hb1); have HFR_n := Aside0.mk (HFR.out.trans (Fr.of_below (M := [4]) hb1)); clear HA HX HFR; have HA := HA_n; have HX := HX_n; have HFR := HFR_n; clear HA_n HX_n HFR_n; clear hb1)
    go_wp2
    go_ret
    rw [HG.out]
    exact ⟨rfl, c0, HFR.out, HA.out⟩
  have HHO := Aside0.mk e1; have HKL := Aside0.mk (show k < n by rw [HL.out] at e3; exact e3)
  have hk0 : (0 : Int) ≤ (k : Int) := by omega
  have hki : (k : Int) < (n : Int) := by have := HKL.out; omega
  obtain ⟨f, hf, hg⟩ := fr_at HA.out.po HKL.out
  have HF := Aside0.mk hf
  by_cases hr : 0 ≤ a ∧ a ≤ 2147483647 ∧ dt.size = 220
  rotate_left
  · have HG := Aside0.mk (show putP X.P i a dt = (3, X.P) by unfold putP; rw [e1, if_neg (by omega), if_pos hr])
    have HRT := Aside0.mk (show false = decide (0 ≤ a ∧ a ≤ 2147483647 ∧ dt.size = 220) from (decide_eq_false hr).symm)
    clear e1 e2 e3 e4 hf hg hr
    go_upto_region 6 with (go_at_call 12; (with_reducible refine (holds_calls HA.out.po i).mono ?_); rintro e w2 ⟨rfl, hb1⟩; rw [HHO.out]; have HA_n := Aside0.mk (HA.out.below hb1); have HX_n := Aside0.mk (HX.out.below hb1); have HFR_n := Aside0.mk (HFR.out.trans (Fr.of_below (M := [4]) hb1)); clear HA HX HFR; have HA := HA_n; have HX := HX_n; have HFR := HFR_n; clear HA_n HX_n HFR_n; clear hb1)
    have x0 : w2.cell? ⟨b0, 0, none⟩ = some (.int .i64 a) := blk_cell HX.out.blk 0
    have x1 : w2.cell? ⟨b0, 1, none⟩ = some (.string dt) := blk_cell HX.out.blk 1
    go_upto_region 7 with (go_at_call 32; (with_reducible refine (Page.right_calls a dt _ HRT.out _).mono ?_); rintro e w3 ⟨rfl, hb1⟩; have HA_n := Aside0.mk (HA.out.below hb1); have HX_n := Aside0.mk (HX.out.below hb1); have HFR_n := Aside0.mk (HFR.out.trans (Fr.of_below (M := [4]) hb1)); clear HA HX HFR; have HA := HA_n; have HX := HX_n; have HFR := HFR_n; clear HA_n HX_n HFR_n; clear hb1)
    clear x0 x1
    go_wp2
    go_ret
    rw [HG.out]
    exact ⟨rfl, c0, HFR.out, HA.out⟩
  have HRT := Aside0.mk (show true = decide (0 ≤ a ∧ a ≤ 2147483647 ∧ dt.size = 220) from (decide_eq_true hr).symm)
  have HG := Aside0.mk (show putP X.P i a dt = (0, { X.P with fr := X.P.fr.set k (soilF f a dt) }) by unfold putP; rw [e1, if_neg (by omega), if_neg (fun x => x hr), Int.toNat_natCast, show frP X.P k = f from hg])
  clear e1 e2 e3 e4 hf hg hr
  go_upto_region 6 with (go_at_call 12; (with_reducible refine (holds_calls HA.out.po i).mono ?_); rintro e w2 ⟨rfl, hb1⟩; rw [HHO.out]; have HA_n := Aside0.mk (HA.out.below hb1); have HX_n := Aside0.mk (HX.out.below hb1); have HFR_n := Aside0.mk (HFR.out.trans (Fr.of_below (M := [4]) hb1)); clear HA HX HFR; have HA := HA_n; have HX := HX_n; have HFR := HFR_n; clear HA_n HX_n HFR_n; clear hb1)
  have x0 : w2.cell? ⟨b0, 0, none⟩ = some (.int .i64 a) := blk_cell HX.out.blk 0
  have x1 : w2.cell? ⟨b0, 1, none⟩ = some (.string dt) := blk_cell HX.out.blk 1
  go_upto_region 8 with (go_at_call 32; (with_reducible refine (Page.right_calls a dt _ HRT.out _).mono ?_); rintro e w3 ⟨rfl, hb1⟩; have HA_n := Aside0.mk (HA.out.below hb1); have HX_n := Aside0.mk (HX.out.below hb1); have HFR_n := Aside0.mk (HFR.out.trans (Fr.of_below (M := [4]) hb1)); clear HA HX HFR; have HA := HA_n; have HX := HX_n; have HFR := HFR_n; clear HA_n HX_n HFR_n; clear hb1)
  clear x0 x1
  have c2 := HA.out.po.c2
  have q0 : w3.cell? ⟨fb, k * 5, none⟩ = some (.int .i64 f.pg) := HA.out.po.fcell HF.out 0 (by decide)
  have q1 : w3.cell? ⟨fb, k * 5 + 1, none⟩ = some (.int .i64 f.a) := HA.out.po.fcell HF.out 1 (by decide)
  have q2 : w3.cell? ⟨fb, k * 5 + 2, none⟩ = some (.string f.dt) := HA.out.po.fcell HF.out 2 (by decide)
  have q3 : w3.cell? ⟨fb, k * 5 + 3, none⟩ = some (.bool f.di) := HA.out.po.fcell HF.out 3 (by decide)
  have q4 : w3.cell? ⟨fb, k * 5 + 4, none⟩ = some (.int .i64 f.si) := HA.out.po.fcell HF.out 4 (by decide)
  have z0 : w3.frozen? ⟨fb, k * 5, none⟩ = false := HA.out.po.ffz _
  have z1 : w3.frozen? ⟨fb, k * 5 + 1, none⟩ = false := HA.out.po.ffz _
  have z2 : w3.frozen? ⟨fb, k * 5 + 2, none⟩ = false := HA.out.po.ffz _
  have z3 : w3.frozen? ⟨fb, k * 5 + 3, none⟩ = false := HA.out.po.ffz _
  have z4 : w3.frozen? ⟨fb, k * 5 + 4, none⟩ = false := HA.out.po.ffz _
  cases hdi : f.di with
  | true =>
    rw [hdi] at q3
    have HS := Aside0.mk (show soilF f a dt = { f with a := a, dt := dt } by unfold soilF; rw [if_pos hdi])
    have x0 : w3.cell? ⟨b0, 0, none⟩ = some (.int .i64 a) := blk_cell HX.out.blk 0
    have x1 : w3.cell? ⟨b0, 1, none⟩ = some (.string dt) := blk_cell HX.out.blk 1
    go_wp2
    go_ret
    have hs := HA.out.po.row.set2 (k := k) HF.out a dt
    have hc := HA.out.po.cells hs (by rw [List.length_set]; exact HA.out.po.len)
    rw [HG.out, HS.out]
    exact ⟨rfl, c0, HFR.out.trans hc.2, HA.out.pool hc.2 hc.1⟩
  | false =>
    rw [hdi] at q3
    have HS := Aside0.mk (show soilF f a dt = { f with a := a, dt := dt, di := true, si := a } by unfold soilF; rw [hdi]; rfl)
    go_upto_region 10 with (fail)
    have HA_n := Aside0.mk (HA.out.drew); have HX_n := Aside0.mk (HX.out.drew); have HFR_n := Aside0.mk (HFR.out.trans (fr_drew [4] w3 c0)); clear HA HX HFR; have HA := HA_n; have HX := HX_n; have HFR := HFR_n; clear HA_n HX_n HFR_n
    have x0 : w3.drew.cell? ⟨b0, 0, none⟩ = some (.int .i64 a) := blk_cell HX.out.blk 0
    have xp0 : w3.cell? ⟨b0, 0, none⟩ = some (.int .i64 a) := blk_cell HX.out.blk 0
    have hq3 := q3
    clear c2 q0 q1 q2 q3 q4 z0 z1 z2 z3 z4
    have q3 : w3.drew.cell? ⟨fb, k * 5 + 3, none⟩ = some (.bool false) := hq3
    have p3 : w3.cell? ⟨fb, k * 5 + 3, none⟩ = some (.bool false) := hq3
    clear hq3
    have q4 : w3.drew.cell? ⟨fb, k * 5 + 4, none⟩ = some (.int .i64 f.si) := HA.out.po.fcell HF.out 4 (by decide)
    have z3 : w3.drew.frozen? ⟨fb, k * 5 + 3, none⟩ = false := HA.out.po.ffz _
    have z4 : w3.drew.frozen? ⟨fb, k * 5 + 4, none⟩ = false := HA.out.po.ffz _
    have p4 : w3.cell? ⟨fb, k * 5 + 4, none⟩ = some (.int .i64 f.si) := HA.out.po.fcell HF.out 4 (by decide)
    have s3 : w3.frozen? ⟨fb, k * 5 + 3, none⟩ = false := HA.out.po.ffz _
    have s4 : w3.frozen? ⟨fb, k * 5 + 4, none⟩ = false := HA.out.po.ffz _
    go_region
    clear x0 xp0 q3 q4 z3 z4 p3 p4 s3 s4
    have hs1 := HA.out.po.row.set1 (f' := { f with di := true }) HF.out 3 (by decide) (.bool true) rfl (of5 (fun _ => rfl) (fun _ => rfl) (fun _ => rfl) (fun h => absurd rfl h) (fun _ => rfl))
    have hl1 : (X.P.fr.set k { f with di := true }).length = n := by rw [List.length_set]; exact HA.out.po.len
    have hc1 := HA.out.po.cells (vs := [.bool true]) hs1 hl1
    have hx1 := HX.out.keep hc1.2 (by decide)
    have ha1 := HA.out.pool hc1.2 hc1.1
    have hfr1 := HFR.out.trans hc1.2
    have hk1 : (X.P.fr.set k { f with di := true })[k]? = some { f with di := true } := List.getElem?_set_self (by rw [HA.out.po.len]; exact HKL.out)
    have hs2 := hs1.set1 (f' := { f with di := true, si := a }) hk1 4 (by decide) (.int .i64 a) rfl (of5 (fun _ => rfl) (fun _ => rfl) (fun _ => rfl) (fun _ => rfl) (fun h => absurd rfl h))
    have hc2 := ha1.po.cells (vs := [.int .i64 a]) hs2 (by rw [List.length_set]; exact hl1)
    have HX2 := Aside0.mk (show Fr.Loc (((w3.setCell ⟨fb, k * 5 + 3, none⟩ (.bool true)).setCell ⟨fb, k * 5 + 4, none⟩ (.int .i64 a)).drew) c0 b0 5 #[.int .i64 a, .string dt] 35 from hx1.keep hc2.2 (by decide)); have HA2 := Aside0.mk (show AO (((w3.setCell ⟨fb, k * 5 + 3, none⟩ (.bool true)).setCell ⟨fb, k * 5 + 4, none⟩ (.int .i64 a)).drew) c0 gp fb m gs gl ml g n cp b pn { X with P := { X.P with fr := (X.P.fr.set k { f with di := true }).set k { f with di := true, si := a } } } from ha1.pool hc2.2 hc2.1); have HFR2 := Aside0.mk (show Fr [4] w c (((w3.setCell ⟨fb, k * 5 + 3, none⟩ (.bool true)).setCell ⟨fb, k * 5 + 4, none⟩ (.int .i64 a)).drew) c0 from hfr1.trans hc2.2)
    have HF2 := Aside0.mk (show ((X.P.fr.set k { f with di := true }).set k { f with di := true, si := a })[k]? = some { f with di := true, si := a } from List.getElem?_set_self (by rw [hl1]; exact HKL.out))
    clear hs1 hl1 hc1 hx1 ha1 hfr1 hk1 hs2 hc2 HX HA HFR
    generalize ((w3.setCell ⟨fb, k * 5 + 3, none⟩ (.bool true)).setCell ⟨fb, k * 5 + 4, none⟩ (.int .i64 a)).drew = W4 at *
    have c2 := HA2.out.po.c2
    have x0 : W4.cell? ⟨b0, 0, none⟩ = some (.int .i64 a) := blk_cell HX2.out.blk 0
    have x1 : W4.cell? ⟨b0, 1, none⟩ = some (.string dt) := blk_cell HX2.out.blk 1
    have q1 : W4.cell? ⟨fb, k * 5 + 1, none⟩ = some (.int .i64 f.a) := HA2.out.po.fcell HF2.out 1 (by decide)
    have q2 : W4.cell? ⟨fb, k * 5 + 2, none⟩ = some (.string f.dt) := HA2.out.po.fcell HF2.out 2 (by decide)
    have z1 := HA2.out.po.ffz (k * 5 + 1)
    have z2 := HA2.out.po.ffz (k * 5 + 2)
    go_wp2
    go_ret
    have hs := HA2.out.po.row.set2 (k := k) HF2.out a dt
    have hc := HA2.out.po.cells hs (by rw [List.length_set]; exact HA2.out.po.len)
    rw [HG.out, HS.out]
    refine ⟨rfl, c0, HFR2.out.trans hc.2, ?_⟩
    have ha := HA2.out.pool hc.2 hc.1
    simp only [List.set_set] at ha
    exact ha
set_option maxHeartbeats 16000000 in
theorem evict_calls {N : Nat} (h : AO w c gp fb m gs gl ml g n cp b pn X) (r : Rdy b pn N X) (hN : N ≤ 1000) (k : Int) : Calls Try.prog 10 #[.pointer (some ⟨gp, 0, none⟩), .int .i64 k] w fun e w' => e = .returned (.int .i64 (evictP b pn X k).1) ∧ ∃ c', Fr [1, 2, 3, 4] w c w' c' ∧ AO w' c' gp fb m gs gl ml g n cp b pn (evictP b pn X k).2 := by
  have HA := Aside0.mk h; have HR := Aside0.mk r; have HN := Aside0.mk hN; have HL := Aside0.mk h.po.len
  have c2 := h.po.c2
  clear h r hN
  by_cases h0 : k < 0
  · have HG := Aside0.mk (show evictP b pn X k = (2, X) from if_pos (.inl h0))
    go_enter Try.func10, Try.ntmps10
    go_wp2
    go_ret
    rw [HG.out]
    exact ⟨rfl, c, Fr.refl _ _ _, HA.out⟩
  by_cases h1 : (n : Int) ≤ k
  · have HG := Aside0.mk (show evictP b pn X k = (2, X) from if_pos (.inr (by rw [HL.out]; exact h1)))
    go_enter Try.func10, Try.ntmps10
    go_wp2
    go_ret
    rw [HG.out]
    exact ⟨rfl, c, Fr.refl _ _ _, HA.out⟩
  obtain ⟨q, rfl⟩ : ∃ q : Nat, k = (q : Int) := ⟨k.toNat, by omega⟩
  have hqn : q < n := by omega
  have HQ := Aside0.mk hqn
  have hk0 : (0 : Int) ≤ (q : Int) := by omega
  have hki : (q : Int) < (n : Int) := by omega
  obtain ⟨f, hf, hg⟩ := fr_at HA.out.po hqn
  have q0 : w.cell? ⟨fb, q * 5, none⟩ = some (.int .i64 f.pg) := HA.out.po.fcell hf 0 (by decide)
  have HGU := Aside0.mk (show evictP b pn X (q : Int) = if f.pg < 0 then (7, X) else emptyP b pn X q by unfold evictP; rw [if_neg (by rw [HL.out]; omega), Int.toNat_natCast, show frP X.P q = f from hg])
  clear hf hg hqn h0 h1
  by_cases hp : f.pg < 0
  · have HG := Aside0.mk (show evictP b pn X (q : Int) = (7, X) by rw [HGU.out, if_pos hp])
    go_enter Try.func10, Try.ntmps10
    go_wp2
    go_ret
    rw [HG.out]
    exact ⟨rfl, c, Fr.refl _ _ _, HA.out⟩
  have HG := Aside0.mk (show evictP b pn X (q : Int) = emptyP b pn X q by rw [HGU.out, if_neg hp])
  go_enter Try.func10, Try.ntmps10
  go_wp2_with (go_at_call 29; (with_reducible refine (empty_calls HA.out HR.out HN.out q HQ.out).mono ?_); rintro e w1 ⟨rfl, c1, hf1, ha1⟩; have HA1 := Aside0.mk ha1; have HFR := Aside0.mk hf1; clear hf1 ha1)
  go_ret
  rw [HG.out]
  exact ⟨rfl, c1, HFR.out, HA1.out⟩
end
end Go.Proofs.Ytcelfhoomhmioaa.Pl
set_option maxRecDepth 8192
namespace Go.Proofs.Ytcelfhoomhmioaa.Pl
open Go Go.RowKit Go.ChangeMaps Go.Proofs.Ytcelfhoomhmioaa.Arr Go.Proofs.Ytcelfhoomhmioaa.Ow Go.Proofs.Ytcelfhoomhmioaa.Dk Go.Proofs.Ytcelfhoomhmioaa.Fr Go.Proofs.YtcelfhoomhmioaaW.PrintWords Go.Proofs.YtcelfhoomhmioaaW.PrintLast Go.Proofs.YtcelfhoomhmioaaW.PrintMore Go.Proofs.Ytcelfhoomhmioaa.Wl Go.Proofs.Ytcelfhoomhmioaa.St
set_option linter.unusedVariables false
set_option linter.unusedSimpArgs false
section
variable {w : World} {c : Nat → Nat} {gp fb m gs gl ml g n cp : Nat} {b pn : Int} {X : XS}
set_option maxHeartbeats 16000000 in
theorem get_calls {N : Nat} (h : AO w c gp fb m gs gl ml g n cp b pn X) (r : Rdy b pn N X) (hN : N ≤ 1000) (hw : WF pn X.P) (hokr : OkN 900 (roomP b pn X).2.2.d) (i : Int) : Calls Try.prog 11 #[.pointer (some ⟨gp, 0, none⟩), .int .i64 i] w fun e w' => e = .returned (.tuple #[.agg #[.int .i64 (getP b pn X i).1.1, .string (getP b pn X i).1.2], .int .i64 (getP b pn X i).2.1]) ∧ ∃ c', Fr [1, 2, 3, 4] w c w' c' ∧ AO w' c' gp fb m gs gl ml g n cp b pn (getP b pn X i).2.2 := by
  have HA := Aside0.mk h; have HR := Aside0.mk r; have HN := Aside0.mk hN; have HL := Aside0.mk h.po.len; have HW := Aside0.mk hw; have HOR := Aside0.mk hokr
  have HHD := Aside0.mk (show X.P.hand < n by have := hw.hand; rw [h.po.len] at this; exact this)
  clear h r hN hw hokr
  go_enter Try.func11, Try.ntmps11
  go_upto_region 1 with (fail)
  have hf0 := fr_alloc [] w c 5 (.cells #[.int .i64 0, .string ⟨#[]⟩] 35)
  have HA_n := Aside0.mk (HA.out.keep hf0 (by decide) (by decide) (by decide) (by decide)); clear HA; have HA := HA_n; clear HA_n
  have HX := Aside0.mk (loc_alloc w c 5 #[.int .i64 0, .string ⟨#[]⟩] 35)
  have HFR := Aside0.mk (hf0.mono (M2 := [1, 2, 3, 4]) (by decide))
  clear hf0
  generalize Dk.paint c w.heap.size 5 = c0 at *
  generalize w.alloc (.cells #[.int .i64 0, .string ⟨#[]⟩] 35) = W0 at *
  generalize hb0 : w.heap.size = b0 at HX ⊢
  have HB0 := Aside0.mk (show w.heap.size ≤ b0 by omega)
  clear hb0
  have x0 : W0.cell? ⟨b0, 0, none⟩ = some (.int .i64 0) := blk_cell HX.out.blk 0
  have x1 : W0.cell? ⟨b0, 1, none⟩ = some (.string ⟨#[]⟩) := blk_cell HX.out.blk 1
  have y0 : W0.frozen? ⟨b0, 0, none⟩ = false := blk_frozen HX.out.blk 0
  have y1 : W0.frozen? ⟨b0, 1, none⟩ = false := blk_frozen HX.out.blk 1
  by_cases h0 : i < 0
  · have HG := Aside0.mk (show getP b pn X i = ((0, ⟨#[]⟩), 2, X) from if_pos (.inl h0))
    go_wp2
    have hz := Loc.set2 HX.out (.int .i64 0) (.string ⟨#[]⟩)
    refine bodyPost_ret (results_ct rfl _ _ _ _ _ _ _ rfl hz.1.blk Try.underlying35 rfl rfl) rfl ⟨?_, c0, ?_, ?_⟩
    · rw [HG.out]; first | done | rfl
    · exact Fr.newcell (Fr.newcell HFR.out (p := ⟨b0, 0, none⟩) HB0.out _) (p := ⟨b0, 1, none⟩) HB0.out _
    · rw [HG.out]; exact HA.out.keep hz.2 (by decide) (by decide) (by decide) (by decide)
  have c0p := HA.out.po.c0
  by_cases h1 : pn ≤ i
  · have HG := Aside0.mk (show getP b pn X i = ((0, ⟨#[]⟩), 2, X) from if_pos (.inr h1))
    go_upto_region 4 with (go_at_call 30; (with_reducible refine (pages_calls X.d g gs b pn X.T _ _ HA.out.so.sk).mono ?_); rintro e w1 ⟨rfl, hb1⟩; have HA_n := Aside0.mk (HA.out.below hb1); have HX_n := Aside0.mk (HX.out.below hb1); have HFR_n := Aside0.mk (HFR.out.trans (Fr.of_below (M := [1, 2, 3, 4]) hb1)); clear HA HX HFR; have HA := HA_n; have HX := HX_n; have HFR := HFR_n; clear HA_n HX_n HFR_n; clear hb1)
    (try clear c0p)
    (try clear x0 x1 y0 y1)
    have x0 : w1.cell? ⟨b0, 0, none⟩ = some (.int .i64 0) := blk_cell HX.out.blk 0
    have x1 : w1.cell? ⟨b0, 1, none⟩ = some (.string ⟨#[]⟩) := blk_cell HX.out.blk 1
    have y0 : w1.frozen? ⟨b0, 0, none⟩ = false := blk_frozen HX.out.blk 0
    have y1 : w1.frozen? ⟨b0, 1, none⟩ = false := blk_frozen HX.out.blk 1
    go_wp2
    have hz := Loc.set2 HX.out (.int .i64 0) (.string ⟨#[]⟩)
    refine bodyPost_ret (results_ct rfl _ _ _ _ _ _ _ rfl hz.1.blk Try.underlying35 rfl rfl) rfl ⟨?_, c0, ?_, ?_⟩
    · rw [HG.out]; first | done | rfl
    · exact Fr.newcell (Fr.newcell HFR.out (p := ⟨b0, 0, none⟩) HB0.out _) (p := ⟨b0, 1, none⟩) HB0.out _
    · rw [HG.out]; exact HA.out.keep hz.2 (by decide) (by decide) (by decide) (by decide)
  have HI := Aside0.mk (show 0 ≤ i ∧ i < pn by omega)
  rcases HW.out.holds i with ⟨e1, e2⟩ | ⟨k, e1, e2, e3, e4, _⟩
  rotate_left
  · have HHO := Aside0.mk e1; have HKL := Aside0.mk (show k < n by rw [HL.out] at e3; exact e3)
    have hk0 : (0 : Int) ≤ (k : Int) := by omega
    have hki : (k : Int) < (n : Int) := by have := HKL.out; omega
    obtain ⟨f, hf, hg⟩ := fr_at HA.out.po HKL.out
    have HG := Aside0.mk (show getP b pn X i = ((f.a, f.dt), 0, X) by unfold getP; rw [if_neg (by omega), e1, if_pos (by omega), Int.toNat_natCast, show frP X.P k = f from hg])
    have HF := Aside0.mk hf; clear e1 e2 e3 e4 hf hg
    go_upto_region 7 with (first | (go_at_call 30; (with_reducible refine (pages_calls X.d g gs b pn X.T _ _ HA.out.so.sk).mono ?_); rintro e w1 ⟨rfl, hb1⟩; have HA_n := Aside0.mk (HA.out.below hb1); have HX_n := Aside0.mk (HX.out.below hb1); have HFR_n := Aside0.mk (HFR.out.trans (Fr.of_below (M := [1, 2, 3, 4]) hb1)); clear HA HX HFR; have HA := HA_n; have HX := HX_n; have HFR := HFR_n; clear HA_n HX_n HFR_n; clear hb1) | (go_at_call 12; (with_reducible refine (holds_calls HA.out.po i).mono ?_); rintro e w2 ⟨rfl, hb1⟩; rw [HHO.out]; have HA_n := Aside0.mk (HA.out.below hb1); have HX_n := Aside0.mk (HX.out.below hb1); have HFR_n := Aside0.mk (HFR.out.trans (Fr.of_below (M := [1, 2, 3, 4]) hb1)); clear HA HX HFR; have HA := HA_n; have HX := HX_n; have HFR := HFR_n; clear HA_n HX_n HFR_n; clear hb1))
    (try clear c0p)
    have c2 := HA.out.po.c2
    have q1 : w2.cell? ⟨fb, k * 5 + 1, none⟩ = some (.int .i64 f.a) := HA.out.po.fcell HF.out 1 (by decide)
    have q2 : w2.cell? ⟨fb, k * 5 + 2, none⟩ = some (.string f.dt) := HA.out.po.fcell HF.out 2 (by decide)
    (try clear x0 x1 y0 y1)
    have x0 : w2.cell? ⟨b0, 0, none⟩ = some (.int .i64 0) := blk_cell HX.out.blk 0
    have x1 : w2.cell? ⟨b0, 1, none⟩ = some (.string ⟨#[]⟩) := blk_cell HX.out.blk 1
    have y0 : w2.frozen? ⟨b0, 0, none⟩ = false := blk_frozen HX.out.blk 0
    have y1 : w2.frozen? ⟨b0, 1, none⟩ = false := blk_frozen HX.out.blk 1
    go_wp2
    have hz := Loc.set2 HX.out (.int .i64 f.a) (.string f.dt)
    refine bodyPost_ret (results_ct rfl _ _ _ _ _ _ _ rfl hz.1.blk Try.underlying35 rfl rfl) rfl ⟨?_, c0, ?_, ?_⟩
    · rw [HG.out]; first | done | rfl
    · exact Fr.newcell (Fr.newcell HFR.out (p := ⟨b0, 0, none⟩) HB0.out _) (p := ⟨b0, 1, none⟩) HB0.out _
    · rw [HG.out]; exact HA.out.keep hz.2 (by decide) (by decide) (by decide) (by decide)
  have HHO := Aside0.mk e1; have HWN := Aside0.mk e2
  clear e2
  have HRL := Aside0.mk (room_lt b pn X HL.out HHD.out)
  have HGU := Aside0.mk (show getP b pn X i = if (roomP b pn X).2.1 ≠ 0 then ((0, ⟨#[]⟩), (roomP b pn X).2.1, (roomP b pn X).2.2) else if (storeR (roomP b pn X).2.2.d b pn i).2.2 ≠ 0 then ((0, ⟨#[]⟩), (storeR (roomP b pn X).2.2.d b pn i).2.2, (roomP b pn X).2.2) else (((storeR (roomP b pn X).2.2.d b pn i).1, (storeR (roomP b pn X).2.2.d b pn i).2.1), 0, { (roomP b pn X).2.2 with P := fetchP (roomP b pn X).2.2.P (roomP b pn X).1 i (storeR (roomP b pn X).2.2.d b pn i).1 (storeR (roomP b pn X).2.2.d b pn i).2.1 }) by unfold getP; rw [if_neg (by omega), e1, if_neg (by decide)])
  clear e1
  generalize hrm : roomP b pn X = rm at *
  obtain ⟨k, er, X1⟩ := rm
  have HRM := Aside0.mk hrm; clear hrm
  simp only [] at HGU HRL HOR
  go_upto_region 9 with (first | (go_at_call 30; (with_reducible refine (pages_calls X.d g gs b pn X.T _ _ HA.out.so.sk).mono ?_); rintro e w1 ⟨rfl, hb1⟩; have HA_n := Aside0.mk (HA.out.below hb1); have HX_n := Aside0.mk (HX.out.below hb1); have HFR_n := Aside0.mk (HFR.out.trans (Fr.of_below (M := [1, 2, 3, 4]) hb1)); clear HA HX HFR; have HA := HA_n; have HX := HX_n; have HFR := HFR_n; clear HA_n HX_n HFR_n; clear hb1) | (go_at_call 12; (with_reducible refine (holds_calls HA.out.po i).mono ?_); rintro e w2 ⟨rfl, hb1⟩; rw [HHO.out]; have HA_n := Aside0.mk (HA.out.below hb1); have HX_n := Aside0.mk (HX.out.below hb1); have HFR_n := Aside0.mk (HFR.out.trans (Fr.of_below (M := [1, 2, 3, 4]) hb1)); clear HA HX HFR; have HA := HA_n; have HX := HX_n; have HFR := HFR_n; clear HA_n HX_n HFR_n; clear hb1) | (go_at_call 31; (with_reducible refine (room_calls HA.out HR.out HN.out HHD.out).mono ?_); rintro e w3 ⟨rfl, c3, hf3, ha3⟩; rw [HRM.out] at ha3 ⊢; simp only [] at ha3 ⊢; have HA3 := Aside0.mk ha3; have HX_n := Aside0.mk (HX.out.keep hf3 (by decide)); have HFR_n := Aside0.mk (HFR.out.trans hf3); clear HA HX HFR hf3 ha3; have HA := HA3; have HX := HX_n; have HFR := HFR_n; clear HA3 HX_n HFR_n))
  (try clear c0p)
  (try clear x0 x1 y0 y1)
  have x0 : w3.cell? ⟨b0, 0, none⟩ = some (.int .i64 0) := blk_cell HX.out.blk 0
  have x1 : w3.cell? ⟨b0, 1, none⟩ = some (.string ⟨#[]⟩) := blk_cell HX.out.blk 1
  have y0 : w3.frozen? ⟨b0, 0, none⟩ = false := blk_frozen HX.out.blk 0
  have y1 : w3.frozen? ⟨b0, 1, none⟩ = false := blk_frozen HX.out.blk 1
  by_cases he : er = 0
  rotate_left
  · have e0 : (er != 0) = true := by simpa using he
    have e1 : (er == 0) = false := by simpa using he
    have HG := Aside0.mk (show getP b pn X i = ((0, ⟨#[]⟩), er, X1) by rw [HGU.out, if_pos he])
    clear he
    go_wp2
    have hz := Loc.set2 HX.out (.int .i64 0) (.string ⟨#[]⟩)
    refine bodyPost_ret (results_ct rfl _ _ _ _ _ _ _ rfl hz.1.blk Try.underlying35 rfl rfl) rfl ⟨?_, c3, ?_, ?_⟩
    · rw [HG.out]; first | done | rfl
    · exact Fr.newcell (Fr.newcell HFR.out (p := ⟨b0, 0, none⟩) HB0.out _) (p := ⟨b0, 1, none⟩) HB0.out _
    · rw [HG.out]; exact HA.out.keep hz.2 (by decide) (by decide) (by decide) (by decide)
  subst he
  have e0 : ((0 : Int) != 0) = false := rfl
  generalize hsr : storeR X1.d b pn i = sr at *
  obtain ⟨ra, rd, re⟩ := sr
  have HSR := Aside0.mk hsr; clear hsr
  simp only [] at HGU
  have c0p := HA.out.po.c0
  go_upto_region 12 with (go_at_call 17; (with_reducible refine (read_o HA.out.so HOR.out HR.out.hi i).mono ?_); rintro e w4 ⟨rfl, hb1⟩; rw [HSR.out]; simp only []; have HA_n := Aside0.mk (HA.out.below hb1); have HX_n := Aside0.mk (HX.out.below hb1); have HFR_n := Aside0.mk (HFR.out.trans (Fr.of_below (M := [1, 2, 3, 4]) hb1)); clear HA HX HFR; have HA := HA_n; have HX := HX_n; have HFR := HFR_n; clear HA_n HX_n HFR_n; clear hb1)
  clear c0p
  have hf5 := fr_alloc [] w4 c3 5 (.cells #[.int .i64 ra, .string rd] 35)
  have HA_n := Aside0.mk (HA.out.keep hf5 (by decide) (by decide) (by decide) (by decide)); have HX_n := Aside0.mk (HX.out.keep hf5 (by decide)); have HFR_n := Aside0.mk (HFR.out.trans (hf5.mono (M2 := [1, 2, 3, 4]) (by decide))); clear HA HX HFR; have HA := HA_n; have HX := HX_n; have HFR := HFR_n; clear HA_n HX_n HFR_n
  have HZ := Aside0.mk (loc_alloc w4 c3 5 #[.int .i64 ra, .string rd] 35)
  skip
  clear hf5
  generalize Dk.paint c3 w4.heap.size 5 = c4 at *
  generalize w4.alloc (.cells #[.int .i64 ra, .string rd] 35) = W5 at *
  generalize w4.heap.size = bz at *
  (try clear x0 x1 y0 y1)
  have x0 : W5.cell? ⟨b0, 0, none⟩ = some (.int .i64 0) := blk_cell HX.out.blk 0
  have x1 : W5.cell? ⟨b0, 1, none⟩ = some (.string ⟨#[]⟩) := blk_cell HX.out.blk 1
  have y0 : W5.frozen? ⟨b0, 0, none⟩ = false := blk_frozen HX.out.blk 0
  have y1 : W5.frozen? ⟨b0, 1, none⟩ = false := blk_frozen HX.out.blk 1
  by_cases he : re = 0
  rotate_left
  · have e0 : (re != 0) = true := by simpa using he
    have e1 : (re == 0) = false := by simpa using he
    have HG := Aside0.mk (show getP b pn X i = ((0, ⟨#[]⟩), re, X1) by rw [HGU.out, if_neg (fun x => x rfl), if_pos he])
    clear he
    go_wp2
    have hz := Loc.set2 HX.out (.int .i64 0) (.string ⟨#[]⟩)
    refine bodyPost_ret (results_ct rfl _ _ _ _ _ _ _ rfl hz.1.blk Try.underlying35 rfl rfl) rfl ⟨?_, c4, ?_, ?_⟩
    · rw [HG.out]; first | done | rfl
    · exact Fr.newcell (Fr.newcell HFR.out (p := ⟨b0, 0, none⟩) HB0.out _) (p := ⟨b0, 1, none⟩) HB0.out _
    · rw [HG.out]; exact HA.out.keep hz.2 (by decide) (by decide) (by decide) (by decide)
  subst he
  have HG := Aside0.mk (show getP b pn X i = ((ra, rd), 0, { X1 with P := fetchP X1.P k i ra rd }) by rw [HGU.out, if_neg (fun x => x rfl), if_neg (fun x => x rfl)])
  have hk0 : (0 : Int) ≤ (k : Int) := by omega
  have hki : (k : Int) < (n : Int) := by have := HRL.out; omega
  obtain ⟨f, hf, hg⟩ := fr_at HA.out.po HRL.out
  have HF := Aside0.mk hf; clear hf hg
  go_upto_region 14 with (fail)
  have HA_n := Aside0.mk (HA.out.drew); have HX_n := Aside0.mk (HX.out.drew); have HZ_n := Aside0.mk (HZ.out.drew); have HFR_n := Aside0.mk (HFR.out.trans (fr_drew [1, 2, 3, 4] W5 c4)); clear HA HX HZ HFR; have HA := HA_n; have HX := HX_n; have HZ := HZ_n; have HFR := HFR_n; clear HA_n HX_n HZ_n HFR_n
  clear x0 x1 y0 y1
  have c2 := HA.out.po.c2
  have v0 : W5.drew.cell? ⟨bz, 0, none⟩ = some (.int .i64 ra) := blk_cell HZ.out.blk 0
  have v1 : W5.drew.cell? ⟨bz, 1, none⟩ = some (.string rd) := blk_cell HZ.out.blk 1
  have q0 : W5.drew.cell? ⟨fb, k * 5, none⟩ = some (.int .i64 f.pg) := HA.out.po.fcell HF.out 0 (by decide)
  have q1 : W5.drew.cell? ⟨fb, k * 5 + 1, none⟩ = some (.int .i64 f.a) := HA.out.po.fcell HF.out 1 (by decide)
  have q2 : W5.drew.cell? ⟨fb, k * 5 + 2, none⟩ = some (.string f.dt) := HA.out.po.fcell HF.out 2 (by decide)
  have q3 : W5.drew.cell? ⟨fb, k * 5 + 3, none⟩ = some (.bool f.di) := HA.out.po.fcell HF.out 3 (by decide)
  have q4 : W5.drew.cell? ⟨fb, k * 5 + 4, none⟩ = some (.int .i64 f.si) := HA.out.po.fcell HF.out 4 (by decide)
  have z0 : W5.drew.frozen? ⟨fb, k * 5, none⟩ = false := HA.out.po.ffz _
  have z1 : W5.drew.frozen? ⟨fb, k * 5 + 1, none⟩ = false := HA.out.po.ffz _
  have z2 : W5.drew.frozen? ⟨fb, k * 5 + 2, none⟩ = false := HA.out.po.ffz _
  have z3 : W5.drew.frozen? ⟨fb, k * 5 + 3, none⟩ = false := HA.out.po.ffz _
  have z4 : W5.drew.frozen? ⟨fb, k * 5 + 4, none⟩ = false := HA.out.po.ffz _
  have p0 : W5.cell? ⟨fb, k * 5, none⟩ = some (.int .i64 f.pg) := HA.out.po.fcell HF.out 0 (by decide)
  have p1 : W5.cell? ⟨fb, k * 5 + 1, none⟩ = some (.int .i64 f.a) := HA.out.po.fcell HF.out 1 (by decide)
  have p2 : W5.cell? ⟨fb, k * 5 + 2, none⟩ = some (.string f.dt) := HA.out.po.fcell HF.out 2 (by decide)
  have p3 : W5.cell? ⟨fb, k * 5 + 3, none⟩ = some (.bool f.di) := HA.out.po.fcell HF.out 3 (by decide)
  have p4 : W5.cell? ⟨fb, k * 5 + 4, none⟩ = some (.int .i64 f.si) := HA.out.po.fcell HF.out 4 (by decide)
  have s0 : W5.frozen? ⟨fb, k * 5, none⟩ = false := HA.out.po.ffz _
  have s1 : W5.frozen? ⟨fb, k * 5 + 1, none⟩ = false := HA.out.po.ffz _
  have s2 : W5.frozen? ⟨fb, k * 5 + 2, none⟩ = false := HA.out.po.ffz _
  have s3 : W5.frozen? ⟨fb, k * 5 + 3, none⟩ = false := HA.out.po.ffz _
  have s4 : W5.frozen? ⟨fb, k * 5 + 4, none⟩ = false := HA.out.po.ffz _
  go_region
  have hs := HA.out.po.row.set5 (k := k) HF.out ⟨i, ra, rd, false, 0⟩
  have hc := HA.out.po.cells hs (by rw [List.length_set]; exact HA.out.po.len)
  clear hs
  have hz := HZ.out.keep hc.2 (by decide)
  have hx := HX.out.keep hc.2 (by decide)
  have ha := HA.out.pool hc.2 hc.1
  have hfr := HFR.out.trans (hc.2.mono (M2 := [1, 2, 3, 4]) (by decide))
  clear hc HZ HX HA HFR c2 v0 v1 q0 q1 q2 q3 q4 z0 z1 z2 z3 z4 p0 p1 p2 p3 p4 s0 s1 s2 s3 s4
  have HZ := Aside0.mk (show Fr.Loc ((((((W5.setCell ⟨fb, k * 5, none⟩ (.int .i64 i)).setCell ⟨fb, k * 5 + 1, none⟩ (.int .i64 ra)).setCell ⟨fb, k * 5 + 2, none⟩ (.string rd)).setCell ⟨fb, k * 5 + 3, none⟩ (.bool false)).setCell ⟨fb, k * 5 + 4, none⟩ (.int .i64 0)).drew) c4 bz 5 #[.int .i64 ra, .string rd] 35 from hz); have HX := Aside0.mk (show Fr.Loc ((((((W5.setCell ⟨fb, k * 5, none⟩ (.int .i64 i)).setCell ⟨fb, k * 5 + 1, none⟩ (.int .i64 ra)).setCell ⟨fb, k * 5 + 2, none⟩ (.string rd)).setCell ⟨fb, k * 5 + 3, none⟩ (.bool false)).setCell ⟨fb, k * 5 + 4, none⟩ (.int .i64 0)).drew) c4 b0 5 #[.int .i64 0, .string ⟨#[]⟩] 35 from hx); have HA := Aside0.mk (show AO ((((((W5.setCell ⟨fb, k * 5, none⟩ (.int .i64 i)).setCell ⟨fb, k * 5 + 1, none⟩ (.int .i64 ra)).setCell ⟨fb, k * 5 + 2, none⟩ (.string rd)).setCell ⟨fb, k * 5 + 3, none⟩ (.bool false)).setCell ⟨fb, k * 5 + 4, none⟩ (.int .i64 0)).drew) c4 gp fb m gs gl ml g n cp b pn { X1 with P := { X1.P with fr := X1.P.fr.set k ⟨i, ra, rd, false, 0⟩ } } from ha); have HFR := Aside0.mk (show Fr [1, 2, 3, 4] w c ((((((W5.setCell ⟨fb, k * 5, none⟩ (.int .i64 i)).setCell ⟨fb, k * 5 + 1, none⟩ (.int .i64 ra)).setCell ⟨fb, k * 5 + 2, none⟩ (.string rd)).setCell ⟨fb, k * 5 + 3, none⟩ (.bool false)).setCell ⟨fb, k * 5 + 4, none⟩ (.int .i64 0)).drew) c4 from hfr); clear hz hx ha hfr
  generalize (((((W5.setCell ⟨fb, k * 5, none⟩ (.int .i64 i)).setCell ⟨fb, k * 5 + 1, none⟩ (.int .i64 ra)).setCell ⟨fb, k * 5 + 2, none⟩ (.string rd)).setCell ⟨fb, k * 5 + 3, none⟩ (.bool false)).setCell ⟨fb, k * 5 + 4, none⟩ (.int .i64 0)).drew = W6 at *
  have c3 := HA.out.po.c3
  obtain ⟨ob, hrun, hmp⟩ := Mi.run_update_mp (P := Try.prog) (t := 47) (k := 3) (e := 3) (by kernel_rfl) (by kernel_rfl) HA.out.po.map i (k : Int)
  have HM := Aside0.mk hmp; clear hmp
  go_upto_region 16 with (fail)
  clear hrun c3
  have hc := HA.out.po.turn HM.out
  have hz := HZ.out.keep hc.2 (by decide)
  have hx := HX.out.keep hc.2 (by decide)
  have ha := HA.out.pool hc.2 hc.1
  have hfr := HFR.out.trans (hc.2.mono (M2 := [1, 2, 3, 4]) (by decide))
  clear hc HZ HX HA HFR HM
  have HZ := Aside0.mk hz; have HX := Aside0.mk hx; have HA := Aside0.mk ha; have HFR := Aside0.mk hfr; clear hz hx ha hfr
  generalize setBlock W6 m ob = W7 at *
  have v0 : W7.cell? ⟨bz, 0, none⟩ = some (.int .i64 ra) := blk_cell HZ.out.blk 0
  have v1 : W7.cell? ⟨bz, 1, none⟩ = some (.string rd) := blk_cell HZ.out.blk 1
  (try clear x0 x1 y0 y1)
  have x0 : W7.cell? ⟨b0, 0, none⟩ = some (.int .i64 0) := blk_cell HX.out.blk 0
  have x1 : W7.cell? ⟨b0, 1, none⟩ = some (.string ⟨#[]⟩) := blk_cell HX.out.blk 1
  have y0 : W7.frozen? ⟨b0, 0, none⟩ = false := blk_frozen HX.out.blk 0
  have y1 : W7.frozen? ⟨b0, 1, none⟩ = false := blk_frozen HX.out.blk 1
  go_wp2
  have hz := Loc.set2 HX.out (.int .i64 ra) (.string rd)
  refine bodyPost_ret (results_ct rfl _ _ _ _ _ _ _ rfl hz.1.blk Try.underlying35 rfl rfl) rfl ⟨?_, c4, ?_, ?_⟩
  · rw [HG.out]; first | done | rfl
  · exact Fr.newcell (Fr.newcell HFR.out (p := ⟨b0, 0, none⟩) HB0.out _) (p := ⟨b0, 1, none⟩) HB0.out _
  · rw [HG.out]; exact HA.out.keep hz.2 (by decide) (by decide) (by decide) (by decide)
end
end Go.Proofs.Ytcelfhoomhmioaa.Pl
set_option maxRecDepth 8192
namespace Go.Proofs.Ytcelfhoomhmioaa.Pl
open Go.Proofs.Ytcelfhoomhmioaa.X4 Go.Proofs.Ytcelfhoomhmioaa.Pt Go Go.RowKit Go.ChangeMaps Go.Proofs.Ytcelfhoomhmioaa.Arr Go.Proofs.Ytcelfhoomhmioaa.Ow Go.Proofs.Ytcelfhoomhmioaa.Dk Go.Proofs.Ytcelfhoomhmioaa.Fr Go.Proofs.Ytcelfhoomhmioaa.Wl Go.Proofs.Ytcelfhoomhmioaa.St Go.Proofs.Ytcelfhoomhmioaa.Cr
set_option linter.unusedVariables false
set_option linter.unusedSimpArgs false
theorem good_frame {C D : Int → ByteArray} {base n T : Int} {want : Int → Int × ByteArray} (h : St.Good C base n T want) (hn : 0 ≤ n) (he : ∀ q, base ≤ q → q < base + (3 + 2 * n) → D q = C q) : St.Good D base n T want := by
  have hJ : J D base n = J C base n := by
    show jour n (D base) (D (base + 1)) (D (base + 2)) = jour n (C base) (C (base + 1)) (C (base + 2))
    rw [he base (by omega) (by omega), he (base + 1) (by omega) (by omega), he (base + 2) (by omega) (by omega)]
  have hP : ∀ k, 0 ≤ k → k < n → PageOk (D (hm base k)) (D (hm base k + 1)) k (want k) := fun k k0 k1 => by
    rw [he _ (by unfold hm; omega) (by unfold hm; omega), he _ (by unfold hm; omega) (by unfold hm; omega)]
    exact h.all k k0 k1
  refine ⟨⟨fun q a c v => ?_, fun e i b hj => h.inv.j e i b (hJ ▸ hj), fun k k0 k1 _ => hP k k0 k1⟩, hP⟩
  rw [he q a c] at v ⊢
  exact h.inv.fine q a c v
/-- Another disk that has the same of the store. -/
theorem qs_frame {base n T : Int} {want : Int → Int × ByteArray} {d d' : DS} (h : QS base n T want d) (hm : Mid d'.safe [] d') (hf : d'.fuse = -1) (hl : d'.safe.length = d.safe.length) (hc : ∀ q, base ≤ q → q < base + (3 + 2 * n) → cut d'.safe q = cut d.safe q) : QS base n T want d' := by
  obtain ⟨S, a, b, c, e, f⟩ := h
  have hS : d.safe = S := a.1
  rw [hS] at hl hc
  exact ⟨d'.safe, hm, hf, c.len hl, by rw [hl]; exact e, good_frame f c.n0.1 hc⟩
theorem wrote_off {S : List ByteArray} {base n t i : Int} {b : ByteArray} (hl : Lies S base n) (hi : 0 ≤ i ∧ i < n) {q : Int} (h0 : base + (3 + 2 * n) ≤ q) (h1 : q < S.length) : cut (wrote S base t i b) q = cut S q := by
  have hb := hl.b0; have hn := hl.n0
  unfold wrote
  rw [put2_cut _ _ _ _ _ (by omega) (by rw [put1_len, put2_len]; exact h1), if_neg (by unfold hm; omega), if_neg (by unfold hm; omega), put1_cut _ _ _ _ (by omega) (by rw [put2_len]; exact h1), if_neg (by omega), put2_cut _ _ _ _ _ (by omega) h1, if_neg (by omega), if_neg (by omega)]
theorem mid_self {S : List ByteArray} {d : DS} (h : Mid S [] d) : Mid d.safe [] d := ⟨rfl, h.2.1, h.2.2⟩
/-- A page is written; others' sectors stay. -/
theorem qs_write_off {n T : Int} {base : Int} {want : Int → Int × ByteArray} {d : DS} (h : QS base n T want d) (hT : 0 ≤ T ∧ T < 4294967295) {i : Int} (hi : 0 ≤ i ∧ i < n) {p : Int × ByteArray} {b : ByteArray} (hp : Packed b p) :
    Mid (storeW base n T i p.1 p.2 d).2.2.safe [] (storeW base n T i p.1 p.2 d).2.2 ∧ (storeW base n T i p.1 p.2 d).2.2.fuse = -1 ∧ (storeW base n T i p.1 p.2 d).2.2.safe.length = d.safe.length ∧ ∀ q, base + (3 + 2 * n) ≤ q → q < d.safe.length → cut (storeW base n T i p.1 p.2 d).2.2.safe q = cut d.safe q := by
  obtain ⟨S, a, b', c, e, f⟩ := h
  obtain ⟨r1, r2, r3, r4⟩ := write_free a b' c f hT hi hp
  have hS : d.safe = S := a.1
  have hS' : (storeW base n T i p.1 p.2 d).2.2.safe = wrote S base T i b := r3.1
  refine ⟨mid_self r3, r4, by rw [hS', hS, wrote_len], fun q h0 h1 => ?_⟩
  rw [hS', hS]
  exact wrote_off c hi h0 (by rw [← hS]; exact h1)
/-- A pool over a quiet store and a quiet log on one disk: each page is as it was put last. -/
structure KP (pn nl E B : Int) (X : XS) (ws want : Int → Int × ByteArray) : Prop where
  wf : WF pn X.P
  qs : QS 0 pn X.T ws X.d
  qp : Lg 30 nl E X.W X.d
  pnb : 1 ≤ pn ∧ pn ≤ 8
  eb : E < 4294967290
  tb : 1 ≤ X.T ∧ X.T ≤ B
  len : X.d.safe.length = 100
  held : ∀ (k : Nat) (f : FrS), X.P.fr[k]? = some f → 0 ≤ f.pg → want f.pg = (f.a, f.dt) ∧ (f.di = false → ws f.pg = want f.pg)
  free : ∀ i, 0 ≤ i → i < pn → X.P.wh i = none → want i = ws i
  safe : ∀ i, 0 ≤ i → i < pn → 0 ≤ (ws i).1 ∧ (ws i).1 < X.W.first * 128
  put : ∀ i, 0 ≤ i → i < pn → 0 ≤ (want i).1 ∧ (want i).1 < nxL X.W * 128 ∧ (want i).2.size = 220
  az : ∀ (k : Nat) (f : FrS), X.P.fr[k]? = some f → -9223372036854775808 ≤ f.a ∧ f.a < 9223372036854775808
section
variable {pn nl E B : Int} {X : XS} {ws want : Int → Int × ByteArray}
theorem safe_iff {W : WS} {a : Int} (h : 0 ≤ a) : safeW W a = true ↔ a < W.first * 128 := by
  unfold safeW sctr
  rw [Int.tdiv_eq_ediv_of_nonneg h, decide_eq_true_iff]
  omega
theorem KP.nx (h : KP pn nl E B X ws want) : 1 ≤ X.W.first ∧ X.W.first ≤ nxL X.W ∧ nxL X.W ≤ 65 := by
  have := h.qp.ord; have := nxL_le X.W; have := h.qp.nx; have := h.qp.n8
  omega
theorem KP.b (h : KP pn nl E B X ws want) {B' : Int} (hB : B ≤ B') : KP pn nl E B' X ws want := ⟨h.wf, h.qs, h.qp, h.pnb, h.eb, ⟨h.tb.1, Int.le_trans h.tb.2 hB⟩, h.len, h.held, h.free, h.safe, h.put, h.az⟩
theorem KP.done (h : KP pn nl E B X ws want) : nxL (doneL X.W) = nxL X.W := by
  refine if_pos ?_
  show bdy X.W (nxL X.W) = ⟨#[]⟩
  by_cases z : bdy X.W X.W.op = ⟨#[]⟩
  · have : nxL X.W = X.W.op := if_pos z
    rw [this]; exact z
  · have : nxL X.W = X.W.op + 1 := if_neg z
    rw [this]; exact h.qp.hi _ (by omega)
/-- A Flush. -/
theorem KP.flush (h : KP pn nl E B X ws want) : (flushW X.W X.d).1 = 0 ∧ (flushW X.W X.d).2.1 = doneL X.W ∧ KP pn nl E B { X with W := (flushW X.W X.d).2.1, d := (flushW X.W X.d).2.2 } ws want := by
  obtain ⟨f1, f2, f3, f4, f5⟩ := h.qp.flush h.eb
  have hn := h.nx
  have hd := h.done
  have hp := h.pnb
  refine ⟨f1, f2, ⟨h.wf, qs_frame h.qs f3.mid f3.fuse f4 (fun q h0 h1 => f5 q h0 (by rw [h.len]; omega) (.inl (by omega))), by rw [f2]; exact f3, h.pnb, h.eb, h.tb, by rw [f4]; exact h.len, h.held, h.free, fun i h0 h1 => ?_, fun i h0 h1 => ?_, h.az⟩⟩
  · have h2 := h.safe i h0 h1
    show 0 ≤ (ws i).1 ∧ (ws i).1 < (flushW X.W X.d).2.1.first * 128
    rw [f2]
    have h3 : (doneL X.W).first = nxL X.W := rfl
    rw [h3]
    omega
  · show 0 ≤ (want i).1 ∧ (want i).1 < nxL (flushW X.W X.d).2.1 * 128 ∧ (want i).2.size = 220
    rw [f2, hd]
    exact h.put i h0 h1
theorem az_let (h : KP pn nl E B X ws want) {k : Nat} : ∀ (q : Nat) (f : FrS), (letP X.P k).fr[q]? = some f → -9223372036854775808 ≤ f.a ∧ f.a < 9223372036854775808 := by
  intro q f hg
  have hs : (letP X.P k).fr = X.P.fr.set k noF := rfl
  rw [hs] at hg
  by_cases ek : k = q
  · subst ek
    have hk : k < X.P.fr.length := by
      rcases Nat.lt_or_ge k X.P.fr.length with h4 | h4
      · exact h4
      · rw [List.getElem?_eq_none (by rw [List.length_set]; exact h4)] at hg; cases hg
    rw [List.getElem?_set_self hk] at hg
    injection hg with hg
    subst hg
    exact ⟨by decide, by decide⟩
  · rw [List.getElem?_set_ne ek] at hg
    exact h.az q f hg
/-- 'empty' of a frame that isn't empty. -/
theorem KP.empty (h : KP pn nl E B X ws want) (hB : B < 4294967290) {k : Nat} (hk : k < X.P.fr.length) (hp : 0 ≤ (frP X.P k).pg) : (emptyP 0 pn X k).1 = 0 ∧ (emptyP 0 pn X k).2.P = letP X.P k ∧ ∃ ws', KP pn nl E (B + 1) (emptyP 0 pn X k).2 ws' want ∧ nxL (emptyP 0 pn X k).2.W = nxL X.W := by
  have hkk := fr_some hk
  have hwf := h.wf.letP hk
  generalize hf : frP X.P k = f at *
  have hq : 0 ≤ f.pg ∧ f.pg < pn := (h.wf.wh _ _ (h.wf.inv k f hkk hp)).1
  obtain ⟨hw1, hw2⟩ := h.held k f hkk hp
  have hlet : ∀ (q : Nat) (g : FrS), (letP X.P k).fr[q]? = some g → 0 ≤ g.pg → X.P.fr[q]? = some g ∧ g.pg ≠ f.pg := by
    intro q g hg h0
    have hs : (letP X.P k).fr = X.P.fr.set k noF := rfl
    rw [hs] at hg
    by_cases ek : k = q
    · subst ek
      rw [List.getElem?_set_self hk] at hg
      injection hg with hg
      subst hg
      exact absurd h0 (by decide)
    · rw [List.getElem?_set_ne ek] at hg
      refine ⟨hg, fun e1 => ek ?_⟩
      have h1 := h.wf.inv q g hg h0
      have h2 := h.wf.inv k f hkk hp
      rw [e1, h2] at h1
      injection h1 with h1
      omega
  have hwh : ∀ i, (letP X.P k).wh i = none → i = f.pg ∨ X.P.wh i = none := by
    intro i hi
    have hw : (letP X.P k).wh i = if i = (frP X.P k).pg then none else X.P.wh i := rfl
    rw [hf] at hw
    rw [hw] at hi
    by_cases e1 : i = f.pg
    · exact .inl e1
    · rw [if_neg e1] at hi; exact .inr hi
  unfold emptyP
  rw [hf]
  by_cases hdi : f.di = false
  · rw [if_pos hdi]
    refine ⟨rfl, rfl, ws, ⟨hwf, h.qs, h.qp, h.pnb, h.eb, ⟨h.tb.1, by have := h.tb.2; show X.T ≤ B + 1; omega⟩, h.len, fun q g hg h0 => h.held q g (hlet q g hg h0).1 h0, fun i h0 h1 hi => ?_, h.safe, h.put, az_let h⟩, rfl⟩
    rcases hwh i hi with e1 | e1
    · rw [e1]; exact (hw2 hdi).symm
    · exact h.free i h0 h1 e1
  · rw [if_neg hdi]
    have hput := h.put f.pg hq.1 hq.2
    rw [hw1] at hput
    -- the log has the record safe
    obtain ⟨W', d', hs, hK, hsafe⟩ : ∃ W' d', safeF X f.a = (0, W', d') ∧ KP pn nl E B { X with W := W', d := d' } ws want ∧ f.a < W'.first * 128 ∧ nxL W' = nxL X.W := by
      cases hsa : safeW X.W f.a with
      | true =>
        refine ⟨X.W, X.d, by unfold safeF; rw [hsa]; rfl, h, (safe_iff hput.1).1 hsa, rfl⟩
      | false =>
        obtain ⟨f1, f2, f3⟩ := h.flush
        refine ⟨_, _, by unfold safeF; rw [hsa, if_neg (by decide)]; exact Prod.ext f1 rfl, f3, ?_, ?_⟩
        · rw [f2]; exact hput.2.1
        · rw [f2]; exact h.done
    rw [hs]
    rw [if_neg (fun x => x rfl)]
    have hn := h.nx
    have hpk := packed_right (p := (f.a, f.dt)) hput.1 (by show f.a ≤ _; have := hput.2.1; omega) hput.2.2
    have hT : 0 ≤ X.T ∧ X.T < 4294967295 := by have := h.tb; omega
    obtain ⟨r1, r2, r3, r4⟩ := qs_write hK.qs hT hq hpk
    obtain ⟨o1, o2, o3, o4⟩ := qs_write_off hK.qs hT hq hpk
    have r1 : (storeW 0 pn X.T f.pg f.a f.dt d').1 = 0 := r1
    have r2 : (storeW 0 pn X.T f.pg f.a f.dt d').2.1 = X.T + 1 := r2
    have r3 : QS 0 pn (X.T + 1) (up ws f.pg (f.a, f.dt)) (storeW 0 pn X.T f.pg f.a f.dt d').2.2 := r3
    have o1 : Mid (storeW 0 pn X.T f.pg f.a f.dt d').2.2.safe [] (storeW 0 pn X.T f.pg f.a f.dt d').2.2 := o1
    have o2 : (storeW 0 pn X.T f.pg f.a f.dt d').2.2.fuse = -1 := o2
    have o3 : (storeW 0 pn X.T f.pg f.a f.dt d').2.2.safe.length = d'.safe.length := o3
    have o4 : ∀ q, 0 + (3 + 2 * pn) ≤ q → q < d'.safe.length → cut (storeW 0 pn X.T f.pg f.a f.dt d').2.2.safe q = cut d'.safe q := o4
    generalize storeW 0 pn X.T f.pg f.a f.dt d' = s at *
    simp only []
    rw [if_neg (by rw [r1]; exact fun x => x rfl)]
    have hl' : d'.safe.length = 100 := hK.len
    have hpn := h.pnb
    have hup : ∀ i, i ≠ f.pg → up ws f.pg (f.a, f.dt) i = ws i := fun i hi => if_neg hi
    have hat : up ws f.pg (f.a, f.dt) f.pg = (f.a, f.dt) := if_pos rfl
    refine ⟨rfl, rfl, up ws f.pg (f.a, f.dt), ⟨hwf, by show QS 0 pn s.2.1 _ s.2.2; rw [r2]; exact r3, hK.qp.frame o1 o2 o3, h.pnb, h.eb, ⟨by show 1 ≤ s.2.1; rw [r2]; have := h.tb; omega, by show s.2.1 ≤ B + 1; rw [r2]; have := h.tb; omega⟩, by show s.2.2.safe.length = 100; rw [o3]; exact hl', fun q g hg h0 => ?_, fun i h0 h1 hi => ?_, fun i h0 h1 => ?_, hK.put, az_let h⟩, hsafe.2⟩
    · obtain ⟨g1, g2⟩ := hlet q g hg h0
      obtain ⟨g3, g4⟩ := h.held q g g1 h0
      exact ⟨g3, fun x => by rw [hup _ g2]; exact g4 x⟩
    · rcases hwh i hi with e1 | e1
      · rw [e1, hat]; exact hw1
      · by_cases e2 : i = f.pg
        · rw [e2, hat]; exact hw1
        · rw [hup i e2]; exact h.free i h0 h1 e1
    · by_cases e2 : i = f.pg
      · rw [e2, hat]; exact ⟨hput.1, hsafe.1⟩
      · rw [hup i e2]; exact hK.safe i h0 h1
theorem free_spec (L : List FrS) : (freeP L < L.length → ∃ f, L[freeP L]? = some f ∧ f.pg < 0) ∧ (L.length ≤ freeP L → ∀ (k : Nat) (f : FrS), L[k]? = some f → 0 ≤ f.pg) := by
  refine ⟨fun h => ?_, fun h k f hk => ?_⟩
  · have h1 := List.findIdx_getElem (w := h)
    exact ⟨L[freeP L], List.getElem?_eq_getElem h, of_decide_eq_true h1⟩
  · rcases Int.lt_or_le f.pg 0 with h1 | h1
    · exfalso
      have hm : ∃ x ∈ L, decide (x.pg < 0) = true := ⟨f, List.mem_of_getElem? hk, decide_eq_true h1⟩
      have := List.findIdx_lt_length_of_exists hm
      unfold freeP at h
      omega
    · exact h1
/-- 'room'. -/
theorem KP.room (h : KP pn nl E B X ws want) (hB : B < 4294967290) : (roomP 0 pn X).2.1 = 0 ∧ (roomP 0 pn X).1 < (roomP 0 pn X).2.2.P.fr.length ∧ (roomP 0 pn X).2.2.P.fr.length = X.P.fr.length ∧ (frP (roomP 0 pn X).2.2.P (roomP 0 pn X).1).pg < 0 ∧ (∀ i, X.P.wh i = none → (roomP 0 pn X).2.2.P.wh i = none) ∧ nxL (roomP 0 pn X).2.2.W = nxL X.W ∧ ∃ ws', KP pn nl E (B + 1) (roomP 0 pn X).2.2 ws' want := by
  unfold roomP
  obtain ⟨fs1, fs2⟩ := free_spec X.P.fr
  by_cases hf : freeP X.P.fr < X.P.fr.length
  · rw [if_pos hf]
    obtain ⟨f, h1, h2⟩ := fs1 hf
    refine ⟨rfl, hf, rfl, ?_, fun _ h => h, rfl, ws, h.b (by omega)⟩
    show (frP X.P (freeP X.P.fr)).pg < 0
    rw [(fr_of h1).1]; exact h2
  · rw [if_neg hf]
    have hh := h.wf.hand
    have hp := fs2 (by omega) X.P.hand _ (fr_some hh)
    obtain ⟨e1, e2, ws', hK, hnx⟩ := h.empty hB hh hp
    rw [e1, if_neg (fun x => x rfl)]
    have hs : (letP X.P X.P.hand).fr = X.P.fr.set X.P.hand noF := rfl
    have hl : (emptyP 0 pn X X.P.hand).2.P.fr.length = X.P.fr.length := by rw [e2, hs, List.length_set]
    refine ⟨rfl, ?_, hl, ?_, fun i hi => ?_, hnx, ws', ⟨⟨?_, hK.wf.wh, hK.wf.inv⟩, hK.qs, hK.qp, hK.pnb, hK.eb, hK.tb, hK.len, hK.held, hK.free, hK.safe, hK.put, hK.az⟩⟩
    · show X.P.hand < (emptyP 0 pn X X.P.hand).2.P.fr.length
      rw [hl]; exact hh
    · show (frP { (emptyP 0 pn X X.P.hand).2.P with hand := _ } X.P.hand).pg < 0
      have : frP { (emptyP 0 pn X X.P.hand).2.P with hand := (X.P.hand + 1) % X.P.fr.length } X.P.hand = noF := by
        have h1 : (emptyP 0 pn X X.P.hand).2.P.fr[X.P.hand]? = some noF := by rw [e2, hs]; exact List.getElem?_set_self hh
        exact (fr_of (P := { (emptyP 0 pn X X.P.hand).2.P with hand := (X.P.hand + 1) % X.P.fr.length }) h1).1
      rw [this]; decide
    · show (emptyP 0 pn X X.P.hand).2.P.wh i = none
      rw [e2]
      show (if i = _ then none else X.P.wh i) = none
      rw [hi]; split <;> rfl
    · show (X.P.hand + 1) % X.P.fr.length < (emptyP 0 pn X X.P.hand).2.P.fr.length
      rw [hl]
      exact Nat.mod_lt _ (by omega)
/-- Get. -/
theorem KP.get (h : KP pn nl E B X ws want) (hB : B < 4294967290) {i : Int} (hi : 0 ≤ i ∧ i < pn) : (getP 0 pn X i).1 = want i ∧ (getP 0 pn X i).2.1 = 0 ∧ (getP 0 pn X i).2.2.P.fr.length = X.P.fr.length ∧ nxL (getP 0 pn X i).2.2.W = nxL X.W ∧ (∃ k : Nat, (getP 0 pn X i).2.2.P.wh i = some (k : Int)) ∧ ∃ ws', KP pn nl E (B + 1) (getP 0 pn X i).2.2 ws' want := by
  unfold getP
  rw [if_neg (by omega)]
  rcases h.wf.holds i with ⟨h1, h2⟩ | ⟨k, h1, h2, h3, h4, _⟩
  · rw [h1, if_neg (by decide)]
    obtain ⟨r1, r2, r3, r4, r5, r6, ws', hK⟩ := h.room hB
    rw [r1, if_neg (fun x => x rfl)]
    have hr := qs_read hK.qs hi
    have hw : (roomP 0 pn X).2.2.P.wh i = none := r5 i h2
    have hwi : want i = ws' i := hK.free i hi.1 hi.2 hw
    rw [hr]
    rw [if_neg (fun x => x rfl)]
    have hss : (fetchP (roomP 0 pn X).2.2.P (roomP 0 pn X).1 i (ws' i).1 (ws' i).2).fr = (roomP 0 pn X).2.2.P.fr.set (roomP 0 pn X).1 ⟨i, (ws' i).1, (ws' i).2, false, 0⟩ := rfl
    refine ⟨by rw [hwi], rfl, by show (fetchP _ _ _ _ _).fr.length = _; rw [hss, List.length_set]; exact r3, r6, ⟨_, if_pos rfl⟩, ws', ⟨hK.wf.fetch r2 r4 hi hw _ _, hK.qs, hK.qp, hK.pnb, hK.eb, hK.tb, hK.len, fun q g hg h0 => ?_, fun j h0 h1 hj => ?_, hK.safe, hK.put, fun q g hg => ?_⟩⟩
    · have hg : ((roomP 0 pn X).2.2.P.fr.set (roomP 0 pn X).1 ⟨i, (ws' i).1, (ws' i).2, false, 0⟩)[q]? = some g := hg
      by_cases ek : (roomP 0 pn X).1 = q
      · subst ek
        rw [List.getElem?_set_self r2] at hg
        injection hg with hg
        subst hg
        exact ⟨hwi, fun _ => hwi.symm⟩
      · rw [List.getElem?_set_ne ek] at hg
        exact hK.held q g hg h0
    · have hj : (if j = i then some ((roomP 0 pn X).1 : Int) else (roomP 0 pn X).2.2.P.wh j) = none := hj
      by_cases e1 : j = i
      · rw [if_pos e1] at hj; cases hj
      · rw [if_neg e1] at hj; exact hK.free j h0 h1 hj
    · have hg : ((roomP 0 pn X).2.2.P.fr.set (roomP 0 pn X).1 ⟨i, (ws' i).1, (ws' i).2, false, 0⟩)[q]? = some g := hg
      by_cases ek : (roomP 0 pn X).1 = q
      · subst ek
        rw [List.getElem?_set_self r2] at hg
        injection hg with hg
        subst hg
        have h7 := hK.safe i hi.1 hi.2
        have h8 := hK.nx
        show -9223372036854775808 ≤ (ws' i).1 ∧ (ws' i).1 < 9223372036854775808
        omega
      · rw [List.getElem?_set_ne ek] at hg
        exact hK.az q g hg
  · rw [h1, if_pos (by omega)]
    rw [Int.toNat_natCast]
    have hh := h.held k _ (fr_some h3) (by rw [h4]; exact hi.1)
    rw [h4] at hh
    exact ⟨hh.1.symm, rfl, rfl, rfl, ⟨k, h2⟩, ws, h.b (by omega)⟩
/-- Put of a page that is held. -/
theorem KP.puts (h : KP pn nl E B X ws want) {i a : Int} {dt : ByteArray} (hi : 0 ≤ i ∧ i < pn) (hh : ∃ k : Nat, X.P.wh i = some (k : Int)) (ha : 0 ≤ a ∧ a < nxL X.W * 128) (hd : dt.size = 220) : (putP X.P i a dt).1 = 0 ∧ (putP X.P i a dt).2.fr.length = X.P.fr.length ∧ KP pn nl E B { X with P := (putP X.P i a dt).2 } ws (up want i (a, dt)) := by
  have hn := h.nx
  rcases h.wf.holds i with ⟨h1, h2⟩ | ⟨k, h1, h2, h3, h4, _⟩
  · obtain ⟨k, hk⟩ := hh
    rw [h2] at hk; cases hk
  · unfold putP
    rw [h1, if_neg (by omega), if_neg (by rw [Decidable.not_not]; exact ⟨ha.1, by omega, hd⟩), Int.toNat_natCast]
    have hsp : (soilF (frP X.P k) a dt).pg = (frP X.P k).pg ∧ (soilF (frP X.P k) a dt).a = a ∧ (soilF (frP X.P k) a dt).dt = dt ∧ (soilF (frP X.P k) a dt).di = true := by
      unfold soilF
      cases hdi : (frP X.P k).di <;> simp [hdi]
    refine ⟨rfl, List.length_set .., ⟨h.wf.soil k _ hsp.1, h.qs, h.qp, h.pnb, h.eb, h.tb, h.len, fun q g hg h0 => ?_, fun j h0 hj1 hj => ?_, h.safe, fun j h0 hj1 => ?_, fun q g hg => ?_⟩⟩
    · have hg : (X.P.fr.set k (soilF (frP X.P k) a dt))[q]? = some g := hg
      by_cases ek : k = q
      · subst ek
        rw [List.getElem?_set_self h3] at hg
        injection hg with hg
        subst hg
        rw [hsp.1, h4, up, if_pos rfl, hsp.2.1, hsp.2.2.1, hsp.2.2.2]
        exact ⟨rfl, fun x => by cases x⟩
      · rw [List.getElem?_set_ne ek] at hg
        have hne : g.pg ≠ i := fun e1 => by
          have h5 := h.wf.inv q g hg h0
          rw [e1, h2] at h5
          injection h5 with h5
          omega
        rw [up, if_neg hne]
        exact h.held q g hg h0
    · have hne : j ≠ i := fun e1 => by
        have hj : X.P.wh j = none := hj
        rw [e1, h2] at hj; cases hj
      rw [up, if_neg hne]
      exact h.free j h0 hj1 hj
    · unfold up
      by_cases e1 : j = i
      · rw [if_pos e1]; exact ⟨ha.1, ha.2, hd⟩
      · rw [if_neg e1]; exact h.put j h0 hj1
    · have hg : (X.P.fr.set k (soilF (frP X.P k) a dt))[q]? = some g := hg
      by_cases ek : k = q
      · subst ek
        rw [List.getElem?_set_self h3] at hg
        injection hg with hg
        subst hg
        rw [hsp.2.1]
        omega
      · rw [List.getElem?_set_ne ek] at hg
        exact h.az q g hg
/-- Append. -/
theorem KP.app (h : KP pn nl E B X ws want) (r : S39) : ∃ p er W', appendW X.W r = (p, er, W') ∧ (er = 0 → 0 ≤ p ∧ p < nxL W' * 128) ∧ KP pn nl E B { X with W := W' } ws want := by
  obtain ⟨p, er, W', e1, hq, h2, h3, h4⟩ := h.qp.app r
  refine ⟨p, er, W', e1, h4, ⟨h.wf, h.qs, hq, h.pnb, h.eb, h.tb, h.len, h.held, h.free, fun i h0 h1 => ?_, fun i h0 h1 => ?_, h.az⟩⟩
  · show 0 ≤ (ws i).1 ∧ (ws i).1 < W'.first * 128
    rw [h2]
    exact h.safe i h0 h1
  · have h5 := h.put i h0 h1
    refine ⟨h5.1, ?_, h5.2.2⟩
    show (want i).1 < nxL W' * 128
    omega
end
theorem newP_wf (pn : Int) {n : Nat} (hn : 1 ≤ n) : WF pn (newP n) := by
  refine ⟨by show 0 < (List.replicate n noF).length; rw [List.length_replicate]; omega, fun i v h => (by cases h), fun k f h h0 => ?_⟩
  have h : (List.replicate n noF)[k]? = some f := h
  rw [List.getElem?_replicate] at h
  split at h
  · injection h with h
    subst h
    exact absurd h0 (by decide)
  · cases h
theorem kp_new {pn nl : Int} {n : Nat} (hp : 1 ≤ pn ∧ pn ≤ 8) (hl : 8 ≤ nl ∧ nl ≤ 64) (hn : 1 ≤ n) : KP pn nl 1 1 ⟨newP n, 1, newW 30 nl, newD 100⟩ (fun _ => noPage) (fun _ => noPage) := by
  refine ⟨newP_wf pn hn, qs_new 100 (by decide) (by decide) (by omega) (by omega), lg_new hl (by decide) (by omega) (by decide), hp, by decide, by show (1 : Int) ≤ 1 ∧ (1 : Int) ≤ 1; omega, by simp [newD], fun k f h h0 => ?_, fun _ _ _ _ => rfl, fun i _ _ => by show (0 : Int) ≤ 0 ∧ (0 : Int) < 1 * 128; omega, fun i _ _ => ?_, fun k f h => ?_⟩
  · have h : (List.replicate n noF)[k]? = some f := h
    rw [List.getElem?_replicate] at h
    split at h
    · injection h with h
      subst h
      exact absurd h0 (by decide)
    · cases h
  · have h1 : nxL (newW 30 nl) = 1 := rfl
    show (0 : Int) ≤ 0 ∧ (0 : Int) < nxL (newW 30 nl) * 128 ∧ (noughts 220).size = 220
    rw [h1]
    refine ⟨by omega, by omega, by decide⟩
  · have h : (List.replicate n noF)[k]? = some f := h
    rw [List.getElem?_replicate] at h
    split at h
    · injection h with h
      subst h
      exact ⟨by decide, by decide⟩
    · cases h
end Go.Proofs.Ytcelfhoomhmioaa.Pl
set_option maxRecDepth 8192
namespace Go.Proofs.Ytcelfhoomhmioaa.Pl
open Go Go.RowKit Go.ChangeMaps Go.Proofs.Ytcelfhoomhmioaa.Arr Go.Proofs.Ytcelfhoomhmioaa.Ow Go.Proofs.Ytcelfhoomhmioaa.Dk Go.Proofs.Ytcelfhoomhmioaa.Fr Go.Proofs.YtcelfhoomhmioaaW.PrintWords Go.Proofs.YtcelfhoomhmioaaW.PrintLast Go.Proofs.YtcelfhoomhmioaaW.PrintMore Go.Proofs.Ytcelfhoomhmioaa.Wl Go.Proofs.Ytcelfhoomhmioaa.St
set_option linter.unusedVariables false
set_option linter.unusedSimpArgs false
theorem newdisk (L : Nat) (h1 : 1 ≤ L) (h2 : L ≤ 512) (w : World) (c : Nat → Nat) : Calls Try.prog 25 #[.int .i64 (L : Int)] w fun e w' => ∃ g, e = .returned (.tuple #[.pointer (some ⟨g, 0, none⟩), .int .i64 0]) ∧ DK w' (Col (Dk.paint c w.heap.size 1) 1) g (newD L) ∧ Fr [] w c w' (Dk.paint c w.heap.size 1) := by
  refine (new_calls L (by omega) (by omega) w).mono ?_
  rintro e w' ⟨g, hg, rfl, hk, hb⟩
  exact ⟨g, rfl, hk.fresh c 1, Fr.of_paint hb 1⟩
theorem snew_bad (g : Nat) (b n : Int) (hn : n < 1 ∨ 8 < n) (w : World) : Calls Try.prog 26 #[.pointer (some ⟨g, 0, none⟩), .int .i64 b, .int .i64 n] w fun e w' => e = .returned (.tuple #[.pointer none, .int .i64 1]) ∧ Below w.heap.size w w' := by
  by_cases h1 : n < 1
  · have q1 : decide (n < 1) = true := decide_eq_true h1
    clear hn h1
    go_enter Try.func26, Try.ntmps26
    go_wp2
    go_ret2
    exact ⟨rfl, Below.refl _ _⟩
  · have q1 : decide (n < 1) = false := decide_eq_false h1
    have q2 : decide (8 < n) = true := decide_eq_true (by omega)
    clear hn h1
    go_enter Try.func26, Try.ntmps26
    go_wp2
    go_ret2
    exact ⟨rfl, Below.refl _ _⟩
theorem disk100 {w0 w : World} {c0 c : Nat → Nat} (_ : Fr [] w0 c0 w c) : Calls Try.prog 25 #[.int .i64 100] w fun e w' => ∃ g, e = .returned (.tuple #[.pointer (some ⟨g, 0, none⟩), .int .i64 0]) ∧ DK w' (Col (Dk.paint c w.heap.size 1) 1) g (newD 100) ∧ Fr [] w c w' (Dk.paint c w.heap.size 1) := newdisk 100 (by decide) (by decide) w c
theorem disk100g {w0 w : World} {c : Nat → Nat} (_ : Gr w0 w c) : Calls Try.prog 25 #[.int .i64 100] w fun e w' => ∃ g, e = .returned (.tuple #[.pointer (some ⟨g, 0, none⟩), .int .i64 0]) ∧ DK w' (Col (Dk.paint c w.heap.size 1) 1) g (newD 100) ∧ Fr [] w c w' (Dk.paint c w.heap.size 1) := newdisk 100 (by decide) (by decide) w c
theorem new100 (zp : Int) (h : 1 ≤ zp ∧ zp ≤ 8) : newOk (newD 100) 0 zp := by
  refine ⟨h.1, h.2, by decide, ?_⟩
  have : (newD 100).safe.length = 100 := by simp [newD]
  rw [this]
  unfold secN
  omega
theorem lies100 (n : Int) : liesE (newD 100) 30 n = if n < 8 ∨ 64 < n then 1 else 0 := by
  have : (newD 100).safe.length = 100 := by simp [newD]
  unfold liesE
  rw [this]
  by_cases h : n < 8 ∨ 64 < n
  · rw [if_pos h, if_pos (by omega)]
  · rw [if_neg h, if_neg (by omega)]
set_option maxHeartbeats 4000000 in
theorem made_ok (zp zl : Int) (nf : Nat) (h : 1 ≤ zp ∧ zp ≤ 8) (hl : 8 ≤ zl ∧ zl ≤ 64) (hf : 1 ≤ nf ∧ nf ≤ 8) (w : World) (c : Nat → Nat) : Calls Try.prog 7 #[.agg #[.int .i64 zp, .int .i64 (nf : Int), .int .i64 zl]] w fun e w' => ∃ g gs gl ml gp fb m cp c', e = .returned (.tuple #[.pointer (some ⟨g, 0, none⟩), .pointer (some ⟨gs, 0, none⟩), .pointer (some ⟨gl, 0, none⟩), .pointer (some ⟨gp, 0, none⟩), .int .i64 0]) ∧ Fr [] w c w' c' ∧ AO w' c' gp fb m gs gl ml g nf cp 0 zp ⟨newP nf, 1, newW 30 zl, newD 100⟩ := by
  have hzi : -9223372036854775808 ≤ zl ∧ zl < 9223372036854775808 := by omega
  have HNF := Aside0.mk hf; have HZS := Aside0.mk (new100 zp h); have HLI := Aside0.mk (show liesE (newD 100) 30 zl = 0 by rw [lies100, if_neg (by omega)])
  clear h hl hf
  have HF := Aside0.mk (Fr.refl [] w c)
  have HZI := Aside0.mk hzi
  clear hzi
  go_enter Try.func7, Try.ntmps7
  go_upto_region 1 with (fail)
  have hf := fr_alloc [] w c 9 (.cells #[.int .i64 zp, .int .i64 (nf : Int), .int .i64 zl] 23)
  have HF_n := Aside0.mk (HF.out.trans (hf.mono (by decide))); clear HF; have HF := HF_n; clear HF_n
  have LZ := Aside0.mk (loc_alloc w c 9 #[.int .i64 zp, .int .i64 (nf : Int), .int .i64 zl] 23)
  clear hf
  generalize Dk.paint c w.heap.size 9 = cLZ at *
  generalize w.alloc (.cells #[.int .i64 zp, .int .i64 (nf : Int), .int .i64 zl] 23) = W0 at *
  generalize w.heap.size = zb at *
  go_upto_region 2 with (go_at_call 25; (with_reducible refine (disk100 HF.out).mono ?_); rintro e w1 ⟨g, rfl, hk, hf⟩; have HF_n := Aside0.mk (HF.out.trans (hf.mono (by decide))); have LZ_n := Aside0.mk (LZ.out.keep hf (by decide)); clear HF LZ; have HF := HF_n; have LZ := LZ_n; clear HF_n LZ_n; have HD := Aside0.mk hk; clear hk hf)
  have z0 : w1.cell? ⟨zb, 0, none⟩ = some (.int .i64 zp) := blk_cell LZ.out.blk 0; have z1 : w1.cell? ⟨zb, 1, none⟩ = some (.int .i64 (nf : Int)) := blk_cell LZ.out.blk 1; have z2 : w1.cell? ⟨zb, 2, none⟩ = some (.int .i64 zl) := blk_cell LZ.out.blk 2
  go_upto_region 3 with (go_at_call 26; (with_reducible refine (new_o HD.out (ok_new 100 (by decide)) (by decide) HZS.out).mono ?_); rintro e w1 ⟨gs, c1, rfl, hf, hs⟩; have HF_n := Aside0.mk (HF.out.trans (hf.mono (by decide))); have LZ_n := Aside0.mk (LZ.out.keep hf (by decide)); clear HF LZ; have HF := HF_n; have LZ := LZ_n; clear HF_n LZ_n; have HS := Aside0.mk hs; clear hs hf HD)
  clear z0 z1 z2
  have z0 : w1.cell? ⟨zb, 0, none⟩ = some (.int .i64 zp) := blk_cell LZ.out.blk 0; have z1 : w1.cell? ⟨zb, 1, none⟩ = some (.int .i64 (nf : Int)) := blk_cell LZ.out.blk 1; have z2 : w1.cell? ⟨zb, 2, none⟩ = some (.int .i64 zl) := blk_cell LZ.out.blk 2
  go_upto_region 6 with (go_at_call 27; (with_reducible refine (lnew_calls HS.out.sk.dk (ok_new 100 (by decide)) 30 zl (by decide) HZI.out HLI.out).mono ?_); rintro e w1 ⟨gl, ml, c1, rfl, hf, hl, hd⟩; have HF_n := Aside0.mk (HF.out.trans (hf.mono (by decide))); have LZ_n := Aside0.mk (LZ.out.keep hf (by decide)); have HS_n := Aside0.mk (HS.out.keep hf (by decide) (by decide)); clear HF LZ HS; have HF := HF_n; have LZ := LZ_n; have HS := HS_n; clear HF_n LZ_n HS_n; have HL := Aside0.mk hl; clear hl hd hf)
  clear z0 z1 z2
  have z0 : w1.cell? ⟨zb, 0, none⟩ = some (.int .i64 zp) := blk_cell LZ.out.blk 0; have z1 : w1.cell? ⟨zb, 1, none⟩ = some (.int .i64 (nf : Int)) := blk_cell LZ.out.blk 1; have z2 : w1.cell? ⟨zb, 2, none⟩ = some (.int .i64 zl) := blk_cell LZ.out.blk 2
  go_upto_region 9 with (go_at_call 19; (with_reducible refine (pnew_calls gs gl nf HNF.out _ c1).mono ?_); rintro e w1 ⟨gp, fb, m, cp, c1, rfl, hf, hp⟩; have HF_n := Aside0.mk (HF.out.trans (hf.mono (by decide))); have LZ_n := Aside0.mk (LZ.out.keep hf (by decide)); have HS_n := Aside0.mk (HS.out.keep hf (by decide) (by decide)); have HL_n := Aside0.mk (HL.out.keep hf (by decide)); clear HF LZ HS HL; have HF := HF_n; have LZ := LZ_n; have HS := HS_n; have HL := HL_n; clear HF_n LZ_n HS_n HL_n; have HP := Aside0.mk hp; clear hp hf)
  clear z0 z1 z2
  go_wp2
  refine bodyPost_ret (v := .tuple #[.pointer (some ⟨g, 0, none⟩), .pointer (some ⟨gs, 0, none⟩), .pointer (some ⟨gl, 0, none⟩), .pointer (some ⟨gp, 0, none⟩), .int .i64 0]) (by simp [results, Try.results7, go_sem]) rfl ?_
  exact ⟨g, gs, gl, ml, gp, fb, m, cp, _, rfl, HF.out, ⟨HP.out, HS.out, HL.out⟩⟩
set_option maxHeartbeats 4000000 in
theorem made_bad (zp zf zl : Int) (hzi : -9223372036854775808 ≤ zl ∧ zl < 9223372036854775808) (h : zp < 1 ∨ 8 < zp ∨ zl < 8 ∨ 64 < zl ∨ zf < 1 ∨ 8 < zf) (w : World) : Calls Try.prog 7 #[.agg #[.int .i64 zp, .int .i64 zf, .int .i64 zl]] w fun e w' => (∃ g p2 p3 p4, e = .returned (.tuple #[.pointer (some ⟨g, 0, none⟩), .pointer p2, .pointer p3, .pointer p4, .int .i64 1])) ∧ Below w.heap.size w w' := by
  have HG := Aside0.mk (Gr.refl w)
  have HZI := Aside0.mk hzi
  clear hzi
  go_enter Try.func7, Try.ntmps7
  go_upto_region 1 with (fail)
  have hf := fr_alloc [] w (fun _ => 0) 9 (.cells #[.int .i64 zp, .int .i64 zf, .int .i64 zl] 23)
  have HG_n := Aside0.mk (HG.out.step hf (by decide)); clear HG; have HG := HG_n; clear HG_n
  have LZ := Aside0.mk (loc_alloc w (fun _ => 0) 9 #[.int .i64 zp, .int .i64 zf, .int .i64 zl] 23)
  clear hf
  generalize Dk.paint (fun _ => 0) w.heap.size 9 = cLZ at *
  generalize w.alloc (.cells #[.int .i64 zp, .int .i64 zf, .int .i64 zl] 23) = W0 at *
  generalize w.heap.size = zb at *
  go_upto_region 2 with (go_at_call 25; (with_reducible refine (disk100g HG.out).mono ?_); rintro e w1 ⟨g, rfl, hk, hf⟩; have HG_n := Aside0.mk (HG.out.step hf (by decide)); have LZ_n := Aside0.mk (LZ.out.keep hf (by decide)); clear HG LZ; have HG := HG_n; have LZ := LZ_n; clear HG_n LZ_n; have HD := Aside0.mk hk; clear hk hf)
  have z0 : w1.cell? ⟨zb, 0, none⟩ = some (.int .i64 zp) := blk_cell LZ.out.blk 0; have z1 : w1.cell? ⟨zb, 1, none⟩ = some (.int .i64 zf) := blk_cell LZ.out.blk 1; have z2 : w1.cell? ⟨zb, 2, none⟩ = some (.int .i64 zl) := blk_cell LZ.out.blk 2
  by_cases hp : zp < 1 ∨ 8 < zp
  · have HZB := Aside0.mk hp
    clear h hp
    go_upto_region 3 with (go_at_call 26; (with_reducible refine (snew_bad g 0 zp HZB.out _).mono ?_); rintro e w1 ⟨rfl, hb1⟩; have HG_n := Aside0.mk (HG.out.below hb1); have LZ_n := Aside0.mk (LZ.out.below hb1); clear HG LZ; have HG := HG_n; have LZ := LZ_n; clear HG_n LZ_n; clear hb1)
    clear z0 z1 z2
    go_wp2
    refine bodyPost_ret (v := .tuple #[.pointer (some ⟨g, 0, none⟩), .pointer none, .pointer none, .pointer none, .int .i64 1]) (by simp [results, Try.results7, go_sem]) rfl ?_
    exact ⟨⟨g, _, _, _, rfl⟩, HG.out.bel⟩
  · have HZS := Aside0.mk (new100 zp (by omega))
    by_cases hl : zl < 8 ∨ 64 < zl
    · have HLI := Aside0.mk (show liesE (newD 100) 30 zl = 1 by rw [lies100, if_pos hl])
      clear h hp hl
      go_upto_region 3 with (go_at_call 26; (with_reducible refine (new_o HD.out (ok_new 100 (by decide)) (by decide) HZS.out).mono ?_); rintro e w1 ⟨gs, c1, rfl, hf, hs⟩; have HG_n := Aside0.mk (HG.out.step hf (by decide)); have LZ_n := Aside0.mk (LZ.out.keep hf (by decide)); clear HG LZ; have HG := HG_n; have LZ := LZ_n; clear HG_n LZ_n; have HS := Aside0.mk hs; clear hs hf HD)
      clear z0 z1 z2
      have z0 : w1.cell? ⟨zb, 0, none⟩ = some (.int .i64 zp) := blk_cell LZ.out.blk 0; have z1 : w1.cell? ⟨zb, 1, none⟩ = some (.int .i64 zf) := blk_cell LZ.out.blk 1; have z2 : w1.cell? ⟨zb, 2, none⟩ = some (.int .i64 zl) := blk_cell LZ.out.blk 2
      go_upto_region 6 with (go_at_call 27; (with_reducible refine (lnew_bad HS.out.sk.dk (ok_new 100 (by decide)) 30 zl (by decide) HZI.out HLI.out).mono ?_); rintro e w1 ⟨rfl, hb1⟩; have HG_n := Aside0.mk (HG.out.below hb1); have LZ_n := Aside0.mk (LZ.out.below hb1); have HS_n := Aside0.mk (HS.out.below hb1); clear HG LZ HS; have HG := HG_n; have LZ := LZ_n; have HS := HS_n; clear HG_n LZ_n HS_n; clear hb1)
      clear z0 z1 z2
      go_wp2
      refine bodyPost_ret (v := .tuple #[.pointer (some ⟨g, 0, none⟩), .pointer none, .pointer none, .pointer none, .int .i64 1]) (by simp [results, Try.results7, go_sem]) rfl ?_
      exact ⟨⟨g, _, _, _, rfl⟩, HG.out.bel⟩
    · have HLI := Aside0.mk (show liesE (newD 100) 30 zl = 0 by rw [lies100, if_neg hl])
      have HFB := Aside0.mk (show zf < 1 ∨ 8 < zf by omega)
      clear h hp hl
      go_upto_region 3 with (go_at_call 26; (with_reducible refine (new_o HD.out (ok_new 100 (by decide)) (by decide) HZS.out).mono ?_); rintro e w1 ⟨gs, c1, rfl, hf, hs⟩; have HG_n := Aside0.mk (HG.out.step hf (by decide)); have LZ_n := Aside0.mk (LZ.out.keep hf (by decide)); clear HG LZ; have HG := HG_n; have LZ := LZ_n; clear HG_n LZ_n; have HS := Aside0.mk hs; clear hs hf HD)
      clear z0 z1 z2
      have z0 : w1.cell? ⟨zb, 0, none⟩ = some (.int .i64 zp) := blk_cell LZ.out.blk 0; have z1 : w1.cell? ⟨zb, 1, none⟩ = some (.int .i64 zf) := blk_cell LZ.out.blk 1; have z2 : w1.cell? ⟨zb, 2, none⟩ = some (.int .i64 zl) := blk_cell LZ.out.blk 2
      go_upto_region 6 with (go_at_call 27; (with_reducible refine (lnew_calls HS.out.sk.dk (ok_new 100 (by decide)) 30 zl (by decide) HZI.out HLI.out).mono ?_); rintro e w1 ⟨gl, ml, c1, rfl, hf, hl, hd⟩; have HG_n := Aside0.mk (HG.out.step hf (by decide)); have LZ_n := Aside0.mk (LZ.out.keep hf (by decide)); have HS_n := Aside0.mk (HS.out.keep hf (by decide) (by decide)); clear HG LZ HS; have HG := HG_n; have LZ := LZ_n; have HS := HS_n; clear HG_n LZ_n HS_n; have HL := Aside0.mk hl; clear hl hd hf)
      clear z0 z1 z2
      have z0 : w1.cell? ⟨zb, 0, none⟩ = some (.int .i64 zp) := blk_cell LZ.out.blk 0; have z1 : w1.cell? ⟨zb, 1, none⟩ = some (.int .i64 zf) := blk_cell LZ.out.blk 1; have z2 : w1.cell? ⟨zb, 2, none⟩ = some (.int .i64 zl) := blk_cell LZ.out.blk 2
      go_upto_region 9 with (go_at_call 19; (with_reducible refine (pnew_bad ⟨gs, 0, none⟩ ⟨gl, 0, none⟩ zf HFB.out _).mono ?_); rintro e w1 ⟨rfl, hb1⟩; have HG_n := Aside0.mk (HG.out.below hb1); have LZ_n := Aside0.mk (LZ.out.below hb1); have HS_n := Aside0.mk (HS.out.below hb1); have HL_n := Aside0.mk (HL.out.below hb1); clear HG LZ HS HL; have HG := HG_n; have LZ := LZ_n; have HS := HS_n; have HL := HL_n; clear HG_n LZ_n HS_n HL_n; clear hb1)
      clear z0 z1 z2
      go_wp2
      refine bodyPost_ret (v := .tuple #[.pointer (some ⟨g, 0, none⟩), .pointer (some ⟨gs, 0, none⟩), .pointer (some ⟨gl, 0, none⟩), .pointer none, .int .i64 1]) (by simp [results, Try.results7, go_sem]) rfl ?_
      exact ⟨⟨g, _, _, _, rfl⟩, HG.out.bel⟩
end Go.Proofs.Ytcelfhoomhmioaa.Pl
set_option maxRecDepth 8192
namespace Go.Proofs.Ytcelfhoomhmioaa.Pl
open Go Go.RowKit Go.ChangeMaps Go.Proofs.Ytcelfhoomhmioaa.Arr Go.Proofs.Ytcelfhoomhmioaa.Ow Go.Proofs.Ytcelfhoomhmioaa.Dk Go.Proofs.Ytcelfhoomhmioaa.Fr Go.Proofs.YtcelfhoomhmioaaW.PrintWords Go.Proofs.YtcelfhoomhmioaaW.PrintLast Go.Proofs.YtcelfhoomhmioaaW.PrintMore Go.Proofs.Ytcelfhoomhmioaa.Wl Go.Proofs.Ytcelfhoomhmioaa.St
set_option linter.unusedVariables false
set_option linter.unusedSimpArgs false
theorem KP.rdy {pn nl E B : Int} {X : XS} {ws want : Int → Int × ByteArray} (h : KP pn nl E B X ws want) (hB : B < 4294967290) : Rdy 0 pn 0 X := ⟨h.qp.ok, h.qp.fit h.eb, h.qp.bd, h.qp.gap.1, h.qp.gap.2, ⟨by decide, by have := h.pnb; omega, h.pnb.2⟩, ⟨by have := h.tb; omega, by have := h.tb; omega⟩, h.az⟩
theorem KP.okr {pn nl E B : Int} {X : XS} {ws want : Int → Int × ByteArray} (h : KP pn nl E B X ws want) (hB : B < 4294967290) : OkN 900 (roomP 0 pn X).2.2.d := by
  obtain ⟨_, _, _, _, _, _, ws', hK⟩ := h.room hB
  exact hK.qp.ok.mono (by decide)
/-- A row of pages that have changed, of colour 9. -/
def RowsL (w : World) (c : Nat → Nat) (A : Option Addr) (L : List (Int × Int)) : Prop := L = [] ∨ ∃ fb cs, A = some ⟨fb, 0, none⟩ ∧ Fr.Loc w c fb 9 cs 70 ∧ ∀ (k : Nat) (p : Int × Int), L[k]? = some p → cs[k * 2]? = some (.int .i64 p.1) ∧ cs[k * 2 + 1]? = some (.int .i64 p.2)
theorem dc_get : ∀ (L : List (Int × Int)) (k : Nat) (p : Int × Int), L[k]? = some p → (dc L)[k * 2]? = some (.int .i64 p.1) ∧ (dc L)[k * 2 + 1]? = some (.int .i64 p.2) := by
  intro L
  induction L with
  | nil => intro k p h; cases h
  | cons x t ih =>
    intro k p h
    have e : dc (x :: t) = .int .i64 x.1 :: .int .i64 x.2 :: dc t := rfl
    rw [e]
    cases k with
    | zero =>
      injection h with h
      subst h
      exact ⟨rfl, rfl⟩
    | succ k =>
      obtain ⟨h1, h2⟩ := ih k p h
      rw [show (k + 1) * 2 = (k * 2 + 1) + 1 by omega]
      exact ⟨h1, h2⟩
theorem RowsL.keep {M : List Nat} {w w' : World} {c c' : Nat → Nat} {A : Option Addr} {L : List (Int × Int)} (h : RowsL w c A L) (hf : Fr M w c w' c') (hx : 9 ∉ M) : RowsL w' c' A L := by
  rcases h with h | ⟨fb, cs, h1, h2, h3⟩
  · exact .inl h
  · exact .inr ⟨fb, cs, h1, h2.keep hf hx, h3⟩
theorem RowsL.at_ {w : World} {c : Nat → Nat} {A : Option Addr} {L : List (Int × Int)} (h : RowsL w c A L) {k : Nat} {p : Int × Int} (hk : L[k]? = some p) : ∃ fb, A = some ⟨fb, 0, none⟩ ∧ w.cell? ⟨fb, k * 2, none⟩ = some (.int .i64 p.1) ∧ w.cell? ⟨fb, k * 2 + 1, none⟩ = some (.int .i64 p.2) := by
  rcases h with h | ⟨fb, cs, h1, h2, h3⟩
  · rw [h] at hk; cases hk
  · obtain ⟨e1, e2⟩ := h3 k p hk
    exact ⟨fb, h1, (blk_cell h2.blk _).trans e1, (blk_cell h2.blk _).trans e2⟩
section
variable {w : World} {c : Nat → Nat} {gp fb m gs gl ml g n cp : Nat} {b : Int} {X : XS}
theorem dirty_o {q : Nat} (h : AO w c gp fb m gs gl ml g n cp b (q : Int) X) (hq : q ≤ 8) (hw : WF (q : Int) X.P) (L : List (Int × Int)) (hL : dirtyK X.P q = L) : Calls Try.prog 20 #[.pointer (some ⟨gp, 0, none⟩)] w fun e w' => ∃ A cp' c', e = .returned (.slice A L.length cp') ∧ Fr [] w c w' c' ∧ RowsL w' c' A L := by
  refine (dirty_calls h hq hw).mono ?_
  rintro e w' ⟨v, rfl, ho, hb⟩
  rw [hL] at ho
  obtain ⟨A, c1, rfl, h1, h2, h3⟩ := ho.shape
  refine ⟨A, c1, Dk.paint c w.heap.size 9, rfl, Fr.of_paint hb 9, ?_⟩
  cases L with
  | nil => exact .inl rfl
  | cons x t =>
    obtain ⟨fb', c2, cur, e1, e2, e3, e4, e5, e6, e7⟩ := ho.open (by simp)
    injection e1 with e1 _ _
    refine .inr ⟨fb', cur, e1, ⟨e3, paint_new e2⟩, fun k p hk => ?_⟩
    obtain ⟨d1, d2⟩ := dc_get _ k p hk
    rw [← e7] at d1 d2
    have d1 := take_get d1
    have d2 := take_get d2
    exact ⟨by simpa using d1, by simpa using d2⟩
end
abbrev nP : Int → Int × ByteArray := fun _ => noPage
def aP1 : PS := ⟨[⟨0, 0, noughts 220, false, 0⟩], fun j => if j = 0 then some 0 else none, 0⟩
def aP2 : PS := ⟨[⟨0, 5, noughts 220, true, 5⟩], fun j => if j = 0 then some 0 else none, 0⟩
def aP3 : PS := ⟨[⟨1, 0, noughts 220, false, 0⟩], fun j => if j = 1 then some 0 else if j = 0 then none else if j = 0 then some 0 else none, 0⟩
def aD : DS := (storeW 0 2 1 0 5 (noughts 220) (newD 100)).2.2
def aX0 : XS := ⟨newP 1, 1, newW 30 8, newD 100⟩
def aX1 : XS := ⟨aP1, 1, newW 30 8, newD 100⟩
def aX2 : XS := ⟨aP2, 1, newW 30 8, newD 100⟩
def aX3 : XS := ⟨aP3, 2, newW 30 8, aD⟩
theorem aw_q0 : QS 0 2 1 nP (newD 100) := qs_new 100 (by decide) (by decide) (by decide) (by decide)
theorem aw_pk : Packed (Page.packF 5 (noughts 220)).1 (5, noughts 220) := packed_right (by decide) (by decide) (by decide)
theorem aw_q3 : (storeW 0 2 1 0 5 (noughts 220) (newD 100)).1 = 0 ∧ (storeW 0 2 1 0 5 (noughts 220) (newD 100)).2.1 = 2 ∧ QS 0 2 2 (St.up nP 0 (5, noughts 220)) aD := by
  obtain ⟨r1, r2, r3, r4⟩ := qs_write aw_q0 (by decide) (i := 0) (by decide) aw_pk
  exact ⟨r1, r2, r3⟩
theorem aw_g0 : getP 0 2 aX0 0 = ((0, noughts 220), 0, aX1) := by
  have hr := qs_read aw_q0 (k := 0) (by decide)
  have h1 : roomP 0 2 aX0 = (0, 0, aX0) := rfl
  unfold getP
  rw [if_neg (by decide), if_neg (by decide), h1]
  simp only []
  rw [if_neg (fun x => x rfl)]
  have hr : storeR aX0.d 0 2 0 = (0, noughts 220, 0) := hr
  rw [hr, if_neg (fun x => x rfl)]
  rfl
theorem aw_p1 : putP aP1 0 5 (noughts 220) = (0, aP2) := rfl
theorem aw_d2 : dirtyK aP2 2 = [((0 : Int), (5 : Int))] := rfl
theorem aw_g2' (d0 D : DS) (hsw : storeW 0 2 1 0 5 (noughts 220) d0 = (0, 2, D)) (hr : storeR D 0 2 1 = (0, noughts 220, 0)) : getP 0 2 ⟨aP2, 1, newW 30 8, d0⟩ 1 = ((0, noughts 220), 0, ⟨aP3, 2, newW 30 8, D⟩) := by
  generalize hn : noughts 220 = z at *
  have hf : frP aP2 0 = ⟨0, 5, z, true, 5⟩ := by rw [← hn]; rfl
  have hs : safeF ⟨aP2, 1, newW 30 8, d0⟩ 5 = (0, newW 30 8, d0) := rfl
  have he : emptyP 0 2 ⟨aP2, 1, newW 30 8, d0⟩ 0 = (0, ⟨letP aP2 0, 2, newW 30 8, D⟩) := by
    unfold emptyP
    simp only [hf, hs]
    rw [if_neg (by decide), if_neg (fun x => x rfl)]
    simp only [hsw]
    rw [if_neg (fun x => x rfl)]
  have h0 : aP2.hand = 0 := rfl
  have hl : aP2.fr.length = 1 := rfl
  have h1 : roomP 0 2 ⟨aP2, 1, newW 30 8, d0⟩ = (0, 0, ⟨letP aP2 0, 2, newW 30 8, D⟩) := by
    unfold roomP
    simp only [h0, hl, he]
    rw [if_neg (by decide), if_neg (fun x => x rfl)]
    rfl
  unfold getP
  rw [if_neg (by decide), show holdsP (XS.P ⟨aP2, 1, newW 30 8, d0⟩) 1 = -1 from rfl, if_neg (by decide), h1]
  simp only [hr]
  rw [if_neg (fun x => x rfl), if_neg (fun x => x rfl)]
  rw [← hn]
  rfl
theorem aw_g2 : getP 0 2 aX2 1 = ((0, noughts 220), 0, aX3) := by
  obtain ⟨r1, r2, r3⟩ := aw_q3
  exact aw_g2' _ _ (Prod.ext r1 (Prod.ext r2 rfl)) (qs_read r3 (k := 1) (by decide))
theorem aw_r3 : storeR aX3.d 0 2 0 = (5, noughts 220, 0) := qs_read aw_q3.2.2 (k := 0) (by decide)
theorem aw_d3 : dirtyK aP3 2 = [] := rfl
theorem aw_h3 : holdsP aP3 0 = -1 ∧ holdsP aP3 1 = 0 := ⟨rfl, rfl⟩
theorem aw_p3 : putP aP3 0 5 (noughts 220) = (7, aP3) := rfl
theorem aw_k0 : KP 2 8 1 1 aX0 nP nP := kp_new (by decide) (by decide) (by decide)
theorem aw_k1 : ∃ ws, KP 2 8 1 2 aX1 ws nP := by
  obtain ⟨_, _, _, _, _, ws, h⟩ := aw_k0.get (by decide) (i := 0) (by decide)
  rw [aw_g0] at h
  exact ⟨ws, h⟩
theorem aw_k2 : ∃ ws want, KP 2 8 1 2 aX2 ws want := by
  obtain ⟨ws, h⟩ := aw_k1
  obtain ⟨_, _, h2⟩ := h.puts (i := 0) (a := 5) (dt := noughts 220) (by decide) ⟨0, rfl⟩ (by have := h.nx; omega) (by decide)
  have e : (putP aX1.P 0 5 (noughts 220)).2 = aP2 := by show (putP aP1 0 5 (noughts 220)).2 = aP2; rw [aw_p1]
  rw [e] at h2
  exact ⟨ws, _, h2⟩
theorem aw_k3 : ∃ ws want, KP 2 8 1 3 aX3 ws want := by
  obtain ⟨ws, want, h⟩ := aw_k2
  obtain ⟨_, _, _, _, _, ws', h2⟩ := h.get (by decide) (i := 1) (by decide)
  rw [aw_g2] at h2
  exact ⟨ws', want, h2⟩
theorem aw_rd0 : Rdy 0 2 0 aX0 := aw_k0.rdy (by decide)
theorem aw_rd2 : Rdy 0 2 0 aX2 := by obtain ⟨_, _, h⟩ := aw_k2; exact h.rdy (by decide)
theorem aw_ok0 : OkN 900 (roomP 0 2 aX0).2.2.d := aw_k0.okr (by decide)
theorem aw_ok2 : OkN 900 (roomP 0 2 aX2).2.2.d := by obtain ⟨_, _, h⟩ := aw_k2; exact h.okr (by decide)
theorem aw_ok3 : OkN 0 aX3.d := by obtain ⟨_, _, h⟩ := aw_k3; exact h.qp.ok
theorem aw_wf0 : WF 2 aX0.P := aw_k0.wf
theorem aw_wf1 : WF 2 aX1.P := by obtain ⟨_, h⟩ := aw_k1; exact h.wf
theorem aw_wf2 : WF 2 aX2.P := by obtain ⟨_, _, h⟩ := aw_k2; exact h.wf
theorem aw_wf3 : WF 2 aX3.P := by obtain ⟨_, _, h⟩ := aw_k3; exact h.wf
theorem made_281 {w0 w : World} {c : Nat → Nat} (_ : Gr w0 w c) : Calls Try.prog 7 #[.agg #[.int .i64 2, .int .i64 1, .int .i64 8]] w fun e w' => ∃ g gs gl ml gp fb m cp c', e = .returned (.tuple #[.pointer (some ⟨g, 0, none⟩), .pointer (some ⟨gs, 0, none⟩), .pointer (some ⟨gl, 0, none⟩), .pointer (some ⟨gp, 0, none⟩), .int .i64 0]) ∧ Fr [] w c w' c' ∧ AO w' c' gp fb m gs gl ml g 1 cp 0 2 aX0 := made_ok 2 8 1 (by decide) (by decide) (by decide) w c
theorem fld_pg1 (a b : Value) (w : World) : (Instr.field 35 (.agg #[a, b]) 1).run Try.prog w = .ok b w := by kernel_rfl
theorem eq_pg (d : Nat) (w : World) (x0 y0 : Int) (x1 y1 : ByteArray) : (Op.equalIn (d + 2) 35 (.agg #[.int .i64 x0, .string x1]) (.agg #[.int .i64 y0, .string y1])).run Try.prog w = .ok (x0 == y0 && (x1.toList == y1.toList)) w := eqA34 d w x0 y0 x1 y1
attribute [local go_sem high] eq_pg fld_pg1
set_option maxHeartbeats 16000000 in
set_option maxRecDepth 8192 in
theorem awake_calls (w : World) : Calls Try.prog 8 #[] w fun e w' => e = .returned (.bool true) ∧ Below w.heap.size w w' := by
  have G := Aside0.mk (Gr.refl w)
  go_enter Try.func8, Try.ntmps8
  go_upto_region 2 with (go_at_call 7; (with_reducible refine (made_281 G.out).mono ?_); rintro e w1 ⟨g, gs, gl, ml, gp, fb, m, cp, c1, rfl, hf, ha⟩; have G_n := Aside0.mk (G.out.step hf (by decide)); clear G; have G := G_n; clear G_n; have HA := Aside0.mk ha; clear ha hf)
  go_upto_region 3 with (go_at_call 18; (with_reducible refine (refempty_calls _).mono ?_); rintro e w1 ⟨rfl, hb1⟩; have G_n := Aside0.mk (G.out.below hb1); have HA_n := Aside0.mk (HA.out.below hb1); clear G HA; have G := G_n; have HA := HA_n; clear G_n HA_n; clear hb1)
  have hf := fr_alloc [] w1 c1 9 (.cells #[.int .i64 5, .string (noughts 220)] 35)
  have G_n := Aside0.mk (G.out.step hf (by decide)); have HA_n := Aside0.mk (HA.out.keep hf (by decide) (by decide) (by decide) (by decide)); clear G HA; have G := G_n; have HA := HA_n; clear G_n HA_n
  have LX := Aside0.mk (loc_alloc w1 c1 9 #[.int .i64 5, .string (noughts 220)] 35)
  clear hf
  generalize Dk.paint c1 w1.heap.size 9 = cLX at *
  generalize w1.alloc (.cells #[.int .i64 5, .string (noughts 220)] 35) = W2 at *
  generalize w1.heap.size = bx at *
  go_upto_region 4 with (go_at_call 11; (with_reducible refine (get_calls HA.out aw_rd0 (by decide) aw_wf0 aw_ok0 0).mono ?_); rintro e w1 ⟨rfl, c1, hf, ha⟩; rw [aw_g0] at ha ⊢; simp only [] at ha ⊢; have G_n := Aside0.mk (G.out.step hf (by decide)); have LX_n := Aside0.mk (LX.out.keep hf (by decide)); clear G LX; have G := G_n; have LX := LX_n; clear G_n LX_n; clear HA; have HA := Aside0.mk ha; clear ha hf)
  have hf := fr_alloc [] w1 c1 9 (.cells #[.int .i64 0, .string (noughts 220)] 35)
  have G_n := Aside0.mk (G.out.step hf (by decide)); have LX_n := Aside0.mk (LX.out.keep hf (by decide)); have HA_n := Aside0.mk (HA.out.keep hf (by decide) (by decide) (by decide) (by decide)); clear G LX HA; have G := G_n; have LX := LX_n; have HA := HA_n; clear G_n LX_n HA_n
  have LY := Aside0.mk (loc_alloc w1 c1 9 #[.int .i64 0, .string (noughts 220)] 35)
  clear hf
  generalize Dk.paint c1 w1.heap.size 9 = cLY at *
  generalize w1.alloc (.cells #[.int .i64 0, .string (noughts 220)] 35) = W3 at *
  generalize w1.heap.size = by_ at *
  have x0 : W3.cell? ⟨bx, 0, none⟩ = some (.int .i64 5) := blk_cell LX.out.blk 0; have x1 : W3.cell? ⟨bx, 1, none⟩ = some (.string (noughts 220)) := blk_cell LX.out.blk 1
  go_upto_region 5 with (go_at_call 14; (with_reducible refine (put_calls HA.out aw_wf1 0 5 (noughts 220)).mono ?_); rintro e w1 ⟨rfl, c1, hf, ha⟩; rw [show putP aX1.P 0 5 (noughts 220) = (0, aP2) from aw_p1] at ha ⊢; simp only [] at ha ⊢; have G_n := Aside0.mk (G.out.step hf (by decide)); have LX_n := Aside0.mk (LX.out.keep hf (by decide)); have LY_n := Aside0.mk (LY.out.keep hf (by decide)); clear G LX LY; have G := G_n; have LX := LX_n; have LY := LY_n; clear G_n LX_n LY_n; clear HA; have HA := Aside0.mk (show AO w1 c1 gp fb m gs gl ml g 1 cp 0 2 aX2 from ha); clear ha hf)
  clear x0 x1
  go_upto_region 6 with (go_at_call 20; (with_reducible refine (dirty_o (q := 2) HA.out (by decide) aw_wf2 [((0 : Int), (5 : Int))] aw_d2).mono ?_); rintro e w1 ⟨Ad, cd, c1, rfl, hf, hr⟩; have G_n := Aside0.mk (G.out.step hf (by decide)); have LX_n := Aside0.mk (LX.out.keep hf (by decide)); have HA_n := Aside0.mk (HA.out.keep hf (by decide) (by decide) (by decide) (by decide)); clear G LX HA; have G := G_n; have LX := LX_n; have HA := HA_n; clear G_n LX_n HA_n; have HRW := Aside0.mk hr; clear hf hr)
  clear LY
  go_upto_region 7 with (go_at_call 11; (with_reducible refine (get_calls HA.out aw_rd2 (by decide) aw_wf2 aw_ok2 1).mono ?_); rintro e w1 ⟨rfl, c1, hf, ha⟩; rw [aw_g2] at ha ⊢; simp only [] at ha ⊢; have G_n := Aside0.mk (G.out.step hf (by decide)); have LX_n := Aside0.mk (LX.out.keep hf (by decide)); have HRW_n := Aside0.mk (HRW.out.keep hf (by decide)); clear G LX HRW; have G := G_n; have LX := LX_n; have HRW := HRW_n; clear G_n LX_n HRW_n; clear HA; have HA := Aside0.mk ha; clear ha hf)
  have hf := fr_alloc [] w1 c1 9 (.cells #[.int .i64 0, .string (noughts 220)] 35)
  have G_n := Aside0.mk (G.out.step hf (by decide)); have LX_n := Aside0.mk (LX.out.keep hf (by decide)); have HA_n := Aside0.mk (HA.out.keep hf (by decide) (by decide) (by decide) (by decide)); have HRW_n := Aside0.mk (HRW.out.keep hf (by decide)); clear G LX HA HRW; have G := G_n; have LX := LX_n; have HA := HA_n; have HRW := HRW_n; clear G_n LX_n HA_n HRW_n
  have LY := Aside0.mk (loc_alloc w1 c1 9 #[.int .i64 0, .string (noughts 220)] 35)
  clear hf
  generalize Dk.paint c1 w1.heap.size 9 = cLY at *
  generalize w1.alloc (.cells #[.int .i64 0, .string (noughts 220)] 35) = W4 at *
  generalize w1.heap.size = by_ at *
  clear LY
  go_upto_region 8 with (go_at_call 17; (with_reducible refine (read_o HA.out.so aw_ok3 (by decide) 0).mono ?_); rintro e w1 ⟨rfl, hb1⟩; rw [aw_r3]; simp only []; have G_n := Aside0.mk (G.out.below hb1); have LX_n := Aside0.mk (LX.out.below hb1); have HA_n := Aside0.mk (HA.out.below hb1); have HRW_n := Aside0.mk (HRW.out.keep (Fr.of_below (M := []) hb1) (by decide)); clear G LX HA HRW; have G := G_n; have LX := LX_n; have HA := HA_n; have HRW := HRW_n; clear G_n LX_n HA_n HRW_n; clear hb1)
  have hf := fr_alloc [] w1 cLY 9 (.cells #[.int .i64 5, .string (noughts 220)] 35)
  have G_n := Aside0.mk (G.out.step hf (by decide)); have LX_n := Aside0.mk (LX.out.keep hf (by decide)); have HA_n := Aside0.mk (HA.out.keep hf (by decide) (by decide) (by decide) (by decide)); have HRW_n := Aside0.mk (HRW.out.keep hf (by decide)); clear G LX HA HRW; have G := G_n; have LX := LX_n; have HA := HA_n; have HRW := HRW_n; clear G_n LX_n HA_n HRW_n
  have LZ := Aside0.mk (loc_alloc w1 cLY 9 #[.int .i64 5, .string (noughts 220)] 35)
  clear hf
  generalize Dk.paint cLY w1.heap.size 9 = cLZ at *
  generalize w1.alloc (.cells #[.int .i64 5, .string (noughts 220)] 35) = W5 at *
  generalize w1.heap.size = bz at *
  obtain ⟨rb, hra, r0, r1⟩ := HRW.out.at_ (k := 0) (p := ((0 : Int), (5 : Int))) rfl
  subst hra
  (try simp only [Nat.zero_mul, Nat.zero_add] at r0 r1)
  have x0 : W5.cell? ⟨bx, 0, none⟩ = some (.int .i64 5) := blk_cell LX.out.blk 0; have x1 : W5.cell? ⟨bx, 1, none⟩ = some (.string (noughts 220)) := blk_cell LX.out.blk 1
  have z0 : W5.cell? ⟨bz, 0, none⟩ = some (.int .i64 5) := blk_cell LZ.out.blk 0; have z1 : W5.cell? ⟨bz, 1, none⟩ = some (.string (noughts 220)) := blk_cell LZ.out.blk 1
  go_wp2_with (first | (go_at_call 20; (with_reducible refine (dirty_o (q := 2) HA.out (by decide) aw_wf3 [] aw_d3).mono ?_); rintro e w1 ⟨Ad, cd, c1, rfl, hf, hr⟩; have G_n := Aside0.mk (G.out.step hf (by decide)); have LX_n := Aside0.mk (LX.out.keep hf (by decide)); have HA_n := Aside0.mk (HA.out.keep hf (by decide) (by decide) (by decide) (by decide)); clear G LX HA; have G := G_n; have LX := LX_n; have HA := HA_n; clear G_n LX_n HA_n; (try clear x0 x1 z0 z1 r0 r1); have x0 : w1.cell? ⟨bx, 0, none⟩ = some (.int .i64 5) := blk_cell LX.out.blk 0; have x1 : w1.cell? ⟨bx, 1, none⟩ = some (.string (noughts 220)) := blk_cell LX.out.blk 1; clear hf hr) | (go_at_call 12; (with_reducible refine (holds_calls HA.out.po 0).mono ?_); rintro e w1 ⟨rfl, hb1⟩; rw [show holdsP aX3.P 0 = -1 from aw_h3.1]; have G_n := Aside0.mk (G.out.below hb1); have LX_n := Aside0.mk (LX.out.below hb1); have HA_n := Aside0.mk (HA.out.below hb1); clear G LX HA; have G := G_n; have LX := LX_n; have HA := HA_n; clear G_n LX_n HA_n; clear hb1; (try clear x0 x1); have x0 : w1.cell? ⟨bx, 0, none⟩ = some (.int .i64 5) := blk_cell LX.out.blk 0; have x1 : w1.cell? ⟨bx, 1, none⟩ = some (.string (noughts 220)) := blk_cell LX.out.blk 1) | (go_at_call 12; (with_reducible refine (holds_calls HA.out.po 1).mono ?_); rintro e w1 ⟨rfl, hb1⟩; rw [show holdsP aX3.P 1 = 0 from aw_h3.2]; have G_n := Aside0.mk (G.out.below hb1); have LX_n := Aside0.mk (LX.out.below hb1); have HA_n := Aside0.mk (HA.out.below hb1); clear G LX HA; have G := G_n; have LX := LX_n; have HA := HA_n; clear G_n LX_n HA_n; clear hb1; (try clear x0 x1); have x0 : w1.cell? ⟨bx, 0, none⟩ = some (.int .i64 5) := blk_cell LX.out.blk 0; have x1 : w1.cell? ⟨bx, 1, none⟩ = some (.string (noughts 220)) := blk_cell LX.out.blk 1) | (go_at_call 14; (with_reducible refine (put_calls HA.out aw_wf3 0 5 (noughts 220)).mono ?_); rintro e w1 ⟨rfl, c1, hf, ha⟩; rw [show putP aX3.P 0 5 (noughts 220) = (7, aP3) from aw_p3] at ha ⊢; simp only [] at ha ⊢; have G_n := Aside0.mk (G.out.step hf (by decide)); clear G; have G := G_n; clear G_n; clear HA ha hf))
  go_ret
  exact ⟨rfl, G.out.bel⟩
end Go.Proofs.Ytcelfhoomhmioaa.Pl
set_option maxRecDepth 8192
namespace Go.Proofs.Ytcelfhoomhmioaa.X4
open Go Go.RowKit Go.ChangeMaps Go.Proofs.Ytcelfhoomhmioaa.Pl Go.Proofs.Ytcelfhoomhmioaa.Arr Go.Proofs.Ytcelfhoomhmioaa.Ow Go.Proofs.Ytcelfhoomhmioaa.Dk Go.Proofs.Ytcelfhoomhmioaa.Fr Go.Proofs.YtcelfhoomhmioaaW.PrintWords Go.Proofs.YtcelfhoomhmioaaW.PrintLast Go.Proofs.YtcelfhoomhmioaaW.PrintMore Go.Proofs.Ytcelfhoomhmioaa.Wl Go.Proofs.Ytcelfhoomhmioaa.St
set_option linter.unusedVariables false
set_option linter.unusedSimpArgs false
structure S23 where
  f0 : Int
  f1 : Int
  f2 : Int
def k23 : Kd S23 := Kd.iso (Kd.pair (Kd.int .i64) (Kd.pair (Kd.int .i64) (Kd.int .i64))) (fun x : S23 => (x.f0, x.f1, x.f2))
theorem k23_open {w : World} {x : S23} {cs : List Value} (h : k23.K w x cs) : cs = [.int .i64 x.f0, .int .i64 x.f1, .int .i64 x.f2] := by
  obtain ⟨_, _, rfl, rfl, ⟨_, _, rfl, rfl, rfl⟩⟩ := h
  exact rfl
def fewB (r : S39) : Bool := decide (r.f7.size ≤ 300 ∧ r.f8.size ≤ 300 ∧ r.f9.length ≤ 50 ∧ r.f10.length ≤ 50)
theorem few_f (r : S39) : careenref04_Few.f r.f0 r.f1 r.f2 r.f3 r.f4 r.f5 r.f6 r.f7 r.f8 r.f9 r.f10 = some (fewB r) := by
  unfold careenref04_Few.f fewB
  by_cases h1 : r.f7.size ≤ 300
  · by_cases h2 : r.f8.size ≤ 300
    · by_cases h3 : r.f9.length ≤ 50
      · rw [if_pos (by omega), if_pos (by omega), if_pos (by omega)]
        exact congrArg some (decide_eq_decide.2 ⟨fun h => ⟨h1, h2, h3, by omega⟩, fun h => by have := h.2.2.2; omega⟩)
      · rw [if_pos (by omega), if_pos (by omega), if_neg (by omega), decide_eq_false (fun h => h3 h.2.2.1)]
    · rw [if_pos (by omega), if_neg (by omega), decide_eq_false (fun h => h2 h.2.1)]
  · rw [if_neg (by omega), decide_eq_false (fun h => h1 h.1)]
theorem few_calls (r : S39) (A9 : Option Addr) (c9 : Nat) (A10 : Option Addr) (c10 : Nat) (w : World) (h9 : Kd.C k134 w A9 r.f9.length r.f9) (l9 : r.f9.length ≤ c9) (h10 : Kd.C k70 w A10 r.f10.length r.f10) (l10 : r.f10.length ≤ c10) :
    Calls Try.prog 28 #[.agg #[.int .i64 r.f0, .int .i64 r.f1, .int .i64 r.f2, .int .i64 r.f3, .int .i64 r.f4, .int .i64 r.f5, .int .i64 r.f6, .string r.f7, .string r.f8, .slice A9 r.f9.length c9, .slice A10 r.f10.length c10]] w fun e w' => e = .returned (.bool (fewB r)) ∧ Below w.heap.size w w' := careenref04_Few.calls _ _ _ _ _ _ _ _ _ A9 c9 _ A10 c10 _ (fewB r) w h9 l9 h10 l10 (few_f r)
def longP (l : List S41) : Bool := l.any (fun x => decide (500 < x.f3.f1.size) || !fewB x.f4) || decide (200 < l.length)
theorem rd_mem8 {l : List S41} {k : Nat} (h : k < l.length) : rd_T41 l k ∈ l := by
  unfold rd_T41
  rw [Int.toNat_natCast, List.getD_eq_getElem?_getD, List.getElem?_eq_getElem h]
  exact List.getElem_mem h
theorem longP_yes {l : List S41} {x : S41} (hx : x ∈ l) (h : 500 < x.f3.f1.size ∨ fewB x.f4 = false) : longP l = true := by
  unfold longP
  rw [Bool.or_eq_true, List.any_eq_true]
  refine .inl ⟨x, hx, ?_⟩
  rw [Bool.or_eq_true]
  rcases h with h | h
  · exact .inl (decide_eq_true h)
  · exact .inr (by rw [h]; rfl)
theorem longP_no {l : List S41} (h : longP l = false) : l.length ≤ 200 ∧ ∀ x ∈ l, x.f3.f1.size ≤ 500 ∧ fewB x.f4 = true := by
  unfold longP at h
  rw [Bool.or_eq_false_iff, List.any_eq_false, decide_eq_false_iff_not] at h
  refine ⟨by omega, fun x hx => ?_⟩
  have := h.1 x hx
  simp only [Bool.not_eq_true, Bool.or_eq_false_iff, Bool.not_eq_false', decide_eq_false_iff_not] at this
  exact ⟨by omega, this.2⟩
theorem longP_len {l : List S41} (h : ∀ k, k < l.length → (rd_T41 l (k : Nat)).f3.f1.size ≤ 500 ∧ fewB (rd_T41 l (k : Nat)).f4 = true) : longP l = decide (200 < l.length) := by
  have h1 : (l.any fun x => decide (500 < x.f3.f1.size) || !fewB x.f4) = false := by
    rw [List.any_eq_false]
    intro x hx
    obtain ⟨k, hk, e⟩ := List.mem_iff_getElem.1 hx
    have e2 : rd_T41 l (k : Nat) = x := by
      unfold rd_T41
      rw [Int.toNat_natCast, List.getD_eq_getElem?_getD, List.getElem?_eq_getElem hk]
      exact e
    have := h k hk
    rw [e2] at this
    rw [this.2, decide_eq_false (by omega)]
    decide
  unfold longP
  rw [h1, Bool.false_or]
set_option maxHeartbeats 8000000 in
theorem longP_calls (A0 : Option Addr) (c0 : Nat) (l : List S41) (w : World) (hr : Kd.C k41 w A0 l.length l) (hc : l.length ≤ c0) : Calls Try.prog 9 #[.slice A0 l.length c0] w fun e w' => e = .returned (.bool (longP l)) ∧ Below w.heap.size w w' := by
  have H0 := Aside0.mk hr; have HM := Aside0.mk (Kd.C_max hr)
  clear hr hc
  have HB := Aside0.mk (Below.refl w.heap.size w)
  go_enter Try.func9, Try.ntmps9
  go_upto_region 2 with (fail)
  go_loopw [7] (fun v wr => ∃ r : Nat, v = .int .i64 r ∧ Aside0 (r ≤ l.length) ∧ Aside0 (∀ k, k < r → (rd_T41 l (k : Nat)).f3.f1.size ≤ 500 ∧ fewB (rd_T41 l (k : Nat)).f4 = true) ∧ Aside0 (Below w.heap.size w wr)) (fun v _ => l.length - (intOf v).toNat)
  case atStart => exact ⟨0, rfl, ⟨Nat.zero_le _⟩, ⟨fun k hk => absurd hk (Nat.not_lt_zero _)⟩, HB⟩
  case round =>
    clear HB
    obtain ⟨r, rfl, HR, HF, HB⟩ := hrel
    by_cases hlt : r < l.length
    · have hlt1 : (r : Int) < (l.length : Int) := by omega
      have hwk : wrap64 ((r : Int) + 1) = ((r + 1 : Nat) : Int) := by have := HM.out; unfold wrap64; omega
      have HLT := Aside0.mk hlt
      obtain ⟨ad, A14, c14, A15, c15, hA, q0, q1, q2, q3, q4, q5, q6, q7, q8, q9, q10, q11, q12, q13, q14, q15, l14, g14, l15, g15⟩ := at_T41 H0.out (r : Int) (by omega) hlt1
      subst hA
      rw [Int.toNat_natCast] at q0 q1 q2 q3 q4 q5 q6 q7 q8 q9 q10 q11 q12 q13 q14 q15
      replace q0 := pw_cell_below HB.out q0
      replace q1 := pw_cell_below HB.out q1
      replace q2 := pw_cell_below HB.out q2
      replace q3 := pw_cell_below HB.out q3
      replace q4 := pw_cell_below HB.out q4
      replace q5 := pw_cell_below HB.out q5
      replace q6 := pw_cell_below HB.out q6
      replace q7 := pw_cell_below HB.out q7
      replace q8 := pw_cell_below HB.out q8
      replace q9 := pw_cell_below HB.out q9
      replace q10 := pw_cell_below HB.out q10
      replace q11 := pw_cell_below HB.out q11
      replace q12 := pw_cell_below HB.out q12
      replace q13 := pw_cell_below HB.out q13
      replace q14 := pw_cell_below HB.out q14
      replace q15 := pw_cell_below HB.out q15
      have G14 := Aside0.mk g14; have G15 := Aside0.mk g15; have L14 := Aside0.mk l14; have L15 := Aside0.mk l15; have HMEM := Aside0.mk (rd_mem8 hlt)
      clear l14 g14 l15 g15
      generalize ho : rd_T41 l (r : Nat) = o_ at *
      have HO := Aside0.mk ho
      clear ho
      go_upto_region 4 with (fail)
      have hba := (Below.refl wr.heap.size wr).alloc (Nat.le_refl _) (.cells #[.int .i64 o_.f0, .int .i64 o_.f1, .int .i64 o_.f2, .int .i64 o_.f3.f0, .string o_.f3.f1, .int .i64 o_.f4.f0, .int .i64 o_.f4.f1, .int .i64 o_.f4.f2, .int .i64 o_.f4.f3, .int .i64 o_.f4.f4, .int .i64 o_.f4.f5, .int .i64 o_.f4.f6, .string o_.f4.f7, .string o_.f4.f8, .slice A14 o_.f4.f9.length c14, .slice A15 o_.f4.f10.length c15] 41)
      have HT := Aside0.mk (heap_alloc_new wr (.cells #[.int .i64 o_.f0, .int .i64 o_.f1, .int .i64 o_.f2, .int .i64 o_.f3.f0, .string o_.f3.f1, .int .i64 o_.f4.f0, .int .i64 o_.f4.f1, .int .i64 o_.f4.f2, .int .i64 o_.f4.f3, .int .i64 o_.f4.f4, .int .i64 o_.f4.f5, .int .i64 o_.f4.f6, .string o_.f4.f7, .string o_.f4.f8, .slice A14 o_.f4.f9.length c14, .slice A15 o_.f4.f10.length c15] 41))
      have HB1 := Aside0.mk (Arr.below_trans HB.out hba)
      clear hba HB q0 q1 q2 q3 q4 q5 q6 q7 q8 q9 q10 q11 q12 q13 q14 q15
      generalize wr.alloc (.cells #[.int .i64 o_.f0, .int .i64 o_.f1, .int .i64 o_.f2, .int .i64 o_.f3.f0, .string o_.f3.f1, .int .i64 o_.f4.f0, .int .i64 o_.f4.f1, .int .i64 o_.f4.f2, .int .i64 o_.f4.f3, .int .i64 o_.f4.f4, .int .i64 o_.f4.f5, .int .i64 o_.f4.f6, .string o_.f4.f7, .string o_.f4.f8, .slice A14 o_.f4.f9.length c14, .slice A15 o_.f4.f10.length c15] 41) = W4 at *
      generalize wr.heap.size = ob at *
      have q0 : W4.cell? ⟨ob, 0, none⟩ = some (.int .i64 o_.f0) := blk_cell HT.out 0
      have q1 : W4.cell? ⟨ob, 1, none⟩ = some (.int .i64 o_.f1) := blk_cell HT.out 1
      have q2 : W4.cell? ⟨ob, 2, none⟩ = some (.int .i64 o_.f2) := blk_cell HT.out 2
      have q3 : W4.cell? ⟨ob, 3, none⟩ = some (.int .i64 o_.f3.f0) := blk_cell HT.out 3
      have q4 : W4.cell? ⟨ob, 4, none⟩ = some (.string o_.f3.f1) := blk_cell HT.out 4
      have q5 : W4.cell? ⟨ob, 5, none⟩ = some (.int .i64 o_.f4.f0) := blk_cell HT.out 5
      have q6 : W4.cell? ⟨ob, 6, none⟩ = some (.int .i64 o_.f4.f1) := blk_cell HT.out 6
      have q7 : W4.cell? ⟨ob, 7, none⟩ = some (.int .i64 o_.f4.f2) := blk_cell HT.out 7
      have q8 : W4.cell? ⟨ob, 8, none⟩ = some (.int .i64 o_.f4.f3) := blk_cell HT.out 8
      have q9 : W4.cell? ⟨ob, 9, none⟩ = some (.int .i64 o_.f4.f4) := blk_cell HT.out 9
      have q10 : W4.cell? ⟨ob, 10, none⟩ = some (.int .i64 o_.f4.f5) := blk_cell HT.out 10
      have q11 : W4.cell? ⟨ob, 11, none⟩ = some (.int .i64 o_.f4.f6) := blk_cell HT.out 11
      have q12 : W4.cell? ⟨ob, 12, none⟩ = some (.string o_.f4.f7) := blk_cell HT.out 12
      have q13 : W4.cell? ⟨ob, 13, none⟩ = some (.string o_.f4.f8) := blk_cell HT.out 13
      have q14 : W4.cell? ⟨ob, 14, none⟩ = some (.slice A14 o_.f4.f9.length c14) := blk_cell HT.out 14
      have q15 : W4.cell? ⟨ob, 15, none⟩ = some (.slice A15 o_.f4.f10.length c15) := blk_cell HT.out 15
      by_cases hz : 500 < o_.f3.f1.size
      · have HY := Aside0.mk (longP_yes HMEM.out (.inl hz))
        have z1 : decide ((500 : Int) < (o_.f3.f1.size : Int)) = true := decide_eq_true (by omega)
        have z2 : ((500 : Int) < (o_.f3.f1.size : Int)) = True := eq_true (by omega)
        clear hz
        go_wp2
        go_ret
        exact ⟨by rw [HY.out]; rfl, HB1.out⟩
      · have HZ := Aside0.mk (show o_.f3.f1.size ≤ 500 by omega)
        have z1 : decide ((500 : Int) < (o_.f3.f1.size : Int)) = false := decide_eq_false (by omega)
        have z2 : ((500 : Int) < (o_.f3.f1.size : Int)) = False := eq_false (by omega)
        clear hz
        cases hf : fewB o_.f4 with
        | false =>
          have HFW := Aside0.mk hf
          have HY := Aside0.mk (longP_yes HMEM.out (.inr hf))
          clear hf
          go_wp2_with (go_at_call 28; (with_reducible refine (few_calls o_.f4 A14 c14 A15 c15 _ (Kd.C_below G14.out HB1.out) L14.out (Kd.C_below G15.out HB1.out) L15.out).mono ?_); rintro e w1 ⟨rfl, hb1⟩; rw [HFW.out]; have HB2 := Aside0.mk (Arr.below_trans HB1.out hb1); clear hb1)
          go_ret
          exact ⟨by rw [HY.out]; rfl, HB2.out⟩
        | true =>
          have HFW := Aside0.mk hf
          clear hf
          have hfn : ∀ k, k < r + 1 → (rd_T41 l (k : Nat)).f3.f1.size ≤ 500 ∧ fewB (rd_T41 l (k : Nat)).f4 = true := fun k hk => by
            by_cases e : k = r
            · rw [e, HO.out]; exact ⟨HZ.out, HFW.out⟩
            · exact HF.out k (by omega)
          have HF2 := Aside0.mk hfn
          clear hfn
          go_wp2_with (go_at_call 28; (with_reducible refine (few_calls o_.f4 A14 c14 A15 c15 _ (Kd.C_below G14.out HB1.out) L14.out (Kd.C_below G15.out HB1.out) L15.out).mono ?_); rintro e w1 ⟨rfl, hb1⟩; rw [HFW.out]; have HB2 := Aside0.mk (Arr.below_trans HB1.out hb1); clear hb1)
          go_roundw
          case rel => exact ⟨r + 1, by first | rfl | (rw [hwk]) | go_num, ⟨by have := HLT.out; omega⟩, HF2, HB2⟩
          case measure =>
            have := HLT.out
            (try rw [hwk])
            show l.length - (intOf (.int .i64 ((r + 1 : Nat) : Int))).toNat < l.length - (intOf (.int .i64 (r : Int))).toNat
            simp only [intOf]; omega
    · obtain rfl : r = l.length := by have := HR.out; omega
      have HY := Aside0.mk (longP_len HF.out)
      clear hlt
      go_wp2
      go_ret
      refine ⟨?_, HB.out⟩
      rw [HY.out]
      first | rfl | (refine congrArg (fun b => Ending.returned (Value.bool b)) (decide_eq_decide.2 ⟨fun h => by omega, fun h => by omega⟩))
end Go.Proofs.Ytcelfhoomhmioaa.X4
namespace Go.Proofs.Ytcelfhoomhmioaa.Pl
open Go Go.RowKit Go.Proofs.Ytcelfhoomhmioaa.Wl Go.Proofs.Ytcelfhoomhmioaa.St
theorem KP.evict {pn nl E B : Int} {X : XS} {ws want : Int → Int × ByteArray} (h : KP pn nl E B X ws want) (hB : B < 4294967290) (k : Int) : (evictP 0 pn X k).2.P.fr.length = X.P.fr.length ∧ nxL (evictP 0 pn X k).2.W = nxL X.W ∧ ∃ ws', KP pn nl E (B + 1) (evictP 0 pn X k).2 ws' want := by
  unfold evictP
  by_cases h1 : k < 0 ∨ (X.P.fr.length : Int) ≤ k
  · rw [if_pos h1]; exact ⟨rfl, rfl, ws, h.b (by omega)⟩
  · rw [if_neg h1]
    by_cases h2 : (frP X.P k.toNat).pg < 0
    · rw [if_pos h2]; exact ⟨rfl, rfl, ws, h.b (by omega)⟩
    · rw [if_neg h2]
      obtain ⟨e1, e2, ws', hK, hn⟩ := h.empty hB (k := k.toNat) (by omega) (by omega)
      exact ⟨by rw [e2]; exact List.length_set .., hn, ws', hK⟩
theorem WF.one {pn : Int} {P : PS} (h : WF pn P) {i j : Int} (hi : 0 ≤ holdsP P i) (e : holdsP P i = holdsP P j) : i = j := by
  rcases h.holds i with ⟨h1, _⟩ | ⟨k, h1, h2, h3, h4, _⟩
  · omega
  · rcases h.holds j with ⟨g1, _⟩ | ⟨q, g1, g2, g3, g4, _⟩
    · omega
    · have : k = q := by omega
      subst this
      rw [← h4, g4]
theorem WF.lt {pn : Int} {P : PS} (h : WF pn P) (i : Int) : holdsP P i = -1 ∨ 0 ≤ holdsP P i ∧ holdsP P i < (P.fr.length : Int) := by
  rcases h.holds i with ⟨h1, _⟩ | ⟨k, h1, h2, h3, h4, _⟩
  · exact .inl h1
  · exact .inr ⟨by omega, by omega⟩
end Go.Proofs.Ytcelfhoomhmioaa.Pl
