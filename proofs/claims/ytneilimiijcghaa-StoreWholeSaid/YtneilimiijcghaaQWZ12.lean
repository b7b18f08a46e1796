import Derived.Test.YtneilimiijcghaaQWZ0
import Derived.Test.YtneilimiijcghaaQWZ1
import Derived.Test.YtneilimiijcghaaQWZ2
import Derived.Test.YtneilimiijcghaaQWZ3
import Derived.Test.YtneilimiijcghaaQWZ4
import Derived.Test.YtneilimiijcghaaQWZ5
import Derived.Test.YtneilimiijcghaaQWZ6
import Derived.Test.YtneilimiijcghaaQWZ7
import Derived.Test.YtneilimiijcghaaQWZ8
import Derived.Test.YtneilimiijcghaaQWZ9
import Derived.Test.YtneilimiijcghaaQWZ10
import Derived.Test.YtneilimiijcghaaQWZ11
namespace Go.Proofs.Ytneilimiijcghaa.St
open Go Go.RowKit Go.ChangeMaps Go.Proofs.YtneilimiijcghaaW.PrintWords Go.Proofs.Ytneilimiijcghaa.Arr Go.Proofs.Ytneilimiijcghaa.Mp Go.Proofs.Ytneilimiijcghaa.Ow Go.Proofs.Ytneilimiijcghaa.Dk Go.Proofs.Ytneilimiijcghaa.Cr
set_option linter.unusedVariables false
set_option linter.unusedSimpArgs false
/-- A store over a quiet disk. -/
def QS (base n T : Int) (want : Int → Int × ByteArray) (d : DS) : Prop := ∃ S, Mid S [] d ∧ d.fuse = -1 ∧ Lies S base n ∧ S.length ≤ 512 ∧ Good (cut S) base n T want
/-- A store behind a crash. -/
def CS (base n T : Int) (want : Int → Int × ByteArray) (d : DS) : Prop := ∃ S, Mid S [] d ∧ d.fuse = -1 ∧ Lies S base n ∧ S.length ≤ 512 ∧ Inv (cut S) base n T want
/-- The last ticket stands in the head. -/
def HT (base T : Int) (d : DS) : Prop := T = 1 ∨ (valid (readS d (base + 2)) ∧ ep (readS d (base + 2)) = T - 1)
section
variable {base n T : Int} {want : Int → Int × ByteArray} {d : DS}
theorem QS.cs (h : QS base n T want d) : CS base n T want d := by
  obtain ⟨S, a, b, c, e, f⟩ := h
  exact ⟨S, a, b, c, e, f.inv⟩
theorem mid_ok {S : List ByteArray} {d : DS} (h : Mid S [] d) (hf : d.fuse = -1) (hl : S.length ≤ 512) : OkN 0 d := ⟨⟨by rw [h.2.1]; decide, by rw [hf]; decide, by rw [hf]; decide, by rw [h.1]; exact hl, by rw [h.2.1]; intro p m; cases m⟩, by rw [h.2.1]; decide⟩
theorem CS.ok (h : CS base n T want d) : OkN 0 d := by
  obtain ⟨S, a, b, c, e, f⟩ := h
  exact mid_ok a b e
theorem QS.ok (h : QS base n T want d) : OkN 0 d := h.cs.ok
theorem CS.gone (h : CS base n T want d) : d.gone = false := by
  obtain ⟨S, a, b, c, e, f⟩ := h
  exact a.2.2
theorem CS.newOk (h : CS base n T want d) (hn : 1 ≤ n) : newOk d base n := by
  obtain ⟨S, a, b, c, e, f⟩ := h
  have := secN_eq c.n0.1
  exact ⟨hn, c.n0.2, c.b0, by rw [a.1]; have := c.hi; omega⟩
theorem qs_new (L : Nat) (hL : L ≤ 512) (h0 : 0 ≤ base) (hn : 0 ≤ n ∧ n ≤ 8) (hi : base + (3 + 2 * n) ≤ (L : Int)) : QS base n 1 (fun _ => noPage) (newD L) := by
  have hl : Lies (List.replicate L (noughts 128)) base n := ⟨h0, hn, by rw [List.length_replicate]; exact hi⟩
  exact ⟨_, new_mid L, rfl, hl, by rw [List.length_replicate]; exact hL, new_good hl⟩
theorem packed_iff (p : Int × ByteArray) : (Page.packF p.1 p.2).2 = 0 → Packed (Page.packF p.1 p.2).1 p := fun h => by
  unfold Packed
  rw [← h]
theorem packed_right {p : Int × ByteArray} (h0 : 0 ≤ p.1) (h1 : p.1 ≤ 2147483647) (h2 : p.2.size = 220) : Packed (Page.packF p.1 p.2).1 p := packed_iff p (by unfold Page.packF; rw [if_pos ⟨h0, h1, h2⟩])
/-- Write, on a quiet disk. -/
theorem qs_write (h : QS base n T want d) (hT : 0 ≤ T ∧ T < 4294967295) {i : Int} (hi : 0 ≤ i ∧ i < n) {p : Int × ByteArray} {b : ByteArray} (hp : Packed b p) :
    (storeW base n T i p.1 p.2 d).1 = 0 ∧ (storeW base n T i p.1 p.2 d).2.1 = T + 1 ∧ QS base n (T + 1) (up want i p) (storeW base n T i p.1 p.2 d).2.2 ∧ HT base (T + 1) (storeW base n T i p.1 p.2 d).2.2 := by
  obtain ⟨S, a, b', c, e, f⟩ := h
  obtain ⟨r1, r2, r3, r4⟩ := write_free a b' c f hT hi hp
  obtain ⟨g1, g2⟩ := write_good c f hT hi hp
  refine ⟨r1, r2, ⟨_, r3, r4, c.len (wrote_len _ _ _ _ _), by rw [wrote_len]; exact e, g1⟩, .inr ?_⟩
  have := c.b0; have := c.hi; have := c.n0
  rw [quiet_readS r3 (by omega) (by rw [wrote_len]; omega), g2]
  have hb : (byte1 i).size ≤ 112 := by rw [byte1_size]; decide
  exact ⟨sec_valid (by omega) (by decide) hb, by rw [ep_sec (by omega) (by decide) hb]; omega⟩
theorem qs_read (h : QS base n T want d) {k : Int} (hk : 0 ≤ k ∧ k < n) : storeR d base n k = ((want k).1, (want k).2, 0) := by
  obtain ⟨S, a, b, c, e, f⟩ := h
  exact read_good a c f hk
/-- Open, on a quiet disk. -/
theorem cs_open (h : CS base n T want d) (hT : 1 ≤ T ∧ T < 4294967295) : (repairS base n d).1 = 0 ∧ QS base n (latestF d base (secN n) + 1) want (repairS base n d).2 ∧ latestF d base (secN n) < T := by
  obtain ⟨S, a, b, c, e, f⟩ := h
  obtain ⟨r1, S', r2, r3, r4, r5, r6⟩ := open_free a b c f hT
  exact ⟨r1, ⟨S', r2, r3, c.len r4, by omega, r5⟩, r6⟩
theorem QS.same (h : QS base n T want d) {want2 : Int → Int × ByteArray} (hw : ∀ k, 0 ≤ k → k < n → want2 k = want k) : QS base n T want2 d := by
  obtain ⟨S, a, b, c, e, f⟩ := h
  have hP : ∀ k, 0 ≤ k → k < n → PageOk (cut S (hm base k)) (cut S (hm base k + 1)) k (want2 k) := fun k k0 k1 => by rw [hw k k0 k1]; exact f.all k k0 k1
  refine ⟨S, a, b, c, e, ⟨f.inv.fine, fun e' i b' hj => ?_, fun k k0 k1 _ => hP k k0 k1⟩, hP⟩
  obtain ⟨_, _, hi, _⟩ := jour_some hj
  rw [hw i hi.1 hi.2]
  exact f.inv.j e' i b' hj
/-- An armed disk. -/
def AS (base n T : Int) (want : Int → Int × ByteArray) (d : DS) : Prop := ∃ S, Mid S [] d ∧ Lies S base n ∧ S.length ≤ 512 ∧ Good (cut S) base n T want
def AC (base n T : Int) (want : Int → Int × ByteArray) (d : DS) : Prop := ∃ S, Mid S [] d ∧ Lies S base n ∧ S.length ≤ 512 ∧ Inv (cut S) base n T want
theorem QS.arm (h : QS base n T want d) (k : Int) : AS base n T want { d with fuse := max k (-1) } := by
  obtain ⟨S, a, b, c, e, f⟩ := h
  exact ⟨S, ⟨a.1, a.2.1, a.2.2⟩, c, e, f⟩
theorem CS.arm (h : CS base n T want d) (k : Int) : AC base n T want { d with fuse := max k (-1) } := by
  obtain ⟨S, a, b, c, e, f⟩ := h
  exact ⟨S, ⟨a.1, a.2.1, a.2.2⟩, c, e, f⟩
theorem AC.gone (h : AC base n T want d) : d.gone = false := by
  obtain ⟨S, a, b, c, e⟩ := h
  exact a.2.2
theorem AC.newOk (h : AC base n T want d) (hn : 1 ≤ n) : newOk d base n := by
  obtain ⟨S, a, c, e, f⟩ := h
  have := secN_eq c.n0.1
  exact ⟨hn, c.n0.2, c.b0, by rw [a.1]; have := c.hi; omega⟩
theorem AC.latest (h : AC base n T want d) (hT : 1 ≤ T) : latestF d base (secN n) < T := by
  obtain ⟨S, a, c, e, f⟩ := h
  have hs := secN_eq c.n0.1
  exact latest_bound a c.b0 hT (secN n) (by rw [hs]; exact c.hi) (fun q x y v => f.fine q x (by rw [hs] at y; exact y) v)
/-- A crash in a write. -/
theorem as_crash (h : AS base n T want d) (hT : 0 ≤ T ∧ T < 4294967295) {i : Int} (hi : 0 ≤ i ∧ i < n) {p : Int × ByteArray} {b : ByteArray} (hp : Packed b p) (m : Nat) (pk : Nat → Nat) :
    CS base n (T + 1) want (crashD m pk (storeW base n T i p.1 p.2 d).2.2) ∨ CS base n (T + 1) (up want i p) (crashD m pk (storeW base n T i p.1 p.2 d).2.2) := by
  obtain ⟨S, a, c, e, f⟩ := h
  obtain ⟨S', r1, r2, r3⟩ := write_crash a c f hT hi hp m pk
  rw [r1]
  rcases r3 with r | r
  · exact .inl ⟨S', ⟨rfl, rfl, rfl⟩, rfl, c.len r2, by omega, r⟩
  · exact .inr ⟨S', ⟨rfl, rfl, rfl⟩, rfl, c.len r2, by omega, r⟩
/-- A crash in an Open. -/
theorem ac_crash (h : AC base n T want d) (hT : 1 ≤ T ∧ T < 4294967295) (m : Nat) (pk : Nat → Nat) : CS base n T want (crashD m pk (repairS base n d).2) := by
  obtain ⟨S, a, c, e, f⟩ := h
  obtain ⟨S', r1, r2, r3⟩ := open_crash a c f hT m pk
  rw [r1]
  exact ⟨S', ⟨rfl, rfl, rfl⟩, rfl, c.len r2, by omega, r3⟩
end
end Go.Proofs.Ytneilimiijcghaa.St
namespace Go.Proofs.Ytneilimiijcghaa.St
open Go Go.RowKit Go.ChangeMaps Go.Proofs.YtneilimiijcghaaW.PrintWords Go.Proofs.Ytneilimiijcghaa.Arr Go.Proofs.Ytneilimiijcghaa.Mp Go.Proofs.Ytneilimiijcghaa.Ow Go.Proofs.Ytneilimiijcghaa.Dk Go.Proofs.Ytneilimiijcghaa.Fr
set_option linter.unusedVariables false
set_option linter.unusedSimpArgs false
structure SO (w : World) (c : Nat → Nat) (gs g : Nat) (base n T : Int) (d : DS) : Prop where
  sk : SK w (Col c 1) gs g base n T d
  col : c gs = 2
section
variable {M : List Nat} {w w' w0 : World} {c c' : Nat → Nat} {gs g gs2 : Nat} {base n T T2 : Int} {d d' : DS}
theorem SO.keep (h : SO w c gs g base n T d) (hf : Fr M w c w' c') (h1 : 1 ∉ M) (h2 : 2 ∉ M) : SO w' c' gs g base n T d := by
  have hl := h.sk.lt
  refine ⟨⟨?_, ?_, dk_keep h.sk.dk hf h1⟩, (hf.col gs hl).trans h.col⟩
  · exact (hf.blk gs hl (by rw [h.col]; exact h2)).trans h.sk.blk
  · intro e
    have : c' gs = 1 := e
    rw [hf.col gs hl, h.col] at this
    omega
theorem SO.below (h : SO w c gs g base n T d) (hb : Below w.heap.size w w') : SO w' c gs g base n T d := h.keep (Fr.of_below (M := []) hb) (by simp) (by simp)
theorem SO.drew (h : SO w c gs g base n T d) : SO w.drew c gs g base n T d := h.below ((Below.refl _ _).drew)
theorem write_o {N : Nat} (h : SO w c gs g base n T d) (ho : OkN N d) (hN : N < 800000) (hi : (0 ≤ base ∧ base ≤ 900) ∧ 0 ≤ n ∧ n ≤ 8) (ht : 0 ≤ T ∧ T < 4294967295) (i a : Int) (dta : ByteArray) :
    Calls Try.prog 13 #[.pointer (some ⟨gs, 0, none⟩), .int .i64 i, .agg #[.int .i64 a, .string dta]] w fun x w' => x = .returned (.int .i64 (storeW base n T i a dta d).1) ∧ ∃ c', Fr [1, 2] w c w' c' ∧ SO w' c' gs g base n (storeW base n T i a dta d).2.1 (storeW base n T i a dta d).2.2 := by
  have hl := h.sk.lt
  have hS := h.sk.less (S1 := Col (Dk.paint c w.heap.size 1) 1) (fun k hk e => (paint_old hk).trans e)
  have h2 : SK w (Col (Dk.paint c w.heap.size 1) 1) gs g base n T d := ⟨h.sk.blk, fun e => h.sk.off ((paint_old hl).symm.trans e), h.sk.dk.mono fun k hk e => (paint_old hk).trans e⟩
  refine (swrite_calls d g gs base n T i a dta _ w (top_paint c w 1) h2 ho hN hi ht).mono ?_
  rintro x w' ⟨rfl, hk, hf⟩
  refine ⟨rfl, Dk.paint c w.heap.size 1, Fr.of_fs hf (fun k hk => paint_old hk) (fun k hk e => ?_), hk, (paint_old hl).trans h.col⟩
  rcases e with e | e
  · have e2 : Dk.paint c w.heap.size 1 k = 1 := e
    rw [paint_old hk] at e2
    rw [e2]; simp
  · rw [e, h.col]; simp
theorem read_o {N : Nat} (h : SO w c gs g base n T d) (ho : OkN N d) (hi : (0 ≤ base ∧ base ≤ 900) ∧ 0 ≤ n ∧ n ≤ 8) (i : Int) :
    Calls Try.prog 17 #[.pointer (some ⟨gs, 0, none⟩), .int .i64 i] w fun x w' => x = .returned (.tuple #[.agg #[.int .i64 (storeR d base n i).1, .string (storeR d base n i).2.1], .int .i64 (storeR d base n i).2.2]) ∧ Below w.heap.size w w' := sRead_calls d g gs base n T i _ w h.sk ho hi
theorem new_o {N : Nat} (h : DK w (Col c 1) g d) (ho : OkN N d) (hb : base ≤ 1000) (hn : newOk d base n) : Calls Try.prog 8 #[.pointer (some ⟨g, 0, none⟩), .int .i64 base, .int .i64 n] w fun x w' =>
    ∃ gs c', x = .returned (.tuple #[.pointer (some ⟨gs, 0, none⟩), .int .i64 0]) ∧ Fr [] w c w' c' ∧ SO w' c' gs g base n 1 d := by
  refine (snew_calls d g base n _ w h ho hb hn).mono ?_
  rintro x w' ⟨gs, rfl, hgs, hk, hb⟩
  refine ⟨gs, Dk.paint (fun k => c k) w.heap.size 2, rfl, Fr.of_paint hb 2, ⟨hk.blk, fun e => ?_, ?_⟩, paint_new hgs⟩
  · have : Dk.paint (fun k => c k) w.heap.size 2 gs = 1 := e
    rw [paint_new hgs] at this; omega
  · exact (h.mono (S2 := Col (Dk.paint (fun k => c k) w.heap.size 2) 1) fun k hk e => (paint_old hk).trans e).below hb
theorem open_o {N : Nat} (h : DK w (Col c 1) g d) (ho : OkN N d) (hN : N < 800000) (hb : base ≤ 900) (hn : newOk d base n) (hg : d.gone = false) (hl : latestF d base (secN n) < 4294967290) : Calls Try.prog 16 #[.pointer (some ⟨g, 0, none⟩), .int .i64 base, .int .i64 n] w fun x w' =>
    ∃ gs c', x = .returned (.tuple #[openV (repairS base n d).1 gs, .int .i64 (repairS base n d).1]) ∧ Fr [1] w c w' c' ∧ SO w' c' gs g base n (latestF d base (secN n) + 1) (repairS base n d).2 := by
  refine (sopen_calls d g base n (Col (Dk.paint c w.heap.size 1) 1) w (top_paint c w 1) (h.mono fun k hk e => (paint_old hk).trans e) ho hN hb hn hg hl).mono ?_
  rintro x w' ⟨gs, hgs, rfl, hk, hf⟩
  refine ⟨gs, fun k => if k = gs then 2 else Dk.paint c w.heap.size 1 k, rfl, Fr.of_fs hf (fun k hk => ?_) (fun k hk e => ?_), ⟨⟨hk.blk, fun e => ?_, hk.dk.mono fun k hk' e => ?_⟩, if_pos rfl⟩⟩
  · rw [if_neg (by omega), paint_old hk]
  · have e2 : Dk.paint c w.heap.size 1 k = 1 := e
    rw [paint_old hk] at e2; rw [e2]; simp
  · have : (if gs = gs then 2 else Dk.paint c w.heap.size 1 gs) = 1 := e
    rw [if_pos rfl] at this; omega
  · show (if k = gs then 2 else Dk.paint c w.heap.size 1 k) = 1
    rw [if_neg e.2]; exact e.1
theorem arm_o (h : DK w (Col c 1) g d) (k : Int) : Calls Try.prog 14 #[.pointer (some ⟨g, 0, none⟩), .int .i64 k] w fun x w' => x = .returned (.tuple #[]) ∧ ∃ c', Fr [1] w c w' c' ∧ DK w' (Col c' 1) g { d with fuse := max k (-1) } := by
  refine (arm_calls d g k (Col (Dk.paint c w.heap.size 1) 1) w (h.mono fun k hk e => (paint_old hk).trans e)).mono ?_
  rintro x w' ⟨rfl, hk, hf⟩
  exact ⟨rfl, _, fr_disk hf, hk⟩
theorem crash_o (h : DK w (Col c 1) g d) (ho : OkD d) {A : Option Addr} {m cp : Nat} {p : Nat → Nat} (hp : ∀ c', (∀ k, k < w.heap.size → c' k = c k) → Pk w (Col c' 1) A m p) (hb : ∀ i, p i < 256) : Calls Try.prog 15 #[.pointer (some ⟨g, 0, none⟩), .slice A m cp] w fun x w' => x = .returned (.tuple #[]) ∧ ∃ c', Fr [1] w c w' c' ∧ DK w' (Col c' 1) g (crashD m p d) := by
  refine (crash_calls d g A m cp p (Col (Dk.paint c w.heap.size 1) 1) w (top_paint c w 1) (h.mono fun k hk e => (paint_old hk).trans e) ho (hp _ fun k hk => paint_old hk) hb).mono ?_
  rintro x w' ⟨rfl, hk, hf⟩
  exact ⟨rfl, _, fr_disk hf, hk⟩
theorem read_q {want : Int → Int × ByteArray} (h : SO w c gs g base n T d) (hq : QS base n T want d) (hb : 0 ≤ base ∧ base ≤ 900) (hn : 0 ≤ n ∧ n ≤ 8) {k a : Int} {b : ByteArray} (hk : 0 ≤ k ∧ k < n) (hw : want k = (a, b)) :
    Calls Try.prog 17 #[.pointer (some ⟨gs, 0, none⟩), .int .i64 k] w fun x w' => x = .returned (.tuple #[.agg #[.int .i64 a, .string b], .int .i64 0]) ∧ Below w.heap.size w w' := by
  have hr := qs_read hq hk
  rw [hw] at hr
  have := read_o h hq.ok ⟨hb, hn⟩ k
  rw [hr] at this
  exact this
theorem write_q {want : Int → Int × ByteArray} (h : SO w c gs g base n T d) (hq : QS base n T want d) (hb : 0 ≤ base ∧ base ≤ 900) (hn : 0 ≤ n ∧ n ≤ 8) (hT : 0 ≤ T ∧ T < 4294967295) {k a : Int} {b bs : ByteArray} (hk : 0 ≤ k ∧ k < n) (hp : Packed bs (a, b)) :
    Calls Try.prog 13 #[.pointer (some ⟨gs, 0, none⟩), .int .i64 k, .agg #[.int .i64 a, .string b]] w fun x w' => x = .returned (.int .i64 0) ∧ ∃ c' d', Fr [1, 2] w c w' c' ∧ SO w' c' gs g base n (T + 1) d' ∧ QS base n (T + 1) (St.up want k (a, b)) d' ∧ HT base (T + 1) d' := by
  obtain ⟨r1, r2, r3, r4⟩ := qs_write hq hT hk hp
  refine (write_o h hq.ok (by decide) ⟨hb, hn⟩ hT k a b).mono ?_
  rintro x w' ⟨rfl, c', hf, hs⟩
  refine ⟨?_, c', _, hf, r2 ▸ hs, r3, r4⟩
  rw [show (storeW base n T k a b d).1 = 0 from r1]
theorem open_q {want : Int → Int × ByteArray} (h : DK w (Col c 1) g d) (hq : CS base n T want d) (hb : base ≤ 900) (hn : 1 ≤ n) (hT : 1 ≤ T ∧ T < 4294967290) : Calls Try.prog 16 #[.pointer (some ⟨g, 0, none⟩), .int .i64 base, .int .i64 n] w fun x w' =>
    ∃ gs c' d' T', x = .returned (.tuple #[.pointer (some ⟨gs, 0, none⟩), .int .i64 0]) ∧ Fr [1] w c w' c' ∧ SO w' c' gs g base n T' d' ∧ QS base n T' want d' ∧ T' = latestF d base (secN n) + 1 ∧ 1 ≤ T' ∧ T' ≤ T := by
  obtain ⟨r1, r2, r3⟩ := cs_open hq ⟨hT.1, by omega⟩
  have hl := (latest_lt d base (secN n)).1
  refine (open_o h hq.ok (by decide) hb (hq.newOk hn) hq.gone (by omega)).mono ?_
  rintro x w' ⟨gs, c', rfl, hf, hs⟩
  refine ⟨gs, c', _, _, ?_, hf, hs, r2, rfl, by omega, by omega⟩
  rw [r1]
  rfl
theorem SO.disk (h : SO w c gs g base n T d) (hf : Fr [1] w c w' c') (hd : DK w' (Col c' 1) g d') : SO w' c' gs g base n T d' := by
  have hl := h.sk.lt
  have e2 : c' gs = 2 := (hf.col gs hl).trans h.col
  refine ⟨⟨(hf.blk gs hl (by rw [h.col]; decide)).trans h.sk.blk, ?_, hd⟩, e2⟩
  intro e
  have : c' gs = 1 := e
  omega
theorem arm_so (h : SO w c gs g base n T d) (k : Int) : Calls Try.prog 14 #[.pointer (some ⟨g, 0, none⟩), .int .i64 k] w fun x w' => x = .returned (.tuple #[]) ∧ ∃ c', Fr [1] w c w' c' ∧ SO w' c' gs g base n T { d with fuse := max k (-1) } := by
  refine (arm_o h.sk.dk k).mono ?_
  rintro x w' ⟨rfl, c', hf, hd⟩
  exact ⟨rfl, c', hf, h.disk hf hd⟩
theorem ok_sync' {N : Nat} {d : DS} (h : OkN N d) : OkN N (syS d).2 := ok_sync h
theorem ok_repair {N : Nat} {d : DS} (h : OkN N d) (hN : N < 900000) (base n : Int) : OkN (N + 2) (repairS base n d).2 := by
  unfold repairS
  split
  · exact h.mono (by omega)
  · split
    · exact h.mono (by omega)
    · split
      · exact h.mono (by omega)
      · exact ok_both h hN
theorem ok_storeW {N : Nat} {d : DS} (h : OkN N d) (hN : N < 800000) (base n t i a : Int) (dta : ByteArray) : OkN (N + 8) (storeW base n t i a dta d).2.2 := by
  unfold storeW
  split
  · exact h.mono (by omega)
  · split
    · exact h.mono (by omega)
    · show OkN (N + 8) (jourS base t i (Page.packF a dta).1 d).2
      unfold jourS
      by_cases e1 : (bothS base 0 t (Page.packF a dta).1 d).1 = 0
      · rw [then_some e1]
        have h1 : OkN (N + 2) (bothS base 0 t (Page.packF a dta).1 d).2 := ok_both h (by omega)
        by_cases e2 : (putS (base + 2) 2 t (byte1 i) (bothS base 0 t (Page.packF a dta).1 d).2).1 = 0
        · rw [then_some e2]
          have h2 := ok_put (p := base + 2) (index := 2) (t := t) (b := byte1 i) h1 (by omega)
          by_cases e3 : (syS (putS (base + 2) 2 t (byte1 i) (bothS base 0 t (Page.packF a dta).1 d).2).2).1 = 0
          · rw [then_some e3]
            exact (ok_both (ok_sync' h2) (by omega)).mono (by omega)
          · rw [then_none e3]
            exact (ok_sync' h2).mono (by omega)
        · rw [then_none e2]
          exact (ok_put h1 (by omega)).mono (by omega)
      · rw [then_none e1]
        exact (ok_both h (by omega)).mono (by omega)
theorem pk_old {w0 W : World} {c : Nat → Nat} {l : List Int} {A : Option Addr} (hG : Gr w0 W c) (h : Kd.C (Kd.int .u8) w0 A l.length l) (hb : ∀ y ∈ l, 0 ≤ y ∧ y < 256) : ∀ c', (∀ k, k < W.heap.size → c' k = c k) → Pk W (Col c' 1) A l.length (fun j => (l.getD j 0).toNat) := fun c' hc =>
  Lv.pk_in h hb hG.bel (fun k hk => (hc k (Nat.lt_of_lt_of_le hk hG.bel.size)).trans (hG.olds k hk)) (by decide)
theorem up_at (want : Int → Int × ByteArray) (k : Int) (p : Int × ByteArray) : St.up want k p k = p := if_pos rfl
theorem up_same (want : Int → Int × ByteArray) (k : Int) : St.up want k (want k) = want := by
  funext j
  unfold St.up
  split
  · rename_i e; rw [e]
  · rfl
theorem up_up (want : Int → Int × ByteArray) (k : Int) (p : Int × ByteArray) {wB : Int → Int × ByteArray} (h : wB = want ∨ wB = St.up want k p) : St.up want k (wB k) = wB := by
  rcases h with rfl | rfl
  · exact up_same _ _
  · rw [up_at]
/-- A crash in a write: the page as it was, or as it was to be. -/
theorem as_crash2 {base n T : Int} {want : Int → Int × ByteArray} {d : DS} (h : AS base n T want d) (hT : 0 ≤ T ∧ T < 4294967295) {i : Int} (hi : 0 ≤ i ∧ i < n) {a : Int} {dta b : ByteArray} (hp : Packed b (a, dta)) (m : Nat) (pk : Nat → Nat) :
    ∃ wB, (wB = want ∨ wB = St.up want i (a, dta)) ∧ CS base n (T + 1) wB (crashD m pk (storeW base n T i a dta d).2.2) := by
  rcases as_crash h hT hi hp m pk with r | r
  · exact ⟨_, .inl rfl, r⟩
  · exact ⟨_, .inr rfl, r⟩
end
end Go.Proofs.Ytneilimiijcghaa.St
namespace Go.Proofs.Ytneilimiijcghaa.X12
open Go Go.RowKit Go.ChangeMaps Go.Proofs.Ytneilimiijcghaa.Arr Go.Proofs.Ytneilimiijcghaa.Mp Go.Proofs.Ytneilimiijcghaa.Ow Go.Proofs.Ytneilimiijcghaa.Dk Go.Proofs.Ytneilimiijcghaa.Fr Go.Proofs.Ytneilimiijcghaa.St Go.Proofs.YtneilimiijcghaaW.PrintWords Go.Proofs.YtneilimiijcghaaW.PrintLast Go.Proofs.YtneilimiijcghaaW.PrintMore
set_option linter.unusedVariables false
set_option linter.unusedSimpArgs false
/-- Calls as a program can have them. -/
def OkOp (x : S39) : Prop := (-9223372036854775808 ≤ x.f0 ∧ x.f0 < 9223372036854775808) ∧ (-9223372036854775808 ≤ x.f1 ∧ x.f1 < 9223372036854775808) ∧ (-9223372036854775808 ≤ x.f2 ∧ x.f2 < 9223372036854775808) ∧ (-9223372036854775808 ≤ x.f3.f0 ∧ x.f3.f0 < 9223372036854775808) ∧ ∀ y ∈ x.f4, 0 ≤ y ∧ y < 256
def OkOps (l : List S39) : Prop := ∀ x ∈ l, OkOp x
theorem rd_mem {l : List S39} {k : Nat} (h : k < l.length) : rd_T39 l k ∈ l := by
  unfold rd_T39
  rw [Int.toNat_natCast, List.getD_eq_getElem?_getD, List.getElem?_eq_getElem h]
  exact List.getElem_mem h
def longF (l : List S39) : Bool := l.any (fun x => decide (500 < x.f3.f1.size) || decide (200 < x.f4.length)) || decide (200 < l.length)
theorem long_go (l : List S39) (hm : l.length ≤ maxLen) : ∀ (m i : Nat), i + m = l.length → careenlaw07_long.l0 (m + 1) l l (l.length : Int) (i : Int) = some ((l.drop i).any (fun x => decide (500 < x.f3.f1.size) || decide (200 < x.f4.length)) || decide (200 < l.length)) := by
  have hml : maxLen ≤ 9223372036854775807 := by decide
  intro m
  induction m with
  | zero =>
    intro i hi
    unfold careenlaw07_long.l0
    rw [if_neg (by omega), List.drop_of_length_le (by omega)]
    simp only [List.any_nil, Bool.false_or]
    exact congrArg some (decide_eq_decide.2 ⟨fun h => by omega, fun h => by omega⟩)
  | succ m ih =>
    intro i hi
    unfold careenlaw07_long.l0
    have hd : l.drop i = rd_T39 l (i : Nat) :: l.drop (i + 1) := by
      rw [List.drop_eq_getElem_cons (by omega)]
      unfold rd_T39
      rw [Int.toNat_natCast, List.getD_eq_getElem?_getD, List.getElem?_eq_getElem (by omega)]
      rfl
    have hw : wrap64 ((i : Int) + 1) = ((i + 1 : Nat) : Int) := by unfold wrap64; omega
    rw [if_pos (by omega), if_pos (by omega), if_pos (by omega), hd, List.any_cons, hw, ih (i + 1) (by omega)]
    by_cases h1 : (((rd_T39 l (i : Nat)).f3.f1).size : Int) > 500
    · rw [if_pos h1, decide_eq_true (by omega)]
      simp
    · rw [if_neg h1, decide_eq_false (p := 500 < _) (by omega)]
      by_cases h2 : (((rd_T39 l (i : Nat)).f4).length : Int) > 200
      · rw [if_pos h2, decide_eq_true (p := 200 < (rd_T39 l (i : Nat)).f4.length) (by omega)]
        simp
      · rw [if_neg h2, decide_eq_false (p := 200 < (rd_T39 l (i : Nat)).f4.length) (by omega)]
        simp
theorem long_calls (A0 : Option Addr) (c0 : Nat) (l : List S39) (w : World) (hr : Kd.C k39 w A0 l.length l) (hc : l.length ≤ c0) : Calls Try.prog 10 #[.slice A0 l.length c0] w fun e w' => e = .returned (.bool (longF l)) ∧ Below w.heap.size w w' := by
  have := long_go l (Kd.C_max hr) l.length 0 (by omega)
  rw [List.drop_zero] at this
  exact careenlaw07_long.calls (l.length + 1) A0 c0 l (longF l) w hr hc this
def rightP (a : Int) (b : ByteArray) : Bool := decide (0 ≤ a ∧ a ≤ 2147483647 ∧ b.size = 220)
theorem right_calls (a : Int) (b : ByteArray) (w : World) : Calls Try.prog 12 #[.agg #[.int .i64 a, .string b]] w fun e w' => e = .returned (.bool (rightP a b)) ∧ Below w.heap.size w w' := by
  refine careenref06_Right.calls a b _ w ?_
  unfold careenref06_Right.f rightP
  split
  · split
    · rename_i h1 h2
      refine congrArg some ?_
      rw [Bool.eq_iff_iff, beq_iff_eq, decide_eq_true_iff]
      exact ⟨fun h => ⟨by omega, by omega, by omega⟩, fun h => by have := h.2.2; omega⟩
    · rename_i h1 h2
      rw [decide_eq_false (by omega)]
  · rename_i h1
    rw [decide_eq_false (by omega)]
theorem right_packed {a : Int} {b : ByteArray} (h : rightP a b = true) : Packed (Page.packF a b).1 (a, b) := by
  unfold rightP at h
  rw [decide_eq_true_iff] at h
  exact packed_right (p := (a, b)) h.1 h.2.1 h.2.2
theorem newdisk (L : Nat) (h1 : 1 ≤ L) (h2 : L ≤ 512) (w : World) (c : Nat → Nat) : Calls Try.prog 7 #[.int .i64 (L : Int)] w fun e w' => ∃ g, e = .returned (.tuple #[.pointer (some ⟨g, 0, none⟩), .int .i64 0]) ∧ DK w' (Col (Dk.paint c w.heap.size 1) 1) g (newD L) ∧ Fr [] w c w' (Dk.paint c w.heap.size 1) := by
  refine (new_calls L (by omega) (by omega) w).mono ?_
  rintro e w' ⟨g, hg, rfl, hk, hb⟩
  exact ⟨g, rfl, hk.fresh c 1, Fr.of_paint hb 1⟩
end Go.Proofs.Ytneilimiijcghaa.X12
