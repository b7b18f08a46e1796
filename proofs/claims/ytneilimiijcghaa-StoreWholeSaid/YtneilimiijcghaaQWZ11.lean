import Derived.Test.YtneilimiijcghaaQWZ0
import Derived.Test.YtneilimiijcghaaQWZ1
import Derived.Test.YtneilimiijcghaaQWZ2
import Derived.Test.YtneilimiijcghaaQWZ3
import Derived.Test.YtneilimiijcghaaQWZ4
import Derived.Test.YtneilimiijcghaaQWZ5
import Derived.Test.YtneilimiijcghaaQWZ6
import Derived.Test.YtneilimiijcghaaQWZ7
import Derived.Test.YtneilimiijcghaaQWZ8
import Derived.Test.YtneilimiijcghaaQWZ9
import Derived.Test.YtneilimiijcghaaQWZ10
namespace Go.Proofs.Ytneilimiijcghaa.St
open Go Go.RowKit Go.ChangeMaps Go.Proofs.YtneilimiijcghaaW.PrintWords Go.Proofs.Ytneilimiijcghaa.Arr Go.Proofs.Ytneilimiijcghaa.Mp Go.Proofs.Ytneilimiijcghaa.Ow Go.Proofs.Ytneilimiijcghaa.Dk Go.Proofs.Ytneilimiijcghaa.Cr
set_option linter.unusedVariables false
set_option linter.unusedSimpArgs false
theorem last_one (p : Int) (s : ByteArray) (q : Int) : lastOf [(p, s)] q = if q = p then some s else none := by simp [lastOf]
theorem last_two (p : Int) (s0 s1 : ByteArray) (q : Int) : lastOf (two p s0 s1) q = if q = p + 1 then some s1 else if q = p then some s0 else none := by simp [lastOf]
def put1 (S : List ByteArray) (p : Int) (s : ByteArray) : List ByteArray := overF (lastOf [(p, s)]) S
def put2 (S : List ByteArray) (p : Int) (s0 s1 : ByteArray) : List ByteArray := overF (lastOf (two p s0 s1)) S
theorem put1_len (S : List ByteArray) (p : Int) (s : ByteArray) : (put1 S p s).length = S.length := over_len _ _
theorem put2_len (S : List ByteArray) (p : Int) (s0 s1 : ByteArray) : (put2 S p s0 s1).length = S.length := over_len _ _
theorem put1_cut (S : List ByteArray) (p : Int) (s : ByteArray) (q : Int) (h0 : 0 ≤ q) (h1 : q < S.length) : cut (put1 S p s) q = if q = p then s else cut S q := by
  unfold put1
  rw [cut_over _ _ _ h0 h1, last_one]
  split <;> rfl
theorem put2_cut (S : List ByteArray) (p : Int) (s0 s1 : ByteArray) (q : Int) (h0 : 0 ≤ q) (h1 : q < S.length) : cut (put2 S p s0 s1) q = if q = p then s0 else if q = p + 1 then s1 else cut S q := by
  unfold put2
  rw [cut_over _ _ _ h0 h1, last_two]
  by_cases a : q = p
  · rw [if_pos a, if_neg (by omega), if_pos a]; rfl
  · by_cases b : q = p + 1
    · rw [if_pos b, if_neg a, if_pos b]; rfl
    · rw [if_neg b, if_neg a, if_neg a, if_neg b]; rfl
theorem both_run {S : List ByteArray} {d : DS} (h : Mid S [] d) {p index t : Int} {b : ByteArray} (hp : 0 ≤ p ∧ p + 1 < S.length) (ht : 0 ≤ t ∧ t < 4294967296) (hi : 0 ≤ index ∧ index < 4294967290) :
    ((bothS p index t b d).1 = 0 ∧ Mid (put2 S p (secS t index (b.extract 0 112)) (secS t (index + 1) (b.extract 112 224))) [] (bothS p index t b d).2) ∨
    ((bothS p index t b d).1 = 4 ∧ Ded S (two p (secS t index (b.extract 0 112)) (secS t (index + 1) (b.extract 112 224))) (bothS p index t b d).2) := by
  have z1 : (b.extract 0 112).size ≤ 112 := by rw [ByteArray.size_extract]; omega
  have z2 : (b.extract 112 224).size ≤ 112 := by rw [ByteArray.size_extract]; omega
  have k1 := secS_size t index (b.extract 0 112) ht (by omega) z1
  have k2 := secS_size t (index + 1) (b.extract 112 224) ht (by omega) z2
  unfold bothS
  rcases mid_write h (p := p) (s := secS t index (b.extract 0 112)) hp.1 (by omega) k1 with ⟨e1, m1⟩ | ⟨e1, m1⟩
  · rw [then_some (show (putS p index t (b.extract 0 112) d).1 = 0 from e1)]
    rcases mid_write m1 (p := p + 1) (s := secS t (index + 1) (b.extract 112 224)) (by omega) hp.2 k2 with ⟨e2, m2⟩ | ⟨e2, m2⟩
    · rw [then_some (show (putS (p + 1) (index + 1) t (b.extract 112 224) (putS p index t (b.extract 0 112) d).2).1 = 0 from e2)]
      rcases mid_sync m2 with ⟨e3, m3⟩ | ⟨e3, m3⟩
      · exact .inl ⟨e3, m3⟩
      · exact .inr ⟨e3, m3⟩
    · rw [then_none (show (putS (p + 1) (index + 1) t (b.extract 112 224) (putS p index t (b.extract 0 112) d).2).1 ≠ 0 from fun z => by have : (4 : Int) = 0 := e2.symm.trans z; omega)]
      exact .inr ⟨e2, m2.mono (fun q m => by simp at m; subst m; simp [two])⟩
  · rw [then_none (show (putS p index t (b.extract 0 112) d).1 ≠ 0 from fun z => by have : (4 : Int) = 0 := e1.symm.trans z; omega)]
    exact .inr ⟨e1, m1.mono (fun q m => by cases m)⟩
theorem both_free {d : DS} (hg : d.gone = false) (hf : d.fuse = -1) (p index t : Int) (b : ByteArray) : (bothS p index t b d).1 ≠ 4 ∧ (bothS p index t b d).2.gone = false ∧ (bothS p index t b d).2.fuse = -1 := by
  unfold bothS
  obtain ⟨a1, a2, a3⟩ := free_write hg hf p (secS t index (b.extract 0 112))
  by_cases e1 : (putS p index t (b.extract 0 112) d).1 = 0
  · rw [then_some e1]
    obtain ⟨b1, b2, b3⟩ := free_write a2 a3 (p + 1) (secS t (index + 1) (b.extract 112 224))
    by_cases e2 : (putS (p + 1) (index + 1) t (b.extract 112 224) (putS p index t (b.extract 0 112) d).2).1 = 0
    · rw [then_some e2]
      obtain ⟨c1, c2, c3⟩ := free_sync b2 b3
      exact ⟨by show syncE _ ≠ 4; rw [show syncE (putS (p + 1) (index + 1) t (b.extract 112 224) (putS p index t (b.extract 0 112) d).2).2 = 0 from c1]; decide, c2, c3⟩
    · rw [then_none e2]
      exact ⟨b1, b2, b3⟩
  · rw [then_none e1]
    exact ⟨a1, a2, a3⟩
theorem jour_free {d : DS} (hg : d.gone = false) (hf : d.fuse = -1) (base t i : Int) (b : ByteArray) : (jourS base t i b d).1 ≠ 4 ∧ (jourS base t i b d).2.gone = false ∧ (jourS base t i b d).2.fuse = -1 := by
  unfold jourS
  obtain ⟨a1, a2, a3⟩ := both_free hg hf base 0 t b
  by_cases e1 : (bothS base 0 t b d).1 = 0
  · rw [then_some e1]
    obtain ⟨b1, b2, b3⟩ := free_write a2 a3 (base + 2) (secS t 2 (byte1 i))
    by_cases e2 : (putS (base + 2) 2 t (byte1 i) (bothS base 0 t b d).2).1 = 0
    · rw [then_some e2]
      obtain ⟨c1, c2, c3⟩ := free_sync b2 b3
      rw [then_some (show (syS (putS (base + 2) 2 t (byte1 i) (bothS base 0 t b d).2).2).1 = 0 from c1)]
      exact both_free c2 c3 _ _ _ _
    · rw [then_none e2]
      exact ⟨b1, b2, b3⟩
  · rw [then_none e1]
    exact ⟨a1, a2, a3⟩
theorem cut_nn {b : ByteArray} (h : b.size = 224) : (b.extract 0 112).size = 112 ∧ (b.extract 112 224).size = 112 := by
  rw [ByteArray.size_extract, ByteArray.size_extract]
  omega
/-- What Write leaves of its sectors. -/
def wrote (S : List ByteArray) (base t i : Int) (b : ByteArray) : List ByteArray :=
  put2 (put1 (put2 S base (secS t 0 (b.extract 0 112)) (secS t 1 (b.extract 112 224))) (base + 2) (secS t 2 (byte1 i))) (hm base i) (secS t (2 * i) (b.extract 0 112)) (secS t (2 * i + 1) (b.extract 112 224))
theorem wrote_len (S : List ByteArray) (base t i : Int) (b : ByteArray) : (wrote S base t i b).length = S.length := by unfold wrote; rw [put2_len, put1_len, put2_len]
/-- A store over a disk: where it lies. -/
structure Lies (S : List ByteArray) (base n : Int) : Prop where
  b0 : 0 ≤ base
  n0 : 0 ≤ n ∧ n ≤ 8
  hi : base + (3 + 2 * n) ≤ S.length
theorem Lies.len {S T : List ByteArray} {base n : Int} (h : Lies S base n) (e : T.length = S.length) : Lies T base n := ⟨h.b0, h.n0, by rw [e]; exact h.hi⟩
/-- The journal, in its three parts. -/
theorem jour_run {S : List ByteArray} {d : DS} (h : Mid S [] d) {base n t i : Int} {b : ByteArray} (hl : Lies S base n) (hi : 0 ≤ i ∧ i < n) (ht : 0 ≤ t ∧ t < 4294967296) :
    ((jourS base t i b d).1 = 0 ∧ Mid (wrote S base t i b) [] (jourS base t i b d).2) ∨
    ((jourS base t i b d).1 = 4 ∧ (Ded S (two base (secS t 0 (b.extract 0 112)) (secS t 1 (b.extract 112 224))) (jourS base t i b d).2 ∨
      Ded (put2 S base (secS t 0 (b.extract 0 112)) (secS t 1 (b.extract 112 224))) [(base + 2, secS t 2 (byte1 i))] (jourS base t i b d).2 ∨
      Ded (put1 (put2 S base (secS t 0 (b.extract 0 112)) (secS t 1 (b.extract 112 224))) (base + 2) (secS t 2 (byte1 i))) (two (hm base i) (secS t (2 * i) (b.extract 0 112)) (secS t (2 * i + 1) (b.extract 112 224))) (jourS base t i b d).2)) := by
  have := hl.b0; have := hl.n0; have := hl.hi
  have ne4 : ∀ {x : Int}, x = 4 → x ≠ 0 := fun e => by omega
  unfold jourS
  rcases both_run h (p := base) (index := 0) (t := t) (b := b) (by omega) ht (by omega) with ⟨e1, m1⟩ | ⟨e1, m1⟩
  · rw [then_some e1]
    have k2 := secS_size t 2 (byte1 i) ht (by decide) (by rw [byte1_size]; decide)
    rcases mid_write m1 (p := base + 2) (s := secS t 2 (byte1 i)) (by omega) (by rw [put2_len]; omega) k2 with ⟨e2, m2⟩ | ⟨e2, m2⟩
    · rw [then_some (show (putS (base + 2) 2 t (byte1 i) (bothS base 0 t b d).2).1 = 0 from e2)]
      rcases mid_sync m2 with ⟨e3, m3⟩ | ⟨e3, m3⟩
      · rw [then_some (show (syS (putS (base + 2) 2 t (byte1 i) (bothS base 0 t b d).2).2).1 = 0 from e3)]
        rcases both_run m3 (p := hm base i) (index := 2 * i) (t := t) (b := b) (by rw [over_len, put2_len]; unfold hm; omega) ht (by omega) with ⟨e4, m4⟩ | ⟨e4, m4⟩
        · exact .inl ⟨e4, m4⟩
        · exact .inr ⟨e4, .inr (.inr m4)⟩
      · rw [then_none (show (syS (putS (base + 2) 2 t (byte1 i) (bothS base 0 t b d).2).2).1 ≠ 0 from ne4 e3)]
        exact .inr ⟨e3, .inr (.inl m3)⟩
    · rw [then_none (show (putS (base + 2) 2 t (byte1 i) (bothS base 0 t b d).2).1 ≠ 0 from ne4 e2)]
      exact .inr ⟨e2, .inr (.inl (m2.mono fun q m => by cases m))⟩
  · rw [then_none (ne4 e1)]
    exact .inr ⟨e1, .inl m1⟩
/-- The store behind the copies. -/
theorem copied {S : List ByteArray} {base n T : Int} {want : Int → Int × ByteArray} (hl : Lies S base n) (h : Good (cut S) base n T want) {b0 b1 : ByteArray} :
    ∀ q, base ≤ q → q < base + (3 + 2 * n) → cut (put2 S base b0 b1) q = if q = base then b0 else if q = base + 1 then b1 else cut S q := fun q a c => put2_cut _ _ _ _ _ (by have := hl.b0; omega) (by have := hl.hi; omega)
theorem behind_copies {S : List ByteArray} {base n T : Int} {want : Int → Int × ByteArray} (hl : Lies S base n) (h : Good (cut S) base n T want) (hT : 0 ≤ T ∧ T < 4294967296) {b : ByteArray} {i : Int} (hi : 0 ≤ i ∧ i < n) {p : Int × ByteArray} (hp : Packed b p) {D : Int → ByteArray}
    (hm' : Mix base (base + (3 + 2 * n)) (cut (put2 S base (secS T 0 (b.extract 0 112)) (secS T 1 (b.extract 112 224)))) [(base + 2, secS T 2 (byte1 i))] D) :
    (D (base + 2) = secS T 2 (byte1 i) → Inv D base n (T + 1) (up want i p) ∧ J D base n = some (T, i, b)) ∧ (D (base + 2) ≠ secS T 2 (byte1 i) → Good D base n (T + 1) want) := by
  have c := copied hl h (b0 := secS T 0 (b.extract 0 112)) (b1 := secS T 1 (b.extract 112 224))
  have hn := hl.n0
  have z := cut_nn hp.size
  refine inv_head hT hn hi hp ?_ ?_ ?_ ?_ ?_ hm'
  · intro q a e v
    rw [c q a e] at v ⊢
    split at v
    · rename_i x
      rw [if_pos x, ep_sec hT (by decide) (by omega)]
      exact Int.le_refl _
    · rename_i x
      rw [if_neg x]
      split at v
      · rename_i y
        rw [if_pos y, ep_sec hT (by decide) (by omega)]
        exact Int.le_refl _
      · rename_i y
        rw [if_neg y]
        exact Int.le_of_lt (h.inv.fine q a e v)
  · intro v
    rw [c _ (by omega) (by omega), if_neg (by omega), if_neg (by omega)] at v ⊢
    exact h.inv.fine _ (by omega) (by omega) v
  · intro k k0 k1
    rw [c _ (by unfold hm; omega) (by unfold hm; omega), c _ (by unfold hm; omega) (by unfold hm; omega), if_neg (by unfold hm; omega), if_neg (by unfold hm; omega), if_neg (by unfold hm; omega), if_neg (by unfold hm; omega)]
    exact h.all k k0 k1
  · rw [c _ (by omega) (by omega), if_pos rfl]
  · rw [c _ (by omega) (by omega), if_neg (by omega), if_pos rfl]
/-- A write's head is there. -/
theorem head_there {S : List ByteArray} {base n T : Int} {want : Int → Int × ByteArray} (hl : Lies S base n) (h : Good (cut S) base n T want) (hT : 0 ≤ T ∧ T < 4294967296) {b : ByteArray} {i : Int} (hi : 0 ≤ i ∧ i < n) {p : Int × ByteArray} (hp : Packed b p) {R : List ByteArray}
    (hR : R = put1 (put2 S base (secS T 0 (b.extract 0 112)) (secS T 1 (b.extract 112 224))) (base + 2) (secS T 2 (byte1 i))) : Inv (cut R) base n (T + 1) (up want i p) ∧ J (cut R) base n = some (T, i, b) := by
  have h0 := hl.b0; have hh := hl.hi; have hn := hl.n0
  have e : ∀ q, base ≤ q → q < base + (3 + 2 * n) → cut R q = if q = base + 2 then secS T 2 (byte1 i) else cut (put2 S base (secS T 0 (b.extract 0 112)) (secS T 1 (b.extract 112 224))) q := fun q a c => by rw [hR]; exact put1_cut _ _ _ _ (by omega) (by rw [put2_len]; omega)
  refine (behind_copies hl h hT hi hp (D := cut R) (fun q a c => ?_)).1 (by rw [e _ (by omega) (by omega), if_pos rfl])
  rw [e q a c]
  by_cases x : q = base + 2
  · rw [if_pos x]; exact .inr (.inl ⟨_, mem_sing.2 ⟨x, rfl⟩, rfl⟩)
  · rw [if_neg x]; exact .inl rfl
/-- A write that is borne: the store has the new page. -/
theorem write_good {S : List ByteArray} {base n T : Int} {want : Int → Int × ByteArray} (hl : Lies S base n) (h : Good (cut S) base n T want) (hT : 0 ≤ T ∧ T < 4294967295) {b : ByteArray} {i : Int} (hi : 0 ≤ i ∧ i < n) {p : Int × ByteArray} (hp : Packed b p) :
    Good (cut (wrote S base T i b)) base n (T + 1) (up want i p) ∧ cut (wrote S base T i b) (base + 2) = secS T 2 (byte1 i) := by
  have h0 := hl.b0; have hh := hl.hi; have hn := hl.n0
  obtain ⟨g1, g2⟩ := head_there hl h ⟨hT.1, by omega⟩ hi hp rfl
  have e : ∀ q, base ≤ q → q < base + (3 + 2 * n) → cut (wrote S base T i b) q = if q = hm base i then secS T (2 * i) (b.extract 0 112) else if q = hm base i + 1 then secS T (2 * i + 1) (b.extract 112 224) else cut (put1 (put2 S base (secS T 0 (b.extract 0 112)) (secS T 1 (b.extract 112 224))) (base + 2) (secS T 2 (byte1 i))) q := fun q a c => by
    unfold wrote
    exact put2_cut _ _ _ _ _ (by omega) (by rw [put1_len, put2_len]; omega)
  refine ⟨good_homes g1 g2 (by omega) hn e, ?_⟩
  rw [e _ (by omega) (by omega), if_neg (by unfold hm; omega), if_neg (by unfold hm; omega), put1_cut _ _ _ _ (by omega) (by rw [put2_len]; omega), if_pos rfl]
theorem storeW_eq {base n T i : Int} {b : ByteArray} {p : Int × ByteArray} (hi : 0 ≤ i ∧ i < n) (hp : Packed b p) (d : DS) : storeW base n T i p.1 p.2 d = ((jourS base T i b d).1, T + 1, (jourS base T i b d).2) := by
  unfold storeW
  rw [if_neg (by omega), hp, if_neg (fun h => h rfl)]
/-- Write, without a fuse. -/
theorem write_free {S : List ByteArray} {d : DS} (h : Mid S [] d) (hf : d.fuse = -1) {base n T i : Int} {want : Int → Int × ByteArray} (hl : Lies S base n) (hG : Good (cut S) base n T want) (hT : 0 ≤ T ∧ T < 4294967295) {b : ByteArray} (hi : 0 ≤ i ∧ i < n) {p : Int × ByteArray} (hp : Packed b p) :
    (storeW base n T i p.1 p.2 d).1 = 0 ∧ (storeW base n T i p.1 p.2 d).2.1 = T + 1 ∧ Mid (wrote S base T i b) [] (storeW base n T i p.1 p.2 d).2.2 ∧ (storeW base n T i p.1 p.2 d).2.2.fuse = -1 := by
  rw [storeW_eq hi hp d]
  obtain ⟨f1, f2, f3⟩ := jour_free h.2.2 hf base T i b
  rcases jour_run h (t := T) (b := b) hl hi (by omega) with ⟨e, m⟩ | ⟨e, _⟩
  · exact ⟨e, rfl, m, f3⟩
  · exact absurd e f1
/-- Write, and a crash in it. -/
theorem write_crash {S : List ByteArray} {d : DS} (h : Mid S [] d) {base n T i : Int} {want : Int → Int × ByteArray} (hl : Lies S base n) (hG : Good (cut S) base n T want) (hT : 0 ≤ T ∧ T < 4294967295) {b : ByteArray} (hi : 0 ≤ i ∧ i < n) {p : Int × ByteArray} (hp : Packed b p) (m : Nat) (pk : Nat → Nat) :
    ∃ S', crashD m pk (storeW base n T i p.1 p.2 d).2.2 = ⟨S', [], false, -1⟩ ∧ S'.length = S.length ∧ (Inv (cut S') base n (T + 1) want ∨ Inv (cut S') base n (T + 1) (up want i p)) := by
  rw [storeW_eq hi hp d]
  have h0 := hl.b0; have hh := hl.hi; have hn := hl.n0
  have z := cut_nn hp.size
  show ∃ S', crashD m pk (jourS base T i b d).2 = _ ∧ _
  rcases jour_run h (t := T) (b := b) hl hi (by omega) with ⟨e, r⟩ | ⟨e, r | r | r⟩
  · exact ⟨_, mid_crash r m pk, wrote_len _ _ _ _ _, .inr (write_good hl hG hT hi hp).1.inv⟩
  · obtain ⟨S', c1, c2⟩ := ded_crash r (fun q hq => by rcases mem_two.1 (show (q.1, q.2) ∈ two _ _ _ from hq) with x | x <;> (have := x.1; omega)) m pk
    exact ⟨S', c1, c2.1, .inl (good_copies hG ⟨hT.1, by omega⟩ hn (by omega) (by omega) (out_mix c2 h0 hh)).inv⟩
  · obtain ⟨S', c1, c2⟩ := ded_crash r (fun q hq => by rw [put2_len]; have := (mem_sing.1 (show (q.1, q.2) ∈ [(base + 2, _)] from hq)).1; omega) m pk
    refine ⟨S', c1, by rw [c2.1, put2_len], ?_⟩
    have g := behind_copies hl hG ⟨hT.1, by omega⟩ hi hp (out_mix c2 h0 (by rw [put2_len]; exact hh))
    by_cases x : cut S' (base + 2) = secS T 2 (byte1 i)
    · exact .inr (g.1 x).1
    · exact .inl (g.2 x).inv
  · obtain ⟨S', c1, c2⟩ := ded_crash r (fun q hq => by rw [put1_len, put2_len]; rcases mem_two.1 (show (q.1, q.2) ∈ two _ _ _ from hq) with x | x <;> (have := x.1; unfold hm at this; omega)) m pk
    obtain ⟨g1, g2⟩ := head_there hl hG ⟨hT.1, by omega⟩ hi hp rfl
    exact ⟨S', c1, by rw [c2.1, put1_len, put2_len], .inr (inv_homes g1 g2 (by omega) hn (out_mix c2 h0 (by rw [put1_len, put2_len]; exact hh)))⟩
theorem ite_iff {α : Type} {p q : Prop} {_ : Decidable p} {_ : Decidable q} (h : p ↔ q) (a b : α) : (if p then a else b) = (if q then a else b) := by
  by_cases x : p
  · rw [if_pos x, if_pos (h.1 x)]
  · rw [if_neg x, if_neg (fun y => x (h.2 y))]
theorem ix_sec {t i : Int} {b : ByteArray} (ht : 0 ≤ t ∧ t < 4294967296) (hi : 0 ≤ i ∧ i < 4294967296) (hb : b.size ≤ 112) : ix (secS t i b) = i := by unfold ix; rw [u_sec t i b ht hi hb]
theorem bd_sec {t i : Int} {b : ByteArray} (ht : 0 ≤ t ∧ t < 4294967296) (hi : 0 ≤ i ∧ i < 4294967296) (hb : b.size ≤ 112) : bd (secS t i b) = b := by unfold bd; rw [u_sec t i b ht hi hb]
/-- Slabs of a quiet disk. -/
theorem sread_quiet {S : List ByteArray} {d : DS} (h : Mid S [] d) {p : Int} (h0 : 0 ≤ p) (h1 : p < S.length) (k : Int) : sreadF d p k = (ep (cut S p), ix (cut S p), bd (cut S p), (X12.unpackF (cut S p)).2.2.2 == 0 && ix (cut S p) == k) := by
  unfold sreadF
  rw [quiet_readE h h0 h1, if_neg (by decide), quiet_readS h h0 h1]
theorem and_iff {s : ByteArray} {k : Int} : ((X12.unpackF s).2.2.2 == 0 && ix s == k) = true ↔ valid s ∧ ix s = k := by
  rw [Bool.and_eq_true, beq_iff_eq, beq_iff_eq]
  rfl
theorem repair_eq {S : List ByteArray} {d : DS} (h : Mid S [] d) {base n : Int} (hl : Lies S base n) : repairS base n d = match J (cut S) base n with
    | none => (0, d)
    | some x => bothS (hm base x.2.1) (2 * x.2.1) x.1 x.2.2 d := by
  have h0 := hl.b0; have hh := hl.hi; have hn := hl.n0
  have eh : headF d base n = hd n (cut S (base + 2)) := by
    unfold headF hd
    rw [sread_quiet h (p := base + 2) (by omega) (by omega)]
    refine ite_iff ?_ _ _
    rw [and_iff, and_assoc]
  have epp : ∀ e k, 0 ≤ k → k ≤ 1 → partF d base e k = part e k (cut S (base + k)) := fun e k k0 k1 => by
    unfold partF part
    rw [sread_quiet h (p := base + k) (by omega) (by omega)]
    refine ite_iff ?_ _ _
    rw [and_iff, and_assoc]
  unfold repairS J jour
  rw [eh]
  cases e1 : hd n (cut S (base + 2)) with
  | none => rfl
  | some x =>
    simp only
    rw [epp _ 0 (by decide) (by decide), Int.add_zero]
    cases e2 : part x.1 0 (cut S base) with
    | none => rfl
    | some a =>
      simp only
      rw [epp _ 1 (by decide) (by decide)]
      cases e3 : part x.1 1 (cut S (base + 1)) with
      | none => rfl
      | some c => rfl
theorem latest_le {S : List ByteArray} {d : DS} (h : Mid S [] d) {base : Int} (h0 : 0 ≤ base) : ∀ (m : Nat), base + m ≤ S.length → ∀ q, base ≤ q → q < base + m → valid (cut S q) → ep (cut S q) ≤ latestF d base m := by
  intro m
  induction m with
  | zero => intro _ q a c; exact absurd c (by omega)
  | succ m ih =>
    intro hm q a c v
    have ih := ih (by omega)
    unfold latestF
    rw [quiet_readS h (p := base + m) (by omega) (by omega)]
    by_cases e : q = base + m
    · subst e
      rw [if_pos (show (X12.unpackF _).2.2.2 = 0 from v)]
      split
      · exact Int.le_refl _
      · show (X12.unpackF (cut S (base + m))).1 ≤ _
        omega
    · have := ih q a (by omega) v
      split
      · split <;> omega
      · exact this
theorem latest_bound {S : List ByteArray} {d : DS} (h : Mid S [] d) {base : Int} (h0 : 0 ≤ base) {T : Int} (hT : 1 ≤ T) : ∀ (m : Nat), base + m ≤ S.length → (∀ q, base ≤ q → q < base + m → valid (cut S q) → ep (cut S q) < T) → latestF d base m < T := by
  intro m
  induction m with
  | zero => intro _ _; unfold latestF; omega
  | succ m ih =>
    intro hm hf
    have ih := ih (by omega) (fun q a c v => hf q a (by omega) v)
    unfold latestF
    rw [quiet_readS h (p := base + m) (by omega) (by omega)]
    split
    · rename_i v
      have := hf (base + m) (by omega) (by omega) v
      split
      · exact this
      · exact ih
    · exact ih
theorem secN_eq {n : Int} (h : 0 ≤ n) : ((secN n : Nat) : Int) = 3 + 2 * n := by unfold secN; omega
/-- Open, without a fuse. -/
theorem open_free {S : List ByteArray} {d : DS} (h : Mid S [] d) (hf : d.fuse = -1) {base n T : Int} {want : Int → Int × ByteArray} (hl : Lies S base n) (hI : Inv (cut S) base n T want) (hT : 1 ≤ T ∧ T < 4294967295) :
    (repairS base n d).1 = 0 ∧ ∃ S', Mid S' [] (repairS base n d).2 ∧ (repairS base n d).2.fuse = -1 ∧ S'.length = S.length ∧ Good (cut S') base n (latestF d base (secN n) + 1) want ∧ latestF d base (secN n) < T := by
  have h0 := hl.b0; have hh := hl.hi; have hn := hl.n0
  have hs := secN_eq hn.1
  have lb := latest_bound h h0 hT.1 (secN n) (by rw [hs]; exact hh) (fun q a c v => hI.fine q a (by rw [hs] at c; exact c) v)
  have hI2 : Inv (cut S) base n (latestF d base (secN n) + 1) want := ⟨fun q a c v => by have := latest_le h h0 (secN n) (by rw [hs]; exact hh) q a (by rw [hs]; exact c) v; omega, hI.j, hI.page⟩
  rw [repair_eq h hl]
  cases hj : J (cut S) base n with
  | none => exact ⟨rfl, S, h, hf, rfl, good_of hI2 hj, lb⟩
  | some x =>
    obtain ⟨e, i, b⟩ := x
    obtain ⟨vh, he, hi, _⟩ := jour_some hj
    have he2 := (unpack_lt (cut S (base + 2))).1
    rw [show (X12.unpackF (cut S (base + 2))).1 = e from he] at he2
    simp only
    obtain ⟨f1, f2, f3⟩ := both_free h.2.2 hf (hm base i) (2 * i) e b
    rcases both_run h (p := hm base i) (index := 2 * i) (t := e) (b := b) (by unfold hm; omega) he2 (by omega) with ⟨r1, r2⟩ | ⟨r1, _⟩
    · refine ⟨r1, _, r2, f3, put2_len _ _ _ _, good_homes hI2 hj (by omega) hn (fun q a c => put2_cut _ _ _ _ _ (by omega) (by omega)), lb⟩
    · exact absurd r1 f1
/-- Open, and a crash in it. -/
theorem open_crash {S : List ByteArray} {d : DS} (h : Mid S [] d) {base n T : Int} {want : Int → Int × ByteArray} (hl : Lies S base n) (hI : Inv (cut S) base n T want) (hT : 1 ≤ T ∧ T < 4294967295) (m : Nat) (pk : Nat → Nat) :
    ∃ S', crashD m pk (repairS base n d).2 = ⟨S', [], false, -1⟩ ∧ S'.length = S.length ∧ Inv (cut S') base n T want := by
  have h0 := hl.b0; have hh := hl.hi; have hn := hl.n0
  rw [repair_eq h hl]
  cases hj : J (cut S) base n with
  | none => exact ⟨S, mid_crash h m pk, rfl, hI⟩
  | some x =>
    obtain ⟨e, i, b⟩ := x
    obtain ⟨vh, he, hi, _⟩ := jour_some hj
    have he2 := (unpack_lt (cut S (base + 2))).1
    rw [show (X12.unpackF (cut S (base + 2))).1 = e from he] at he2
    simp only
    rcases both_run h (p := hm base i) (index := 2 * i) (t := e) (b := b) (by unfold hm; omega) he2 (by omega) with ⟨r1, r2⟩ | ⟨r1, r2⟩
    · exact ⟨_, mid_crash r2 m pk, put2_len _ _ _ _, (good_homes hI hj (by omega) hn (fun q a c => put2_cut _ _ _ _ _ (by omega) (by omega))).inv⟩
    · obtain ⟨S', c1, c2⟩ := ded_crash r2 (fun q hq => by rcases mem_two.1 (show (q.1, q.2) ∈ two _ _ _ from hq) with x | x <;> (have := x.1; unfold hm at this; omega)) m pk
      exact ⟨S', c1, c2.1, inv_homes hI hj (by omega) hn (out_mix c2 h0 hh)⟩
/-- What is read of a store that is whole. -/
theorem read_good {S : List ByteArray} {d : DS} (h : Mid S [] d) {base n T k : Int} {want : Int → Int × ByteArray} (hl : Lies S base n) (hG : Good (cut S) base n T want) (hk : 0 ≤ k ∧ k < n) : storeR d base n k = ((want k).1, (want k).2, 0) := by
  have h0 := hl.b0; have hh := hl.hi; have hn := hl.n0
  rw [readP_eq]
  unfold readP
  rw [if_neg (by omega), quiet_readE h (p := base + (3 + 2 * k)) (by omega) (by omega), if_neg (by decide), quiet_readS h (p := base + (3 + 2 * k)) (by omega) (by omega), quiet_readS h (p := base + (3 + 2 * k) + 1) (by omega) (by omega),
    sread_quiet h (p := base + (3 + 2 * k)) (by omega) (by omega), sread_quiet h (p := base + (3 + 2 * k + 1)) (by omega) (by omega), show base + (3 + 2 * k + 1) = base + (3 + 2 * k) + 1 by omega]
  rcases hG.all k hk.1 hk.2 with ⟨e0, e1, ew⟩ | ⟨e, b, he, hp, e0, e1⟩
  · unfold hm at e0 e1
    rw [e0, e1, if_pos ⟨rfl, rfl⟩, ew]
  · unfold hm at e0 e1
    have z := cut_nn hp.size
    have cat : b.extract 0 112 ++ b.extract 112 224 = b := by
      have sz := hp.size
      rw [ByteArray.extract_append_extract]
      rw [show min 0 112 = 0 by decide, show max 112 224 = b.size by rw [sz]; decide]
      exact ByteArray.extract_zero_size
    have hpp : Page.packF (want k).1 (want k).2 = (b, 0) := hp
    have pu := X12.pun_pack (a := (want k).1) (dta := (want k).2) (by rw [hpp])
    rw [hpp] at pu
    have pu2 : X12.punF b = ((want k).1, (want k).2, 0) := pu
    have v0 := sec_valid (i := 2 * k) (b := b.extract 0 112) he (by omega) (by omega)
    have v1 := sec_valid (i := 2 * k + 1) (b := b.extract 112 224) he (by omega) (by omega)
    have i0 := ix_sec (i := 2 * k) (b := b.extract 0 112) he (by omega) (by omega)
    have i1 := ix_sec (i := 2 * k + 1) (b := b.extract 112 224) he (by omega) (by omega)
    have y2 : ep (secS e (2 * k) (b.extract 0 112)) = ep (secS e (2 * k + 1) (b.extract 112 224)) := by rw [ep_sec (i := 2 * k) he (by omega) (by omega), ep_sec (i := 2 * k + 1) he (by omega) (by omega)]
    have b0 := bd_sec (i := 2 * k) (b := b.extract 0 112) he (by omega) (by omega)
    have b1 := bd_sec (i := 2 * k + 1) (b := b.extract 112 224) he (by omega) (by omega)
    have nz := sec_nz (i := 2 * k) (b := b.extract 0 112) he (by omega) (by omega)
    rw [← e0] at v0 i0 y2 b0 nz
    rw [← e1] at v1 i1 y2 b1
    clear e0 e1
    generalize cut S (base + (3 + 2 * k)) = s0 at *
    generalize cut S (base + (3 + 2 * k) + 1) = s1 at *
    rw [if_neg (fun x => nz x.1)]
    have y0 := and_iff.2 ⟨v0, i0⟩
    have y1 := and_iff.2 ⟨v1, i1⟩
    dsimp only
    rw [if_pos (And.intro y0 (And.intro y1 y2)), b0, b1, cat]
    have y3 : (X12.punF b).2.2 = 0 := by rw [pu2]
    rw [if_pos y3, pu2]
/-- A new disk. -/
theorem new_mid (L : Nat) : Mid (List.replicate L (noughts 128)) [] (newD L) := ⟨rfl, rfl, rfl⟩
theorem new_good {L : Nat} {base n : Int} (hl : Lies (List.replicate L (noughts 128)) base n) : Good (cut (List.replicate L (noughts 128))) base n 1 (fun _ => noPage) := by
  have h0 := hl.b0; have hh := hl.hi; have hn := hl.n0
  rw [List.length_replicate] at hh
  have c : ∀ q, 0 ≤ q → q < (L : Int) → cut (List.replicate L (noughts 128)) q = noughts 128 := fun q a b => by
    unfold cut
    rw [List.getElem?_replicate, if_pos (by omega)]
    rfl
  refine good_of ⟨fun q a b v => ?_, fun e i b hj => ?_, fun k k0 k1 _ => .inl ⟨c _ (by unfold hm; omega) (by unfold hm; omega), c _ (by unfold hm; omega) (by unfold hm; omega), rfl⟩⟩ ?_
  · rw [c q (by omega) (by omega)] at v
    exact absurd v not_nought
  · obtain ⟨vh, _⟩ := jour_some hj
    rw [c _ (by omega) (by omega)] at vh
    exact absurd vh not_nought
  · by_cases hc : J (cut (List.replicate L (noughts 128))) base n = none
    · exact hc
    · obtain ⟨⟨e, i', b'⟩, hx⟩ := Option.ne_none_iff_exists'.1 hc
      obtain ⟨vh, _⟩ := jour_some hx
      rw [c _ (by omega) (by omega)] at vh
      exact absurd vh not_nought
end Go.Proofs.Ytneilimiijcghaa.St
