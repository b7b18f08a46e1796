import Derived.Test.YtnhlfafdldpdgaaBetw
import Derived.Test.YtnhlfafdldpdgaaX19x92
/-! Layer 19: the mean behind many measures. -/
namespace Go.Proofs.Ytnhlfafdldpdgaa.Pol
open Go Go.RowKit Go.Proofs.Ytnhlfafdldpdgaa.Flt Go.Proofs.Ytnhlfafdldpdgaa.Cell Go.Proofs.Ytnhlfafdldpdgaa.X19 Go.Proofs.YtnhlfafdldpdgaaW.PrintWords
set_option linter.unusedVariables false
structure Bt (xs : List Nat) (s : MS) : Prop where
  num : s.n = xs.length
  mfin : fin s.mean
  mlt : s.mean < 18446744073709551616
  lo_ex : xs ≠ [] → ∃ y ∈ xs, val y ≤ val s.mean
  hi_ex : xs ≠ [] → ∃ z ∈ xs, val s.mean ≤ val z
  snum : isN s.sum = false
  spos : 0 ≤ keyI s.sum
  slt : s.sum < 18446744073709551616
  none_ : xs = [] → s = ms0
/-- A measure that isn't too great. -/
def Small (x : Nat) : Prop := x < 18446744073709551616 ∧ fin x ∧ -V9 ≤ val x ∧ val x ≤ V9
theorem one_fi : fi 1 = 4607182418800017408 := by decide +kernel
theorem fin0 : fin 0 := by unfold fin; decide
theorem v9_pos : 0 ≤ V9 := by unfold V9; have := big_pos; omega
theorem bt_snoc {xs : List Nat} {s : MS} (h : Bt xs s) (hl : xs.length ≤ 1000000) (hs : ∀ y ∈ xs, Small y) (x : Nat) (hx : Small x) : Bt (xs ++ [x]) (noteS s x) := by
  obtain ⟨lx, fx, bx⟩ := hx
  rw [note_num (fin_num fx)]
  have rx : rg x ≤ 9218868437227405312 := Nat.le_of_lt fx
  have v9 := v9_pos
  by_cases e : xs = []
  · have e0 := h.none_ e
    subst e0
    subst e
    have hd := sub_facts x 0 (by decide) fx fin0 bx ⟨by rw [val_zero]; omega, by rw [val_zero]; omega⟩
    obtain ⟨fd, g1, g2⟩ := hd
    have ld : vop .sub x 0 < 18446744073709551616 := vop_lt _ _ _
    have hmean : meanS ms0 x = vop .add 0 (vop .sub x 0) := by
      show vop .add 0 (vop .quo (vop .sub x 0) (fi (((0 : Nat) : Int) + 1))) = _
      rw [show (((0 : Nat) : Int) + 1) = 1 from rfl, one_fi, quo_one _ ld fd]
    have kd : keyI (vop .sub x 0) = keyI x := Int.le_antisymm (g2 x rx (by rw [val_zero]; omega)) (g1 x rx (by rw [val_zero]; omega))
    have vd : val (vop .sub x 0) = val x := Int.le_antisymm ((val_key _ _).2 (by omega)) ((val_key _ _).2 (by omega))
    have km : keyI (meanS ms0 x) = keyI x := by
      rw [hmean]
      exact Int.le_antisymm (add_le 0 _ x fin0 fd rx (by rw [val_zero, vd]; omega)) (add_ge 0 _ x fin0 fd rx (by rw [val_zero, vd]; omega))
    have vm : val (meanS ms0 x) = val x := Int.le_antisymm ((val_key _ _).2 (by omega)) ((val_key _ _).2 (by omega))
    have lm : meanS ms0 x < 18446744073709551616 := vop_lt _ _ _
    have fm : fin (meanS ms0 x) := fin_between fx fx (by omega) (by omega)
    obtain ⟨fe, e1, e2⟩ := sub_facts x (meanS ms0 x) lm fx fm bx ⟨by omega, by omega⟩
    have k0 : rg 0 ≤ 9218868437227405312 := by decide
    have w1 := e1 0 k0 (by rw [val_zero]; omega)
    have w2 := e2 0 k0 (by rw [val_zero]; omega)
    rw [key_zero] at w1 w2
    have hp := mul_nonneg (vop .sub x 0) (vop .sub x (meanS ms0 x)) fd fe (by
      have a := (val_pos _).2 w1
      have b := (val_npos _).2 w2
      rcases Int.le_total 0 (val (vop .sub x 0)) with c | c
      · exact Or.inl ⟨c, a⟩
      · exact Or.inr ⟨c, b⟩)
    have hsum : sumS ms0 x = vop .add 0 (vop .mul (vop .sub x 0) (vop .sub x (meanS ms0 x))) := rfl
    have ha := add_nonneg 0 _ (by decide) (vop_lt .mul (vop .sub x 0) (vop .sub x (meanS ms0 x))) (by decide) hp.1 (by decide) hp.2
    rw [← hsum] at ha
    exact ⟨rfl, fm, lm, fun _ => ⟨x, by simp, by show val x ≤ val (meanS ms0 x); omega⟩, fun _ => ⟨x, by simp, by show val (meanS ms0 x) ≤ val x; omega⟩, ha.1, ha.2, vop_lt _ _ _, fun q => by simp at q⟩
  · obtain ⟨y, hy, hy2⟩ := h.lo_ex e
    obtain ⟨z, hz, hz2⟩ := h.hi_ex e
    have by_ := (hs y hy).2.2
    have bz := (hs z hz).2.2
    have hn1 : 1 ≤ xs.length := by
      cases xs with
      | nil => exact absurd rfl e
      | cons a r => simp
    have hnn := h.num
    have st := step_facts x s.mean (s.n + 1) lx h.mlt fx h.mfin bx ⟨by omega, by omega⟩ (by omega) (by omega) (meanS s x) rfl
    obtain ⟨fm, hb, pn, pp⟩ := st
    have hsum : sumS s x = vop .add s.sum (vop .mul (vop .sub x s.mean) (vop .sub x (meanS s x))) := rfl
    have ha := add_nonneg s.sum _ h.slt (vop_lt .mul (vop .sub x s.mean) (vop .sub x (meanS s x))) h.snum pn h.spos pp
    rw [← hsum] at ha
    refine ⟨by show s.n + 1 = _; rw [hnn]; simp, fm, vop_lt _ _ _, fun _ => ?_, fun _ => ?_, ha.1, ha.2, vop_lt _ _ _, fun q => by simp at q⟩
    · rcases hb with ⟨b1, b2⟩ | ⟨b1, b2⟩
      · exact ⟨y, List.mem_append_left _ hy, by show val y ≤ val (meanS s x); omega⟩
      · exact ⟨x, by simp, b1⟩
    · rcases hb with ⟨b1, b2⟩ | ⟨b1, b2⟩
      · exact ⟨x, by simp, b2⟩
      · exact ⟨z, List.mem_append_left _ hz, by show val (meanS s x) ≤ val z; omega⟩
theorem bt_run (xs : List Nat) (hl : xs.length ≤ 1000000) (hs : ∀ y ∈ xs, Small y) : Bt xs (runS xs) := by
  have key : ∀ ys zs : List Nat, (zs ++ ys).length ≤ 1000000 → (∀ y ∈ zs ++ ys, Small y) → Bt zs (runS zs) → Bt (zs ++ ys) (runS (zs ++ ys)) := by
    intro ys
    induction ys with
    | nil => intro zs _ _ h; rwa [List.append_nil]
    | cons y r ih =>
      intro zs h1 h2 h
      have := ih (zs ++ [y]) (by simpa [List.append_assoc] using h1) (by simpa [List.append_assoc] using h2) (by
        rw [runS_snoc]
        exact bt_snoc h (by rw [List.length_append] at h1; omega) (fun q hq => h2 q (List.mem_append_left _ hq)) y (h2 y (by simp)))
      rwa [List.append_assoc] at this
  exact key xs [] (by simpa using hl) (by simpa using hs) ⟨rfl, fin0, by decide, fun h => absurd rfl h, fun h => absurd rfl h, rfl, by decide, by decide, fun _ => rfl⟩
theorem kz_key {a b : Nat} (la : a < 18446744073709551616) (lb : b < 18446744073709551616) (na : isN a = false) (nb : isN b = false) (h : kz a ≤ kz b) : keyI a ≤ keyI b := by
  rcases kz_split na la with ⟨a1, a2, a3, _⟩ | ⟨a1, a0, a2, a3, _⟩ <;> rcases kz_split nb lb with ⟨b1, b2, b3, _⟩ | ⟨b1, b0, b2, b3, _⟩ <;> omega
theorem le_eq (a b : Nat) : leF a b = (!isN a && (!isN b && decide (keyI a ≤ keyI b))) := by
  unfold leF
  rw [lss_eq, eql_eq]
  cases isN a
  · cases isN b
    · simp only [Bool.not_false, Bool.true_and]
      rw [Bool.eq_iff_iff, Bool.or_eq_true, decide_eq_true_eq, decide_eq_true_eq, decide_eq_true_eq]
      omega
    · rfl
  · rfl
theorem fin_one : fin 4607182418800017408 ∧ 0 ≤ val 4607182418800017408 := by
  have h := fi_fin 1 (by decide)
  rw [one_fi] at h
  refine ⟨h.2.2.1, ?_⟩
  rw [h.2.2.2]; omega
theorem is_op {b r : Nat} (h : cn b = r) (hr : isN r = false) : b = r := by
  rcases cn_or b with q | q
  · have : isN (cn b) = true := by rw [isN_cn]; exact q
    rw [h, hr] at this; cases this
  · rw [← q]; exact h
/-- What the law asks. -/
theorem between (xs : List Nat) (h0 : xs ≠ []) (hl : xs.length ≤ 1000000) (hs : ∀ y ∈ xs, Small y) :
    (runS xs).n = xs.length ∧ (∀ b, cn b = vop .sub (leastV (runS xs)) 4607182418800017408 → geF (meanV (runS xs)) b = true) ∧ (∀ b, cn b = vop .add (mostV (runS xs)) 4607182418800017408 → leF (meanV (runS xs)) b = true) ∧ (FloatKind.f64.format.order (spreadV (runS xs)) 13830554455654793216 == some .gt) = true := by
  have B := bt_run xs hl hs
  have T := told_run xs
  generalize runS xs = s at *
  have hn : s.n ≠ 0 := by
    rw [B.num]
    cases xs with
    | nil => exact absurd rfl h0
    | cons a r => simp
  obtain ⟨y, hy, hy2⟩ := B.lo_ex h0
  obtain ⟨z, hz, hz2⟩ := B.hi_ex h0
  obtain ⟨p, hp, np, ep⟩ := T.lo_in hn
  obtain ⟨q, hq, nq, eq⟩ := T.hi_in hn
  have sp := hs p hp; have sq := hs q hq; have sy := hs y hy; have sz := hs z hz
  rw [← ep] at sp; rw [← eq] at sq
  have ly := T.least y hy (fin_num sy.2.1)
  have hz3 := T.most z hz (fin_num sz.2.1)
  have kl := kz_key sp.1 sy.1 (fin_num sp.2.1) (fin_num sy.2.1) ly
  have kh := kz_key sz.1 sq.1 (fin_num sz.2.1) (fin_num sq.2.1) hz3
  have hm : meanV s = s.mean := by unfold meanV; rw [if_neg hn]; exact cn_num (fin_num B.mfin)
  have hle : leastV s = s.lo := by unfold leastV; rw [if_neg hn]
  have hmo : mostV s = s.hi := by unfold mostV; rw [if_neg hn]
  have hsp : spreadV s = vop .quo s.sum (fi (s.n : Int)) := by unfold spreadV; rw [if_neg hn]
  have vy := (val_key _ _).2 kl
  have vz := (val_key _ _).2 kh
  obtain ⟨f1, v1⟩ := fin_one
  have l1 : (4607182418800017408 : Nat) < 18446744073709551616 := by decide
  refine ⟨B.num, fun b hb => ?_, fun b hb => ?_, ?_⟩
  · rw [hm]
    rw [hle, sub_add _ _ l1] at hb
    have fn := fin_neg l1 f1
    have hnum := add_num s.lo _ sp.2.1 fn
    have e := is_op hb hnum
    rw [ge_eq, fin_num B.mfin, e, hnum]
    simp only [Bool.not_false, Bool.true_and, decide_eq_true_eq]
    have k1 := add_le s.lo _ s.lo sp.2.1 fn (Nat.le_of_lt sp.2.1) (by rw [val_neg _ l1]; omega)
    have k2 := (val_key s.lo s.mean).1 (by omega)
    omega
  · rw [hm]
    rw [hmo] at hb
    have hnum := add_num s.hi _ sq.2.1 f1
    have e := is_op hb hnum
    rw [le_eq, fin_num B.mfin, e, hnum]
    simp only [Bool.not_false, Bool.true_and, decide_eq_true_eq]
    have k1 := add_ge s.hi _ s.hi sq.2.1 f1 (Nat.le_of_lt sq.2.1) (by omega)
    have k2 := (val_key s.mean s.hi).1 (by omega)
    omega
  · rw [hsp]
    have fm := fi_fin (s.n : Int) (by rw [B.num]; omega)
    have nm : ng (fi (s.n : Int)) = false := by rw [fm.1]; exact decide_eq_false (by omega)
    have m0 : mag (rg (fi (s.n : Int))) ≠ 0 := by
      intro c
      have hv := fm.2.2.2
      unfold val at hv
      rw [nm, c] at hv
      simp only [Bool.false_eq_true, if_false] at hv
      have hb := big_pos
      have : (0 : Int) < (s.n : Int) * (big : Int) := Int.mul_pos (by omega) (by omega)
      omega
    have hqn := quo_nonneg s.sum (fi (s.n : Int)) B.slt B.snum B.spos fm.2.2.1 m0 nm
    have e := gtr_eq (vop .quo s.sum (fi (s.n : Int))) 13830554455654793216
    rw [e, hqn.1]
    have n1 : isN 13830554455654793216 = false := by decide
    have k1 : keyI 13830554455654793216 = -4607182418800017408 := by decide
    rw [n1, k1]
    simp only [Bool.not_false, Bool.true_and, decide_eq_true_eq]
    omega
theorem p9 : fi 1000000000 = 4741671816366391296 ∧ fi (-1000000000) = 13965043853221167104 := by decide +kernel
theorem small_of (x : Nat) (lx : x < 18446744073709551616) (h1 : (FloatKind.f64.format.order x 13965043853221167104 == some .gt) = true) (h2 : (FloatKind.f64.format.order x 4741671816366391296 == some .lt) = true) : Small x := by
  have e1 := gtr_eq x 13965043853221167104
  have e2 := lss_eq x 4741671816366391296
  rw [e1] at h1
  rw [e2] at h2
  simp only [Bool.and_eq_true, Bool.not_eq_true', decide_eq_true_eq] at h1 h2
  have a := fi_fin 1000000000 (by decide)
  have b := fi_fin (-1000000000) (by decide)
  rw [p9.1] at a
  rw [p9.2] at b
  have va : val 4741671816366391296 = V9 := a.2.2.2
  have vb : val 13965043853221167104 = -V9 := by rw [b.2.2.2]; unfold V9; exact Int.neg_mul ..
  have c1 := (val_key 13965043853221167104 x).2 (by omega)
  have c2 := (val_key x 4741671816366391296).2 (by omega)
  exact ⟨lx, fin_between b.2.2.1 a.2.2.1 (by omega) (by omega), by omega, by omega⟩
end Go.Proofs.Ytnhlfafdldpdgaa.Pol
