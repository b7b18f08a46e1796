-- Written by this session's xprint.py (the kit's print, with contracts proved by hand).
import Derived.Test.YtlgcmcieipdcgaaX14x0
import Derived.Test.YtlgcmcieipdcgaaX14x4
namespace Go.Proofs.Ytlgcmcieipdcgaa.X14
open Go.RowKit Go.Proofs.YtlgcmcieipdcgaaW.PrintWords Go.Proofs.YtlgcmcieipdcgaaW.PrintLast Go.Proofs.YtlgcmcieipdcgaaW.PrintMore
attribute [local go_sem] Page.fld_page_0 Page.fld_page_1 max2_int min2_int max_two min_two max_three min_three max_four min_four   -- for this text's walks alone
set_option linter.unusedVariables false
set_option linter.unusedSimpArgs false

/-! ### careenref14_Pages: function 32 -/
def careenref14_Pages.l0 : Nat → List (S58) → Int → List (S23) → Int → Option ((List (S23)))
  | 0, _, _, _, _ => none
  | k + 1, x0, x1, x7, x8 => if x8 < (x0.length : Int) then (if 0 ≤ x8 then (if ((rd_T58 x0 x8).f0) ≥ x1 then (if ((rd_T58 x0 x8).f1.f2) ≥ 0 then (if ((rd_T58 x0 x8).f1.f2) < (x7.length : Int) then (if 0 ≤ ((rd_T58 x0 x8).f1.f2) then ((careenref06_Apply.f k ((rd_T23 x7 ((rd_T58 x0 x8).f1.f2)).f0) ((rd_T23 x7 ((rd_T58 x0 x8).f1.f2)).f1) ((rd_T58 x0 x8).f0) ((rd_T58 x0 x8).f1.f0) ((rd_T58 x0 x8).f1.f1) ((rd_T58 x0 x8).f1.f2) ((rd_T58 x0 x8).f1.f3) ((rd_T58 x0 x8).f1.f4) ((rd_T58 x0 x8).f1.f5) ((rd_T58 x0 x8).f1.f6) ((rd_T58 x0 x8).f1.f7) ((rd_T58 x0 x8).f1.f8) ((rd_T58 x0 x8).f1.f9) ((rd_T58 x0 x8).f1.f10)).bind fun bt147 => (careenref14_Pages.l0 k x0 x1 (x7.set (((rd_T58 x0 x8).f1.f2) : Int).toNat (⟨bt147.1, bt147.2⟩ : S23)) (wrap64 (x8 + 1)))) else (none)) else (careenref14_Pages.l0 k x0 x1 x7 (wrap64 (x8 + 1)))) else (careenref14_Pages.l0 k x0 x1 x7 (wrap64 (x8 + 1)))) else (careenref14_Pages.l0 k x0 x1 x7 (wrap64 (x8 + 1)))) else (none)) else (some x7)
def careenref14_Pages.f (k : Nat) (l0 : List (S58)) (a1 : Int) (l2 : List (S23)) : Option ((List (S23))) := (some (([] : List (S23)) : List (S23))).bind fun y136 => (if y136.length + l2.length < 5864062014805 then (careenref14_Pages.l0 k l0 a1 (y136 ++ l2) 0) else (none))
theorem careenref14_Pages.mono_l : ∀ k, (∀ y0 y1 y2 y3, LeO (careenref14_Pages.l0 k y0 y1 y2 y3) (careenref14_Pages.l0 (k + 1) y0 y1 y2 y3))
  | 0 => fun _ _ _ _ r h => by simp [careenref14_Pages.l0] at h
  | k + 1 => by
    have ih0 := careenref14_Pages.mono_l k
    · intro y0 y1 y2 y3
      unfold careenref14_Pages.l0
      repeat' first
      | (with_reducible exact ih0 _ _ _ _)
      | (with_reducible exact careenref06_Apply.mono _ _ _ _ _ _ _ _ _ _ _ _ _ _ _)
      | (with_reducible exact LeO.refl _)
      | (with_reducible exact LeO.none _)
      | (with_reducible refine LeO.ite ?_ ?_)
      | (with_reducible refine LeO.bind ?_ (fun _ => ?_))
      | exact ih0 _ _ _ _
      | exact careenref06_Apply.mono _ _ _ _ _ _ _ _ _ _ _ _ _ _ _
      | exact LeO.none _
      | refine LeO.ite ?_ ?_
      | refine LeO.bind ?_ (fun _ => ?_)
theorem careenref14_Pages.mono : ∀ a0 a1 a2 k, LeO (careenref14_Pages.f k a0 a1 a2) (careenref14_Pages.f (k + 1) a0 a1 a2) := by
  intro a0 a1 a2 k
  have ih0 := careenref14_Pages.mono_l k
  unfold careenref14_Pages.f
  repeat' first
      | (with_reducible exact ih0 _ _ _ _)
      | (with_reducible exact careenref06_Apply.mono _ _ _ _ _ _ _ _ _ _ _ _ _ _ _)
      | (with_reducible exact LeO.refl _)
      | (with_reducible exact LeO.none _)
      | (with_reducible refine LeO.ite ?_ ?_)
      | (with_reducible refine LeO.bind ?_ (fun _ => ?_))
      | exact ih0 _ _ _ _
      | exact careenref06_Apply.mono _ _ _ _ _ _ _ _ _ _ _ _ _ _ _
      | exact LeO.none _
      | refine LeO.ite ?_ ?_
      | refine LeO.bind ?_ (fun _ => ?_)
def careenref14_Pages.T7 : Bool × List (List Nat × List Nat) := (true, [([], []), ([], []), ([], []), ([], []), ([2, 3], [2, 3]), ([4], [4]), ([], []), ([], []), ([6, 7], [6, 7]), ([8], [8]), ([9], [9]), ([], []), ([], []), ([11, 12], [11, 12]), ([13], [13]), ([14], [14]), ([5, 10, 15], [5, 10, 15]), ([0, 1, 0, 1, 2, 3, 4, 5, 6, 7, 8, 9, 10, 11, 12, 13, 14, 15, 16], [0, 1]), ([17, 16, 16, 0, 1, 2, 3, 4, 5, 6, 7, 8, 9, 10, 11, 12, 13, 14, 15, 16], [16, 17])])
def careenref14_Pages.B7 : List Nat := [0, 0, 0, 0, 12, 28, 0, 0, 192, 448, 960, 0, 0, 6144, 14336, 30720, 65532, 131071, 262143]
theorem careenref14_Pages.tab7 : rtab .any (opsOf Try.f32 7) = careenref14_Pages.T7 := by kernel_rfl
theorem careenref14_Pages.bits7 : waitsOk careenref14_Pages.T7.2 careenref14_Pages.B7 = true := by kernel_rfl
set_option maxHeartbeats 8000000 in
set_option maxRecDepth 100000 in
theorem careenref14_Pages.calls (k : Nat) (A0 : Option Addr) (c0 : Nat) (l0 : List (S58)) (a1 : Int) (A2 : Option Addr) (c2 : Nat) (l2 : List (S23)) (r : List (S23)) (w : World) (hr0 : Kd.C k58 w A0 l0.length l0) (hc0 : l0.length ≤ c0) (hr2 : Kd.C k23 w A2 l2.length l2) (hc2 : l2.length ≤ c2) (h : careenref14_Pages.f k l0 a1 l2 = some r) :
    Calls Try.prog 32 #[.slice A0 l0.length c0, .int .i64 a1, .slice A2 l2.length c2] w fun e w' => ∃ v0_ : Value, e = .returned (v0_) ∧ Kd.R k23 23 w' w.heap.size (fun _ => True) v0_ r ∧ Below w.heap.size w w' := by
  have hu23 := Try.underlying23
  have hu40 := Try.underlying40
  have HR0 := Aside0.mk hr0
  have HC0 := Aside0.mk hc0
  clear hr0 hc0
  have HR2 := Aside0.mk hr2
  have HC2 := Aside0.mk hc2
  clear hr2 hc2
  have HB := Aside0.mk (Below.refl w.heap.size w)
  have H : ((some (([] : List (S23)) : List (S23))).bind fun y136 => (if y136.length + l2.length < 5864062014805 then (careenref14_Pages.l0 k l0 a1 (y136 ++ l2) 0) else (none))) = some r := h
  clear h
  obtain ⟨y136, hy136⟩ : ∃ y_ : List (S23), y_ = (([] : List (S23))) := ⟨_, rfl⟩
  replace H : (if y136.length + l2.length < 5864062014805 then (careenref14_Pages.l0 k l0 a1 (y136 ++ l2) 0) else (none)) = some r := by first | (rw [hy136]; with_reducible exact H) | (have H2_ := (Option.bind_some _ _).symm.trans H; rw [hy136]; with_reducible exact H2_) | (have H2_ := (Option.bind_some _ _).symm.trans H; with_reducible exact H2_) | with_reducible exact H | (rw [hy136]; exact H) | exact H
  have Ny136 := Aside0.mk hy136
  clear hy136
  by_cases c4 : y136.length + l2.length < 5864062014805
  · rw [if_pos c4] at H
    have LMc4 := Aside0.mk c4
    clear c4
    obtain ⟨y139, hy139⟩ : ∃ y_ : List (S23), y_ = (y136 ++ l2) := ⟨_, rfl⟩
    replace H : (careenref14_Pages.l0 k l0 a1 y139 0) = some r := by first | (rw [hy139]; with_reducible exact H) | (have H2_ := (Option.bind_some _ _).symm.trans H; rw [hy139]; with_reducible exact H2_) | (have H2_ := (Option.bind_some _ _).symm.trans H; with_reducible exact H2_) | with_reducible exact H | (rw [hy139]; exact H) | exact H
    have Ny139 := Aside0.mk hy139
    clear hy139
    have H' := Aside0.mk H
    clear H
    go_enter Try.func32, Try.ntmps32
    go_wp2_with (first | ((with_reducible refine gate_dst (N := 10) rfl ?_); (try (refine gate_guard (by rfl) ?_; dsimp only)); refine Kd.R_lit k23 _ 23 ?hg (N := 10) ?hd (xs := ([] : List (S23))) (inner := []) (ok := fun _ => True) (okp := fun _ => True) ?hr ?hp (fun _ hk => hk) trivial (Below.refl _ _) (Nat.le_refl _) (by simp) ?_; (case hd => rfl); (case hg => rfl); (case hr => first | (go_simp; done) | (go_simp; rfl)); (case hp => exact (Reps.none _ _)); intro v137 w5 ho6 hb hg_ hnew_; clear hg_ hnew_; (first | rw [← Ny136.out] at ho6 | (simp only [Int.reduceToNat] at ho6; rw [← Ny136.out] at ho6)); have n0_ := Aside0.mk (Kd.R_lower ho6 (below_size (by repeat (first | (with_reducible first | exact HB.out | apply below_alloc | apply pw_below_drewN | apply below_drew1) | exact HB.out)))); have n1_ := Aside0.mk (below_step (by repeat (first | (with_reducible first | exact HB.out | apply below_alloc | apply pw_below_drewN | apply below_drew1) | exact HB.out)) hb); clear HB; have HO138 := n0_; have HB := n1_; clear n0_ n1_; clear hb ho6) | ((with_reducible refine gate_builtin (b := .append) (xs := #[.tmp 10, .tmp 11]) rfl ?_); (try (refine gate_guard (by rfl) ?_; dsimp only)); at_builtin; refine Kd.R_append_rows k23 (w0 := w) w.heap.size rfl (.tmp 10) (.tmp 11) 49 23 (.agg #[(.int .i64 0), (.string ⟨#[]⟩)]) 24 rfl Try.underlying49 info23 rfl (by decide) (by omega) v137 y136 l2 _ _ _ (fun _ => True) (fun _ => False) rfl rfl ?aO ?aR (fun _ _ h => h) (fun _ h => h.elim) ?aF ?aB ?aS ?aL ?_; (case aR => repeat (first | exact (Kd.C_below HR2.out HB.out) | (with_reducible refine Kd.C_alloc ?_ _) | (with_reducible refine Kd.C_drewN ?_ _) | (with_reducible refine Kd.C_drew ?_))); (case aB => exact (by repeat (first | (with_reducible first | exact HB.out | apply below_alloc | apply pw_below_drewN | apply below_drew1) | exact HB.out))); (case aF => exact (fun _ _ => trivial)); (case aO => exact (by (with_reducible repeat (first | apply Kd.R_alloc | apply Kd.R_drewN | apply Kd.R_drew)); exact HO138.out)); (case aS => exact (below_size (by repeat (first | (with_reducible first | exact HB.out | apply below_alloc | apply pw_below_drewN | apply below_drew1) | exact HB.out)))); (case aL => have := LMc4.out; omega); intro v140 w7 ho hb hg hat; rw [← Ny139.out] at ho; have n0_ := Aside0.mk (hb); have n1_ := Aside0.mk (ho); clear HB; clear HO138; have HB := n0_; have HO141 := n1_; clear n0_ n1_; clear ho hb hg hat))
    go_loopg [8] k (fun kq v8 w' => ∃ (x7_1 : List (S23)) (x8_1 : Int), v8 = .int .i64 x8_1 ∧ Aside0 (careenref14_Pages.l0 kq l0 a1 x7_1 x8_1 = some r) ∧ Aside0 (kq ≤ k) ∧ Aside0 (Kd.R k23 23 w' w.heap.size (fun _ => True) v140 x7_1) ∧ Aside0 (Below w.heap.size w w'))
    case atStart => exact ⟨(y139), (0), (by first | rfl | (simp; done) | (simp [*]; done)), H', ⟨Nat.le_refl _⟩, ⟨by (with_reducible repeat (first | apply Kd.R_alloc | apply Kd.R_drewN | apply Kd.R_drew)); exact HO141.out⟩, ⟨by repeat (first | (with_reducible first | exact HB.out | apply below_alloc | apply pw_below_drewN | apply below_drew1) | exact HB.out)⟩⟩
    case round =>
      clear H'
      try clear c2
      try clear p2
      try clear c3
      try clear c4
      obtain ⟨x7_1, x8_1, rfl, HA, HK1, HO_7, HB⟩ := hrel
      cases gk with
      | zero => exact absurd HA.out (by simp [careenref14_Pages.l0])
      | succ k1 =>
        have H := HA.out
        clear HA
        simp only [careenref14_Pages.l0] at H
        by_cases c8 : x8_1 < (l0.length : Int)
        · rw [if_pos c8] at H
          have c8b0 : decide (x8_1 < (l0.length : Int)) = true := decide_eq_true c8
          clear c8
          by_cases c9 : 0 ≤ x8_1
          · rw [if_pos c9] at H
            have c9b0 : decide (0 ≤ x8_1) = true := decide_eq_true c9
            clear c9
            by_cases c10 : ((rd_T58 l0 x8_1).f0) ≥ a1
            · rw [if_pos c10] at H
              have c10b0 : decide (a1 ≤ ((rd_T58 l0 x8_1).f0)) = true := decide_eq_true c10
              clear c10
              by_cases c11 : ((rd_T58 l0 x8_1).f1.f2) ≥ 0
              · rw [if_pos c11] at H
                have c11b0 : decide (0 ≤ ((rd_T58 l0 x8_1).f1.f2)) = true := decide_eq_true c11
                clear c11
                by_cases c12 : ((rd_T58 l0 x8_1).f1.f2) < (x7_1.length : Int)
                · rw [if_pos c12] at H
                  have c12b0 : decide (((rd_T58 l0 x8_1).f1.f2) < (x7_1.length : Int)) = true := decide_eq_true c12
                  clear c12
                  by_cases c13 : 0 ≤ ((rd_T58 l0 x8_1).f1.f2)
                  · rw [if_pos c13] at H
                    have c13b0 : decide (0 ≤ ((rd_T58 l0 x8_1).f1.f2)) = true := decide_eq_true c13
                    clear c13
                    replace H := Option.bind_eq_some_iff.mp H
                    obtain ⟨⟨t147, t148⟩, A140, H⟩ := H
                    replace H : (careenref14_Pages.l0 k1 l0 a1 (x7_1.set (((rd_T58 l0 x8_1).f1.f2) : Int).toNat (⟨t147, t148⟩ : S23)) (wrap64 (x8_1 + 1))) = some r := H
                    have A14 := Aside0.mk A140
                    clear A140
                    obtain ⟨y149, hy149⟩ : ∃ y_ : List (S23), y_ = (x7_1.set (((rd_T58 l0 x8_1).f1.f2) : Int).toNat (⟨t147, t148⟩ : S23)) := ⟨_, rfl⟩
                    replace H : (careenref14_Pages.l0 k1 l0 a1 y149 (wrap64 (x8_1 + 1))) = some r := by first | (rw [hy149]; with_reducible exact H) | (have H2_ := (Option.bind_some _ _).symm.trans H; rw [hy149]; with_reducible exact H2_) | (have H2_ := (Option.bind_some _ _).symm.trans H; with_reducible exact H2_) | with_reducible exact H | (rw [hy149]; exact H) | exact H
                    have Ny149 := Aside0.mk hy149
                    clear hy149
                    have H' := Aside0.mk H
                    clear H
                    have p142 : 0 ≤ (x8_1 : Int) := of_decide_eq_true (by first | (with_reducible assumption) | assumption)
                    have q142 : x8_1 < (l0.length : Int) := of_decide_eq_true (by first | (with_reducible assumption) | assumption)
                    obtain ⟨ad142, A142_10, c142_10, A142_11, c142_11, e142, hx142_0, hx142_1, hx142_2, hx142_3, hx142_4, hx142_5, hx142_6, hx142_7, hx142_8, hx142_9, hx142_10, hx142_11, hl142_10, hi142_10, hl142_11, hi142_11⟩ := at_T58 HR0.out x8_1 p142 q142
                    cases e142
                    replace hx142_0 := (HB.out.cell (World.block_lt_of_cell? w _ hx142_0)).trans hx142_0
                    replace hx142_1 := (HB.out.cell (World.block_lt_of_cell? w _ hx142_1)).trans hx142_1
                    replace hx142_2 := (HB.out.cell (World.block_lt_of_cell? w _ hx142_2)).trans hx142_2
                    replace hx142_3 := (HB.out.cell (World.block_lt_of_cell? w _ hx142_3)).trans hx142_3
                    replace hx142_4 := (HB.out.cell (World.block_lt_of_cell? w _ hx142_4)).trans hx142_4
                    replace hx142_5 := (HB.out.cell (World.block_lt_of_cell? w _ hx142_5)).trans hx142_5
                    replace hx142_6 := (HB.out.cell (World.block_lt_of_cell? w _ hx142_6)).trans hx142_6
                    replace hx142_7 := (HB.out.cell (World.block_lt_of_cell? w _ hx142_7)).trans hx142_7
                    replace hx142_8 := (HB.out.cell (World.block_lt_of_cell? w _ hx142_8)).trans hx142_8
                    replace hx142_9 := (HB.out.cell (World.block_lt_of_cell? w _ hx142_9)).trans hx142_9
                    replace hx142_10 := (HB.out.cell (World.block_lt_of_cell? w _ hx142_10)).trans hx142_10
                    replace hx142_11 := (HB.out.cell (World.block_lt_of_cell? w _ hx142_11)).trans hx142_11
                    have HR142_10 := Aside0.mk hi142_10
                    have HC142_10 := Aside0.mk hl142_10
                    clear hi142_10 hl142_10
                    have HR142_11 := Aside0.mk hi142_11
                    have HC142_11 := Aside0.mk hl142_11
                    clear hi142_11 hl142_11
                    replace p142 := eq_true p142
                    replace q142 := eq_true q142
                    have p143 : 0 ≤ (x8_1 : Int) := of_decide_eq_true (by first | (with_reducible assumption) | assumption)
                    have q143 : x8_1 < (l0.length : Int) := of_decide_eq_true (by first | (with_reducible assumption) | assumption)
                    obtain ⟨ad143, A143_10, c143_10, A143_11, c143_11, e143, hx143_0, hx143_1, hx143_2, hx143_3, hx143_4, hx143_5, hx143_6, hx143_7, hx143_8, hx143_9, hx143_10, hx143_11, hl143_10, hi143_10, hl143_11, hi143_11⟩ := at_T58 HR0.out x8_1 p143 q143
                    obtain rfl : ad142 = ad143 := (by injection e143)
                    replace hx143_0 := (HB.out.cell (World.block_lt_of_cell? w _ hx143_0)).trans hx143_0
                    replace hx143_1 := (HB.out.cell (World.block_lt_of_cell? w _ hx143_1)).trans hx143_1
                    replace hx143_2 := (HB.out.cell (World.block_lt_of_cell? w _ hx143_2)).trans hx143_2
                    replace hx143_3 := (HB.out.cell (World.block_lt_of_cell? w _ hx143_3)).trans hx143_3
                    replace hx143_4 := (HB.out.cell (World.block_lt_of_cell? w _ hx143_4)).trans hx143_4
                    replace hx143_5 := (HB.out.cell (World.block_lt_of_cell? w _ hx143_5)).trans hx143_5
                    replace hx143_6 := (HB.out.cell (World.block_lt_of_cell? w _ hx143_6)).trans hx143_6
                    replace hx143_7 := (HB.out.cell (World.block_lt_of_cell? w _ hx143_7)).trans hx143_7
                    replace hx143_8 := (HB.out.cell (World.block_lt_of_cell? w _ hx143_8)).trans hx143_8
                    replace hx143_9 := (HB.out.cell (World.block_lt_of_cell? w _ hx143_9)).trans hx143_9
                    replace hx143_10 := (HB.out.cell (World.block_lt_of_cell? w _ hx143_10)).trans hx143_10
                    replace hx143_11 := (HB.out.cell (World.block_lt_of_cell? w _ hx143_11)).trans hx143_11
                    have HR143_10 := Aside0.mk hi143_10
                    have HC143_10 := Aside0.mk hl143_10
                    clear hi143_10 hl143_10
                    have HR143_11 := Aside0.mk hi143_11
                    have HC143_11 := Aside0.mk hl143_11
                    clear hi143_11 hl143_11
                    replace p143 := eq_true p143
                    replace q143 := eq_true q143
                    have ea_ := Option.some.inj (hx142_10.symm.trans hx143_10)
                    injection ea_ with ea_ en_ ec_
                    subst ea_
                    subst ec_
                    clear en_
                    have ea_ := Option.some.inj (hx142_11.symm.trans hx143_11)
                    injection ea_ with ea_ en_ ec_
                    subst ea_
                    subst ec_
                    clear en_
                    obtain ⟨Ao16, co16, eo16⟩ := Kd.R_slice HO_7.out
                    subst eo16
                    try go_wp2
                    have n0_ := Aside0.mk (Kd.R_drew HO_7.out)
                    have n1_ := Aside0.mk (below_drew1 HB.out)
                    clear HO_7
                    clear HB
                    have HO_7 := n0_
                    have HB := n1_
                    clear n0_ n1_
                    have p144 : 0 ≤ (((rd_T58 l0 x8_1).f1.f2) : Int) := of_decide_eq_true (by first | (with_reducible assumption) | assumption)
                    have q144 : ((rd_T58 l0 x8_1).f1.f2) < (x7_1.length : Int) := of_decide_eq_true (by first | (with_reducible assumption) | assumption)
                    obtain ⟨ad144, e144, hx144_0, hx144_1⟩ := at_T23 (Kd.R_reads' HO_7.out).2.2 ((rd_T58 l0 x8_1).f1.f2) p144 q144
                    cases e144
                    replace p144 := eq_true p144
                    replace q144 := eq_true q144
                    have p145 : 0 ≤ (x8_1 : Int) := of_decide_eq_true (by first | (with_reducible assumption) | assumption)
                    have q145 : x8_1 < (l0.length : Int) := of_decide_eq_true (by first | (with_reducible assumption) | assumption)
                    obtain ⟨ad145, A145_10, c145_10, A145_11, c145_11, e145, hx145_0, hx145_1, hx145_2, hx145_3, hx145_4, hx145_5, hx145_6, hx145_7, hx145_8, hx145_9, hx145_10, hx145_11, hl145_10, hi145_10, hl145_11, hi145_11⟩ := at_T58 HR0.out x8_1 p145 q145
                    have hw145_11 := hx145_11
                    have hw145_10 := hx145_10
                    have hw145_9 := hx145_9
                    have hw145_8 := hx145_8
                    have hw145_7 := hx145_7
                    have hw145_6 := hx145_6
                    have hw145_5 := hx145_5
                    have hw145_4 := hx145_4
                    have hw145_3 := hx145_3
                    have hw145_2 := hx145_2
                    have hw145_1 := hx145_1
                    have hw145_0 := hx145_0
                    obtain rfl : ad142 = ad145 := (by injection e145)
                    replace hx145_0 := (HB.out.cell (World.block_lt_of_cell? w _ hx145_0)).trans hx145_0
                    replace hx145_1 := (HB.out.cell (World.block_lt_of_cell? w _ hx145_1)).trans hx145_1
                    replace hx145_2 := (HB.out.cell (World.block_lt_of_cell? w _ hx145_2)).trans hx145_2
                    replace hx145_3 := (HB.out.cell (World.block_lt_of_cell? w _ hx145_3)).trans hx145_3
                    replace hx145_4 := (HB.out.cell (World.block_lt_of_cell? w _ hx145_4)).trans hx145_4
                    replace hx145_5 := (HB.out.cell (World.block_lt_of_cell? w _ hx145_5)).trans hx145_5
                    replace hx145_6 := (HB.out.cell (World.block_lt_of_cell? w _ hx145_6)).trans hx145_6
                    replace hx145_7 := (HB.out.cell (World.block_lt_of_cell? w _ hx145_7)).trans hx145_7
                    replace hx145_8 := (HB.out.cell (World.block_lt_of_cell? w _ hx145_8)).trans hx145_8
                    replace hx145_9 := (HB.out.cell (World.block_lt_of_cell? w _ hx145_9)).trans hx145_9
                    replace hx145_10 := (HB.out.cell (World.block_lt_of_cell? w _ hx145_10)).trans hx145_10
                    replace hx145_11 := (HB.out.cell (World.block_lt_of_cell? w _ hx145_11)).trans hx145_11
                    have HR145_10 := Aside0.mk hi145_10
                    have HC145_10 := Aside0.mk hl145_10
                    clear hi145_10 hl145_10
                    have HR145_11 := Aside0.mk hi145_11
                    have HC145_11 := Aside0.mk hl145_11
                    clear hi145_11 hl145_11
                    replace p145 := eq_true p145
                    replace q145 := eq_true q145
                    have p146 : 0 ≤ (x8_1 : Int) := of_decide_eq_true (by first | (with_reducible assumption) | assumption)
                    have q146 : x8_1 < (l0.length : Int) := of_decide_eq_true (by first | (with_reducible assumption) | assumption)
                    obtain ⟨ad146, A146_10, c146_10, A146_11, c146_11, e146, hx146_0, hx146_1, hx146_2, hx146_3, hx146_4, hx146_5, hx146_6, hx146_7, hx146_8, hx146_9, hx146_10, hx146_11, hl146_10, hi146_10, hl146_11, hi146_11⟩ := at_T58 HR0.out x8_1 p146 q146
                    have hw146_11 := hx146_11
                    have hw146_10 := hx146_10
                    have hw146_9 := hx146_9
                    have hw146_8 := hx146_8
                    have hw146_7 := hx146_7
                    have hw146_6 := hx146_6
                    have hw146_5 := hx146_5
                    have hw146_4 := hx146_4
                    have hw146_3 := hx146_3
                    have hw146_2 := hx146_2
                    have hw146_1 := hx146_1
                    have hw146_0 := hx146_0
                    obtain rfl : ad142 = ad146 := (by injection e146)
                    replace hx146_0 := (HB.out.cell (World.block_lt_of_cell? w _ hx146_0)).trans hx146_0
                    replace hx146_1 := (HB.out.cell (World.block_lt_of_cell? w _ hx146_1)).trans hx146_1
                    replace hx146_2 := (HB.out.cell (World.block_lt_of_cell? w _ hx146_2)).trans hx146_2
                    replace hx146_3 := (HB.out.cell (World.block_lt_of_cell? w _ hx146_3)).trans hx146_3
                    replace hx146_4 := (HB.out.cell (World.block_lt_of_cell? w _ hx146_4)).trans hx146_4
                    replace hx146_5 := (HB.out.cell (World.block_lt_of_cell? w _ hx146_5)).trans hx146_5
                    replace hx146_6 := (HB.out.cell (World.block_lt_of_cell? w _ hx146_6)).trans hx146_6
                    replace hx146_7 := (HB.out.cell (World.block_lt_of_cell? w _ hx146_7)).trans hx146_7
                    replace hx146_8 := (HB.out.cell (World.block_lt_of_cell? w _ hx146_8)).trans hx146_8
                    replace hx146_9 := (HB.out.cell (World.block_lt_of_cell? w _ hx146_9)).trans hx146_9
                    replace hx146_10 := (HB.out.cell (World.block_lt_of_cell? w _ hx146_10)).trans hx146_10
                    replace hx146_11 := (HB.out.cell (World.block_lt_of_cell? w _ hx146_11)).trans hx146_11
                    have HR146_10 := Aside0.mk hi146_10
                    have HC146_10 := Aside0.mk hl146_10
                    clear hi146_10 hl146_10
                    have HR146_11 := Aside0.mk hi146_11
                    have HC146_11 := Aside0.mk hl146_11
                    clear hi146_11 hl146_11
                    replace p146 := eq_true p146
                    replace q146 := eq_true q146
                    have ea_ := Option.some.inj (hx145_10.symm.trans hx146_10)
                    injection ea_ with ea_ en_ ec_
                    subst ea_
                    subst ec_
                    clear en_
                    have ea_ := Option.some.inj (hx145_11.symm.trans hx146_11)
                    injection ea_ with ea_ en_ ec_
                    subst ea_
                    subst ec_
                    clear en_
                    refine start_ (n := 19) (S := fun w' => w'.cell? (ad144.add ((((rd_T58 l0 x8_1).f1.f2)).toNat * 2)) = some (.int .i64 ((rd_T23 x7_1 ((rd_T58 l0 x8_1).f1.f2)).f0)) ∧ w'.cell? ⟨(ad144.add ((((rd_T58 l0 x8_1).f1.f2)).toNat * 2)).block, (ad144.add ((((rd_T58 l0 x8_1).f1.f2)).toNat * 2)).off + 1, none⟩ = some (.string ((rd_T23 x7_1 ((rd_T58 l0 x8_1).f1.f2)).f1)) ∧ w'.cell? (ad142.add ((x8_1).toNat * 12)) = some (.int .i64 ((rd_T58 l0 x8_1).f0)) ∧ w'.cell? ⟨(ad142.add ((x8_1).toNat * 12)).block, (ad142.add ((x8_1).toNat * 12)).off + 1, none⟩ = some (.int .i64 ((rd_T58 l0 x8_1).f1.f0)) ∧ w'.cell? ⟨(ad142.add ((x8_1).toNat * 12)).block, (ad142.add ((x8_1).toNat * 12)).off + 2, none⟩ = some (.int .i64 ((rd_T58 l0 x8_1).f1.f1)) ∧ w'.cell? ⟨(ad142.add ((x8_1).toNat * 12)).block, (ad142.add ((x8_1).toNat * 12)).off + 3, none⟩ = some (.int .i64 ((rd_T58 l0 x8_1).f1.f2)) ∧ w'.cell? ⟨(ad142.add ((x8_1).toNat * 12)).block, (ad142.add ((x8_1).toNat * 12)).off + 4, none⟩ = some (.int .i64 ((rd_T58 l0 x8_1).f1.f3)) ∧ w'.cell? ⟨(ad142.add ((x8_1).toNat * 12)).block, (ad142.add ((x8_1).toNat * 12)).off + 5, none⟩ = some (.int .i64 ((rd_T58 l0 x8_1).f1.f4)) ∧ w'.cell? ⟨(ad142.add ((x8_1).toNat * 12)).block, (ad142.add ((x8_1).toNat * 12)).off + 6, none⟩ = some (.int .i64 ((rd_T58 l0 x8_1).f1.f5)) ∧ w'.cell? ⟨(ad142.add ((x8_1).toNat * 12)).block, (ad142.add ((x8_1).toNat * 12)).off + 7, none⟩ = some (.int .i64 ((rd_T58 l0 x8_1).f1.f6)) ∧ w'.cell? ⟨(ad142.add ((x8_1).toNat * 12)).block, (ad142.add ((x8_1).toNat * 12)).off + 8, none⟩ = some (.string ((rd_T58 l0 x8_1).f1.f7)) ∧ w'.cell? ⟨(ad142.add ((x8_1).toNat * 12)).block, (ad142.add ((x8_1).toNat * 12)).off + 9, none⟩ = some (.string ((rd_T58 l0 x8_1).f1.f8)) ∧ w'.cell? ⟨(ad142.add ((x8_1).toNat * 12)).block, (ad142.add ((x8_1).toNat * 12)).off + 10, none⟩ = some (.slice A145_10 ((rd_T58 l0 x8_1).f1.f9).length c145_10) ∧ w'.cell? ⟨(ad142.add ((x8_1).toNat * 12)).block, (ad142.add ((x8_1).toNat * 12)).off + 11, none⟩ = some (.slice A145_11 ((rd_T58 l0 x8_1).f1.f10).length c145_11) ∧ w'.cell? (ad142.add ((x8_1).toNat * 12)) = some (.int .i64 ((rd_T58 l0 x8_1).f0)) ∧ w'.cell? ⟨(ad142.add ((x8_1).toNat * 12)).block, (ad142.add ((x8_1).toNat * 12)).off + 1, none⟩ = some (.int .i64 ((rd_T58 l0 x8_1).f1.f0)) ∧ w'.cell? ⟨(ad142.add ((x8_1).toNat * 12)).block, (ad142.add ((x8_1).toNat * 12)).off + 2, none⟩ = some (.int .i64 ((rd_T58 l0 x8_1).f1.f1)) ∧ w'.cell? ⟨(ad142.add ((x8_1).toNat * 12)).block, (ad142.add ((x8_1).toNat * 12)).off + 3, none⟩ = some (.int .i64 ((rd_T58 l0 x8_1).f1.f2)) ∧ w'.cell? ⟨(ad142.add ((x8_1).toNat * 12)).block, (ad142.add ((x8_1).toNat * 12)).off + 4, none⟩ = some (.int .i64 ((rd_T58 l0 x8_1).f1.f3)) ∧ w'.cell? ⟨(ad142.add ((x8_1).toNat * 12)).block, (ad142.add ((x8_1).toNat * 12)).off + 5, none⟩ = some (.int .i64 ((rd_T58 l0 x8_1).f1.f4)) ∧ w'.cell? ⟨(ad142.add ((x8_1).toNat * 12)).block, (ad142.add ((x8_1).toNat * 12)).off + 6, none⟩ = some (.int .i64 ((rd_T58 l0 x8_1).f1.f5)) ∧ w'.cell? ⟨(ad142.add ((x8_1).toNat * 12)).block, (ad142.add ((x8_1).toNat * 12)).off + 7, none⟩ = some (.int .i64 ((rd_T58 l0 x8_1).f1.f6)) ∧ w'.cell? ⟨(ad142.add ((x8_1).toNat * 12)).block, (ad142.add ((x8_1).toNat * 12)).off + 8, none⟩ = some (.string ((rd_T58 l0 x8_1).f1.f7)) ∧ w'.cell? ⟨(ad142.add ((x8_1).toNat * 12)).block, (ad142.add ((x8_1).toNat * 12)).off + 9, none⟩ = some (.string ((rd_T58 l0 x8_1).f1.f8)) ∧ w'.cell? ⟨(ad142.add ((x8_1).toNat * 12)).block, (ad142.add ((x8_1).toNat * 12)).off + 10, none⟩ = some (.slice A145_10 ((rd_T58 l0 x8_1).f1.f9).length c145_10) ∧ w'.cell? ⟨(ad142.add ((x8_1).toNat * 12)).block, (ad142.add ((x8_1).toNat * 12)).off + 11, none⟩ = some (.slice A145_11 ((rd_T58 l0 x8_1).f1.f10).length c145_11)) (ds := [18]) #[false, false, false, false, false, false, false, false, false, false, false, false, false, false, false, false, false, false, false] (by kernel_rfl) rfl rfl ⟨hx144_0, hx144_1, ((HB.out.cell (World.block_lt_of_cell? w _ hw145_0)).trans hw145_0), ((HB.out.cell (World.block_lt_of_cell? w _ hw145_1)).trans hw145_1), ((HB.out.cell (World.block_lt_of_cell? w _ hw145_2)).trans hw145_2), ((HB.out.cell (World.block_lt_of_cell? w _ hw145_3)).trans hw145_3), ((HB.out.cell (World.block_lt_of_cell? w _ hw145_4)).trans hw145_4), ((HB.out.cell (World.block_lt_of_cell? w _ hw145_5)).trans hw145_5), ((HB.out.cell (World.block_lt_of_cell? w _ hw145_6)).trans hw145_6), ((HB.out.cell (World.block_lt_of_cell? w _ hw145_7)).trans hw145_7), ((HB.out.cell (World.block_lt_of_cell? w _ hw145_8)).trans hw145_8), ((HB.out.cell (World.block_lt_of_cell? w _ hw145_9)).trans hw145_9), ((HB.out.cell (World.block_lt_of_cell? w _ hw145_10)).trans hw145_10), ((HB.out.cell (World.block_lt_of_cell? w _ hw145_11)).trans hw145_11), ((HB.out.cell (World.block_lt_of_cell? w _ hw146_0)).trans hw146_0), ((HB.out.cell (World.block_lt_of_cell? w _ hw146_1)).trans hw146_1), ((HB.out.cell (World.block_lt_of_cell? w _ hw146_2)).trans hw146_2), ((HB.out.cell (World.block_lt_of_cell? w _ hw146_3)).trans hw146_3), ((HB.out.cell (World.block_lt_of_cell? w _ hw146_4)).trans hw146_4), ((HB.out.cell (World.block_lt_of_cell? w _ hw146_5)).trans hw146_5), ((HB.out.cell (World.block_lt_of_cell? w _ hw146_6)).trans hw146_6), ((HB.out.cell (World.block_lt_of_cell? w _ hw146_7)).trans hw146_7), ((HB.out.cell (World.block_lt_of_cell? w _ hw146_8)).trans hw146_8), ((HB.out.cell (World.block_lt_of_cell? w _ hw146_9)).trans hw146_9), ((HB.out.cell (World.block_lt_of_cell? w _ hw146_10)).trans hw146_10), ((HB.out.cell (World.block_lt_of_cell? w _ hw146_11)).trans hw146_11)⟩ (fun hHeld => ?_); refine with_tabW careenref14_Pages.tab7 careenref14_Pages.bits7 (fun HT_ HW_ => ?_)
                    generalize wr.drew = w17 at HO_7 HB HR145_10 HR145_11 HR146_10 HR146_11 hx144_0 hx144_1 hx145_0 hx145_1 hx145_10 hx145_11 hx145_2 hx145_3 hx145_4 hx145_5 hx145_6 hx145_7 hx145_8 hx145_9 hx146_0 hx146_1 hx146_10 hx146_11 hx146_2 hx146_3 hx146_4 hx146_5 hx146_6 hx146_7 hx146_8 hx146_9 hHeld ⊢
                    refine pure_ (i := 0) (N := some 42) (v := ?_) (a' := ?_) #[true, false, false, false, false, false, false, false, false, false, false, false, false, false, false, false, false, false, false] rfl rfl (any_of HT_.out (by kernel_rfl)) (fun _ _ _ h => h) (Or.inl ⟨by rfl, ?_⟩) ?_ ?_
                    rotate_left
                    · intro w'
                      go_simp
                      with_reducible rfl
                    rotate_left
                    · simp only [Act.put, List.setIfInBounds_toArray, List.set_cons_zero, List.set_cons_succ, i64_w, i32_w]
                      rfl
                    refine pure_ (i := 1) (N := some 43) (v := ?_) (a' := ?_) #[true, true, false, false, false, false, false, false, false, false, false, false, false, false, false, false, false, false, false] rfl rfl (any_of HT_.out (by kernel_rfl)) (fun _ _ _ h => h) (Or.inl ⟨by rfl, ?_⟩) ?_ ?_
                    rotate_left
                    · intro w'
                      go_simp
                      with_reducible rfl
                    rotate_left
                    · simp only [Act.put, List.setIfInBounds_toArray, List.set_cons_zero, List.set_cons_succ, i64_w, i32_w]
                      rfl
                    refine pure_ (i := 2) (N := some 44) (v := ?_) (a' := ?_) #[true, true, true, false, false, false, false, false, false, false, false, false, false, false, false, false, false, false, false] rfl rfl (any_of HT_.out (by kernel_rfl)) (fun _ _ _ h => h) (Or.inl ⟨by rfl, ?_⟩) ?_ ?_
                    rotate_left
                    · intro w'
                      go_simp
                      with_reducible rfl
                    rotate_left
                    · simp only [Act.put, List.setIfInBounds_toArray, List.set_cons_zero, List.set_cons_succ, i64_w, i32_w]
                      rfl
                    refine pure_ (i := 3) (N := some 45) (v := ?_) (a' := ?_) #[true, true, true, true, false, false, false, false, false, false, false, false, false, false, false, false, false, false, false] rfl rfl (any_of HT_.out (by kernel_rfl)) (fun _ _ _ h => h) (Or.inl ⟨by rfl, ?_⟩) ?_ ?_
                    rotate_left
                    · intro w'
                      go_simp
                      with_reducible rfl
                    rotate_left
                    · simp only [Act.put, List.setIfInBounds_toArray, List.set_cons_zero, List.set_cons_succ, i64_w, i32_w]
                      rfl
                    refine pure_ (i := 4) (N := some 46) (v := ?_) (a' := ?_) #[true, true, true, true, true, false, false, false, false, false, false, false, false, false, false, false, false, false, false] rfl rfl (any_of HT_.out (by kernel_rfl)) (fun _ _ _ h => h) (Or.inl ⟨by rfl, ?_⟩) ?_ ?_
                    rotate_left
                    · intro w'
                      go_simp
                      with_reducible rfl
                    rotate_left
                    · simp only [Act.put, List.setIfInBounds_toArray, List.set_cons_zero, List.set_cons_succ, i64_w, i32_w]
                      rfl
                    refine pure_ (i := 6) (N := some 48) (v := ?_) (a' := ?_) #[true, true, true, true, true, false, true, false, false, false, false, false, false, false, false, false, false, false, false] rfl rfl (any_of HT_.out (by kernel_rfl)) (fun _ _ _ h => h) (Or.inl ⟨by rfl, ?_⟩) ?_ ?_
                    rotate_left
                    · intro w'
                      go_simp
                      with_reducible rfl
                    rotate_left
                    · simp only [Act.put, List.setIfInBounds_toArray, List.set_cons_zero, List.set_cons_succ, i64_w, i32_w]
                      rfl
                    refine pure_ (i := 7) (N := some 49) (v := ?_) (a' := ?_) #[true, true, true, true, true, false, true, true, false, false, false, false, false, false, false, false, false, false, false] rfl rfl (any_of HT_.out (by kernel_rfl)) (fun _ _ _ h => h) (Or.inl ⟨by rfl, ?_⟩) ?_ ?_
                    rotate_left
                    · intro w'
                      go_simp
                      with_reducible rfl
                    rotate_left
                    · simp only [Act.put, List.setIfInBounds_toArray, List.set_cons_zero, List.set_cons_succ, i64_w, i32_w]
                      rfl
                    refine pure_ (i := 8) (N := some 50) (v := ?_) (a' := ?_) #[true, true, true, true, true, false, true, true, true, false, false, false, false, false, false, false, false, false, false] rfl rfl (any_of HT_.out (by kernel_rfl)) (fun _ _ _ h => h) (Or.inl ⟨by rfl, ?_⟩) ?_ ?_
                    rotate_left
                    · intro w'
                      go_simp
                      with_reducible rfl
                    rotate_left
                    · simp only [Act.put, List.setIfInBounds_toArray, List.set_cons_zero, List.set_cons_succ, i64_w, i32_w]
                      rfl
                    refine pure_ (i := 9) (N := some 51) (v := ?_) (a' := ?_) #[true, true, true, true, true, false, true, true, true, true, false, false, false, false, false, false, false, false, false] rfl rfl (any_of HT_.out (by kernel_rfl)) (fun _ _ _ h => h) (Or.inl ⟨by rfl, ?_⟩) ?_ ?_
                    rotate_left
                    · intro w'
                      go_simp
                      with_reducible rfl
                    rotate_left
                    · simp only [Act.put, List.setIfInBounds_toArray, List.set_cons_zero, List.set_cons_succ, i64_w, i32_w]
                      rfl
                    refine pure_ (i := 11) (N := some 53) (v := ?_) (a' := ?_) #[true, true, true, true, true, false, true, true, true, true, false, true, false, false, false, false, false, false, false] rfl rfl (any_of HT_.out (by kernel_rfl)) (fun _ _ _ h => h) (Or.inl ⟨by rfl, ?_⟩) ?_ ?_
                    rotate_left
                    · intro w'
                      go_simp
                      with_reducible rfl
                    rotate_left
                    · simp only [Act.put, List.setIfInBounds_toArray, List.set_cons_zero, List.set_cons_succ, i64_w, i32_w]
                      rfl
                    refine pure_ (i := 12) (N := some 54) (v := ?_) (a' := ?_) #[true, true, true, true, true, false, true, true, true, true, false, true, true, false, false, false, false, false, false] rfl rfl (any_of HT_.out (by kernel_rfl)) (fun _ _ _ h => h) (Or.inl ⟨by rfl, ?_⟩) ?_ ?_
                    rotate_left
                    · intro w'
                      go_simp
                      with_reducible rfl
                    rotate_left
                    · simp only [Act.put, List.setIfInBounds_toArray, List.set_cons_zero, List.set_cons_succ, i64_w, i32_w]
                      rfl
                    refine pure_ (i := 13) (N := some 55) (v := ?_) (a' := ?_) #[true, true, true, true, true, false, true, true, true, true, false, true, true, true, false, false, false, false, false] rfl rfl (any_of HT_.out (by kernel_rfl)) (fun _ _ _ h => h) (Or.inl ⟨by rfl, ?_⟩) ?_ ?_
                    rotate_left
                    · intro w'
                      go_simp
                      with_reducible rfl
                    rotate_left
                    · simp only [Act.put, List.setIfInBounds_toArray, List.set_cons_zero, List.set_cons_succ, i64_w, i32_w]
                      rfl
                    refine pure_ (i := 14) (N := some 56) (v := ?_) (a' := ?_) #[true, true, true, true, true, false, true, true, true, true, false, true, true, true, true, false, false, false, false] rfl rfl (any_of HT_.out (by kernel_rfl)) (fun _ _ _ h => h) (Or.inl ⟨by rfl, ?_⟩) ?_ ?_
                    rotate_left
                    · intro w'
                      go_simp
                      with_reducible rfl
                    rotate_left
                    · simp only [Act.put, List.setIfInBounds_toArray, List.set_cons_zero, List.set_cons_succ, i64_w, i32_w]
                      rfl
                    refine take_ (i := 5) (N := some 47) (v := ?_) (a' := ?_) #[true, true, true, true, true, true, true, true, true, true, false, true, true, true, true, false, false, false, false] rfl rfl (take_ofW HT_.out HW_.out (by kernel_rfl)) (fun _ _ _ h => h) (Or.inl ⟨by rfl, ?_⟩) hHeld ?_ ?_
                    rotate_left
                    · rintro w' ⟨s0, s1, s2, s3, s4, s5, s6, s7, s8, s9, s10, s11, s12, s13, s14, s15, s16, s17, s18, s19, s20, s21, s22, s23, s24, s25⟩
                      go_simp
                      with_reducible rfl
                    rotate_left
                    · simp only [Act.put, List.setIfInBounds_toArray, List.set_cons_zero, List.set_cons_succ, i64_w, i32_w]
                      rfl
                    refine take_ (i := 10) (N := some 52) (v := ?_) (a' := ?_) #[true, true, true, true, true, true, true, true, true, true, true, true, true, true, true, false, false, false, false] rfl rfl (take_ofW HT_.out HW_.out (by kernel_rfl)) (fun _ _ _ h => h) (Or.inl ⟨by rfl, ?_⟩) hHeld ?_ ?_
                    rotate_left
                    · rintro w' ⟨s0, s1, s2, s3, s4, s5, s6, s7, s8, s9, s10, s11, s12, s13, s14, s15, s16, s17, s18, s19, s20, s21, s22, s23, s24, s25⟩
                      go_simp
                      with_reducible rfl
                    rotate_left
                    · simp only [Act.put, List.setIfInBounds_toArray, List.set_cons_zero, List.set_cons_succ, i64_w, i32_w]
                      rfl
                    refine take_ (i := 15) (N := some 57) (v := ?_) (a' := ?_) #[true, true, true, true, true, true, true, true, true, true, true, true, true, true, true, true, false, false, false] rfl rfl (take_ofW HT_.out HW_.out (by kernel_rfl)) (fun _ _ _ h => h) (Or.inl ⟨by rfl, ?_⟩) hHeld ?_ ?_
                    rotate_left
                    · rintro w' ⟨s0, s1, s2, s3, s4, s5, s6, s7, s8, s9, s10, s11, s12, s13, s14, s15, s16, s17, s18, s19, s20, s21, s22, s23, s24, s25⟩
                      go_simp
                      with_reducible rfl
                    rotate_left
                    · simp only [Act.put, List.setIfInBounds_toArray, List.set_cons_zero, List.set_cons_succ, i64_w, i32_w]
                      rfl
                    refine one_ (i := 16) (N := some 58) #[true, true, true, true, true, true, true, true, true, true, true, true, true, true, true, true, true, false, false] rfl rfl (one_of HT_.out (by kernel_rfl)) (by decide) (fun K hK => ?_)
                    refine goes_ Try.func26 (by kernel_rfl) rfl #[.agg #[.int .i64 ((rd_T23 x7_1 ((rd_T58 l0 x8_1).f1.f2)).f0), .string ((rd_T23 x7_1 ((rd_T58 l0 x8_1).f1.f2)).f1)], .int .i64 ((rd_T58 l0 x8_1).f0), .agg #[.int .i64 ((rd_T58 l0 x8_1).f1.f0), .int .i64 ((rd_T58 l0 x8_1).f1.f1), .int .i64 ((rd_T58 l0 x8_1).f1.f2), .int .i64 ((rd_T58 l0 x8_1).f1.f3), .int .i64 ((rd_T58 l0 x8_1).f1.f4), .int .i64 ((rd_T58 l0 x8_1).f1.f5), .int .i64 ((rd_T58 l0 x8_1).f1.f6), .string ((rd_T58 l0 x8_1).f1.f7), .string ((rd_T58 l0 x8_1).f1.f8), .slice A145_10 ((rd_T58 l0 x8_1).f1.f9).length c145_10, .slice A145_11 ((rd_T58 l0 x8_1).f1.f10).length c145_11]] (by rfl) rfl rfl (by (try simp only [List.map_toArray, List.map_cons, List.map_nil]); first | done | rfl | (simp only [List.length_drop, List.length_take]; rfl)) ?_
                    with_reducible refine (careenref06_Apply.calls k1 ((rd_T23 x7_1 ((rd_T58 l0 x8_1).f1.f2)).f0) ((rd_T23 x7_1 ((rd_T58 l0 x8_1).f1.f2)).f1) ((rd_T58 l0 x8_1).f0) ((rd_T58 l0 x8_1).f1.f0) ((rd_T58 l0 x8_1).f1.f1) ((rd_T58 l0 x8_1).f1.f2) ((rd_T58 l0 x8_1).f1.f3) ((rd_T58 l0 x8_1).f1.f4) ((rd_T58 l0 x8_1).f1.f5) ((rd_T58 l0 x8_1).f1.f6) ((rd_T58 l0 x8_1).f1.f7) ((rd_T58 l0 x8_1).f1.f8) _ _ ((rd_T58 l0 x8_1).f1.f9) _ _ ((rd_T58 l0 x8_1).f1.f10) t147 t148 _ ?side1 ?side2 ?side3 ?side4 A14.out).mono ?_
                    (case side1 => repeat (first | exact (Kd.C_below HR146_10.out HB.out) | (with_reducible refine Kd.C_alloc ?_ _) | (with_reducible refine Kd.C_drewN ?_ _) | (with_reducible refine Kd.C_drew ?_)))
                    (case side2 => exact HC146_10.out)
                    (case side3 => repeat (first | exact (Kd.C_below HR146_11.out HB.out) | (with_reducible refine Kd.C_alloc ?_ _) | (with_reducible refine Kd.C_drewN ?_ _) | (with_reducible refine Kd.C_drew ?_)))
                    (case side4 => exact HC146_11.out)
                    rintro e w18 ⟨rfl, hb⟩
                    have HS0_ := (hb.cell (World.block_lt_of_cell? _ _ (hHeld.1))).trans (hHeld.1)
                    have HS1_ := (hb.cell (World.block_lt_of_cell? _ _ (hHeld.2.1))).trans (hHeld.2.1)
                    refine ⟨_, rfl, ?_⟩
                    have n0_ := Aside0.mk (Kd.R_below (by (with_reducible repeat (first | apply Kd.R_alloc | apply Kd.R_drewN | apply Kd.R_drew)); exact HO_7.out) hb)
                    have n1_ := Aside0.mk (below_step (by repeat (first | (with_reducible first | exact HB.out | apply below_alloc | apply pw_below_drewN | apply below_drew1) | exact HB.out)) hb)
                    clear HO_7
                    clear HB
                    have HO_7 := n0_
                    have HB := n1_
                    clear n0_ n1_
                    (try clear hb)
                    (try clear hb2)
                    (try clear hk)
                    (try clear hi)
                    have p15 : 0 ≤ (((rd_T58 l0 x8_1).f1.f2) : Int) := of_decide_eq_true (by first | (with_reducible assumption) | assumption)
                    have q15 : (((rd_T58 l0 x8_1).f1.f2) : Int) < ((x7_1.length : Int) : Int) := of_decide_eq_true (by first | (with_reducible assumption) | assumption)
                    obtain ⟨go15, co15, eo15, gb15, gl15, cl15, HG15⟩ := Kd.R_form HO_7.out (by omega)
                    (first | cases eo15 | (injection eo15 with ea_ en_ ec_; (first | subst ea_ | (injection ea_ with ea_; subst ea_)); subst ec_; clear en_))
                    have GB15 := Aside0.mk gb15
                    have GG15 := Aside0.mk HG15
                    clear gb15 gl15 HG15
                    (first | simp only [add_plain] at hx144_0 | skip)
                    (first | simp only [add_plain] at hx144_1 | skip)
                    obtain ⟨ce15, hcl15, hM15, hcc15, hfr15⟩ := Kd.R_elem HO_7.out z23 (((rd_T58 l0 x8_1).f1.f2) : Int) p15 q15
                    obtain rfl := k23_openM hM15
                    have hx15_0 : World.cell? _ ⟨go15, (((rd_T58 l0 x8_1).f1.f2) : Int).toNat * 2, none⟩ = some (.int .i64 ((rd_T23 x7_1 ((rd_T58 l0 x8_1).f1.f2)).f0)) := hcc15 0 _ rfl
                    have hx15_1 : World.cell? _ ⟨go15, (((rd_T58 l0 x8_1).f1.f2) : Int).toNat * 2 + 1, none⟩ = some (.string ((rd_T23 x7_1 ((rd_T58 l0 x8_1).f1.f2)).f1)) := hcc15 1 _ rfl
                    have hf15_0 : World.frozen? _ ⟨go15, (((rd_T58 l0 x8_1).f1.f2) : Int).toNat * 2, none⟩ = false := hfr15 0
                    have hf15_1 : World.frozen? _ ⟨go15, (((rd_T58 l0 x8_1).f1.f2) : Int).toNat * 2 + 1, none⟩ = false := hfr15 1
                    clear hcl15 hcc15 hfr15 hM15
                    replace p15 := eq_true p15
                    replace q15 := eq_true q15
                    obtain ⟨ce19, hcl19, hM19, hcc19, hfr19⟩ := Kd.R_elem HO_7.out z23 (((rd_T58 l0 x8_1).f1.f2) : Int) (of_decide_eq_true (by first | (with_reducible assumption) | assumption)) (by have h_ : (((rd_T58 l0 x8_1).f1.f2) : Int) < ((x7_1.length : Int) : Int) := of_decide_eq_true (by first | (with_reducible assumption) | assumption); first | exact h_ | (have e_ := (Kd.R_reads' HO_7.out).1; omega) | simpa using h_)
                    obtain rfl := k23_openM hM19
                    have HP19 := (Kd.R_seg HO_7.out (((rd_T58 l0 x8_1).f1.f2) : Int) (of_decide_eq_true (by first | (with_reducible assumption) | assumption)) (by have h_ : (((rd_T58 l0 x8_1).f1.f2) : Int) < ((x7_1.length : Int) : Int) := of_decide_eq_true (by first | (with_reducible assumption) | assumption); first | exact h_ | (have e_ := (Kd.R_reads' HO_7.out).1; omega) | simpa using h_) (seg := [.int .i64 t147, .string t148]) (j := 0) hcl19 hcc19 (show 2 ≤ 2 from by decide) (x' := (⟨t147, t148⟩ : S23)) (k23_mkM _ _ _ (⟨t147, t148⟩ : S23) ) (fun _ hk => hk)).1
                    rw [← Ny149.out] at HP19
                    have HQ19 := Aside0.mk HP19
                    clear hcl19 hcc19 hfr19 hM19 HP19
                    refine hK.out _ _ ⟨HS0_, HS1_, ((HB.out.cell (World.block_lt_of_cell? w _ hw145_0)).trans hw145_0), ((HB.out.cell (World.block_lt_of_cell? w _ hw145_1)).trans hw145_1), ((HB.out.cell (World.block_lt_of_cell? w _ hw145_2)).trans hw145_2), ((HB.out.cell (World.block_lt_of_cell? w _ hw145_3)).trans hw145_3), ((HB.out.cell (World.block_lt_of_cell? w _ hw145_4)).trans hw145_4), ((HB.out.cell (World.block_lt_of_cell? w _ hw145_5)).trans hw145_5), ((HB.out.cell (World.block_lt_of_cell? w _ hw145_6)).trans hw145_6), ((HB.out.cell (World.block_lt_of_cell? w _ hw145_7)).trans hw145_7), ((HB.out.cell (World.block_lt_of_cell? w _ hw145_8)).trans hw145_8), ((HB.out.cell (World.block_lt_of_cell? w _ hw145_9)).trans hw145_9), ((HB.out.cell (World.block_lt_of_cell? w _ hw145_10)).trans hw145_10), ((HB.out.cell (World.block_lt_of_cell? w _ hw145_11)).trans hw145_11), ((HB.out.cell (World.block_lt_of_cell? w _ hw146_0)).trans hw146_0), ((HB.out.cell (World.block_lt_of_cell? w _ hw146_1)).trans hw146_1), ((HB.out.cell (World.block_lt_of_cell? w _ hw146_2)).trans hw146_2), ((HB.out.cell (World.block_lt_of_cell? w _ hw146_3)).trans hw146_3), ((HB.out.cell (World.block_lt_of_cell? w _ hw146_4)).trans hw146_4), ((HB.out.cell (World.block_lt_of_cell? w _ hw146_5)).trans hw146_5), ((HB.out.cell (World.block_lt_of_cell? w _ hw146_6)).trans hw146_6), ((HB.out.cell (World.block_lt_of_cell? w _ hw146_7)).trans hw146_7), ((HB.out.cell (World.block_lt_of_cell? w _ hw146_8)).trans hw146_8), ((HB.out.cell (World.block_lt_of_cell? w _ hw146_9)).trans hw146_9), ((HB.out.cell (World.block_lt_of_cell? w _ hw146_10)).trans hw146_10), ((HB.out.cell (World.block_lt_of_cell? w _ hw146_11)).trans hw146_11)⟩ (fun hHeld => ?_)
                    clear hK K
                    refine norm_ (a' := ?_) ?_ ?_
                    rotate_left
                    · show Act.put _ (some 58) _ = _
                      simp only [Act.put, List.setIfInBounds_toArray, List.set_cons_zero, List.set_cons_succ, i64_w, i32_w]
                      rfl
                    refine pure_ (i := 17) (N := some 59) (v := ?_) (a' := ?_) #[true, true, true, true, true, true, true, true, true, true, true, true, true, true, true, true, true, true, false] rfl rfl (any_of HT_.out (by kernel_rfl)) (fun _ _ _ h => h) (Or.inl ⟨by rfl, ?_⟩) ?_ ?_
                    rotate_left
                    · intro w'
                      go_simp
                      with_reducible rfl
                    rotate_left
                    · simp only [Act.put, List.setIfInBounds_toArray, List.set_cons_zero, List.set_cons_succ, i64_w, i32_w]
                      rfl
                    refine last_ (i := 18) (N := none) #[true, true, true, true, true, true, true, true, true, true, true, true, true, true, true, true, true, true, true] rfl rfl (one_of HT_.out (by kernel_rfl)) (by decide) (fun K hK => ?_)
                    refine skip_ (w1 := ?_) (by rfl) rfl ?_ ?_
                    rotate_left
                    · go_simp
                      rfl
                    refine hK.out _ _ ?_
                    clear hK K
                    refine done_ (done_of HT_.out (by kernel_rfl)) ?_
                    try go_wp2
                    go_roundg k1
                    case measure => have := HK1.out; omega
                    case rel => exact ⟨(y149), (wrap64 (x8_1 + 1)), (by first | rfl | (simp; done) | (simp [*]; done)), H', ⟨by have := HK1.out; omega⟩, ⟨by (with_reducible repeat (first | apply Kd.R_alloc | apply Kd.R_drewN | apply Kd.R_drew)); exact HQ19.out⟩, ⟨by repeat (first | (with_reducible first | exact HB.out | apply below_alloc | apply pw_below_drewN | apply below_drew1 | refine below_set ?_ GB15.out | refine below_set ?_ GB15.out) | exact HB.out)⟩⟩
                  · rw [if_neg c13] at H
                    exact absurd H (by simp)
                · rw [if_neg c12] at H
                  have c12b0 : decide (((rd_T58 l0 x8_1).f1.f2) < (x7_1.length : Int)) = false := decide_eq_false c12
                  clear c12
                  have H' := Aside0.mk H
                  clear H
                  have p142 : 0 ≤ (x8_1 : Int) := of_decide_eq_true (by first | (with_reducible assumption) | assumption)
                  have q142 : x8_1 < (l0.length : Int) := of_decide_eq_true (by first | (with_reducible assumption) | assumption)
                  obtain ⟨ad142, A142_10, c142_10, A142_11, c142_11, e142, hx142_0, hx142_1, hx142_2, hx142_3, hx142_4, hx142_5, hx142_6, hx142_7, hx142_8, hx142_9, hx142_10, hx142_11, hl142_10, hi142_10, hl142_11, hi142_11⟩ := at_T58 HR0.out x8_1 p142 q142
                  cases e142
                  replace hx142_0 := (HB.out.cell (World.block_lt_of_cell? w _ hx142_0)).trans hx142_0
                  replace hx142_1 := (HB.out.cell (World.block_lt_of_cell? w _ hx142_1)).trans hx142_1
                  replace hx142_2 := (HB.out.cell (World.block_lt_of_cell? w _ hx142_2)).trans hx142_2
                  replace hx142_3 := (HB.out.cell (World.block_lt_of_cell? w _ hx142_3)).trans hx142_3
                  replace hx142_4 := (HB.out.cell (World.block_lt_of_cell? w _ hx142_4)).trans hx142_4
                  replace hx142_5 := (HB.out.cell (World.block_lt_of_cell? w _ hx142_5)).trans hx142_5
                  replace hx142_6 := (HB.out.cell (World.block_lt_of_cell? w _ hx142_6)).trans hx142_6
                  replace hx142_7 := (HB.out.cell (World.block_lt_of_cell? w _ hx142_7)).trans hx142_7
                  replace hx142_8 := (HB.out.cell (World.block_lt_of_cell? w _ hx142_8)).trans hx142_8
                  replace hx142_9 := (HB.out.cell (World.block_lt_of_cell? w _ hx142_9)).trans hx142_9
                  replace hx142_10 := (HB.out.cell (World.block_lt_of_cell? w _ hx142_10)).trans hx142_10
                  replace hx142_11 := (HB.out.cell (World.block_lt_of_cell? w _ hx142_11)).trans hx142_11
                  have HR142_10 := Aside0.mk hi142_10
                  have HC142_10 := Aside0.mk hl142_10
                  clear hi142_10 hl142_10
                  have HR142_11 := Aside0.mk hi142_11
                  have HC142_11 := Aside0.mk hl142_11
                  clear hi142_11 hl142_11
                  replace p142 := eq_true p142
                  replace q142 := eq_true q142
                  have p143 : 0 ≤ (x8_1 : Int) := of_decide_eq_true (by first | (with_reducible assumption) | assumption)
                  have q143 : x8_1 < (l0.length : Int) := of_decide_eq_true (by first | (with_reducible assumption) | assumption)
                  obtain ⟨ad143, A143_10, c143_10, A143_11, c143_11, e143, hx143_0, hx143_1, hx143_2, hx143_3, hx143_4, hx143_5, hx143_6, hx143_7, hx143_8, hx143_9, hx143_10, hx143_11, hl143_10, hi143_10, hl143_11, hi143_11⟩ := at_T58 HR0.out x8_1 p143 q143
                  obtain rfl : ad142 = ad143 := (by injection e143)
                  replace hx143_0 := (HB.out.cell (World.block_lt_of_cell? w _ hx143_0)).trans hx143_0
                  replace hx143_1 := (HB.out.cell (World.block_lt_of_cell? w _ hx143_1)).trans hx143_1
                  replace hx143_2 := (HB.out.cell (World.block_lt_of_cell? w _ hx143_2)).trans hx143_2
                  replace hx143_3 := (HB.out.cell (World.block_lt_of_cell? w _ hx143_3)).trans hx143_3
                  replace hx143_4 := (HB.out.cell (World.block_lt_of_cell? w _ hx143_4)).trans hx143_4
                  replace hx143_5 := (HB.out.cell (World.block_lt_of_cell? w _ hx143_5)).trans hx143_5
                  replace hx143_6 := (HB.out.cell (World.block_lt_of_cell? w _ hx143_6)).trans hx143_6
                  replace hx143_7 := (HB.out.cell (World.block_lt_of_cell? w _ hx143_7)).trans hx143_7
                  replace hx143_8 := (HB.out.cell (World.block_lt_of_cell? w _ hx143_8)).trans hx143_8
                  replace hx143_9 := (HB.out.cell (World.block_lt_of_cell? w _ hx143_9)).trans hx143_9
                  replace hx143_10 := (HB.out.cell (World.block_lt_of_cell? w _ hx143_10)).trans hx143_10
                  replace hx143_11 := (HB.out.cell (World.block_lt_of_cell? w _ hx143_11)).trans hx143_11
                  have HR143_10 := Aside0.mk hi143_10
                  have HC143_10 := Aside0.mk hl143_10
                  clear hi143_10 hl143_10
                  have HR143_11 := Aside0.mk hi143_11
                  have HC143_11 := Aside0.mk hl143_11
                  clear hi143_11 hl143_11
                  replace p143 := eq_true p143
                  replace q143 := eq_true q143
                  have ea_ := Option.some.inj (hx142_10.symm.trans hx143_10)
                  injection ea_ with ea_ en_ ec_
                  subst ea_
                  subst ec_
                  clear en_
                  have ea_ := Option.some.inj (hx142_11.symm.trans hx143_11)
                  injection ea_ with ea_ en_ ec_
                  subst ea_
                  subst ec_
                  clear en_
                  obtain ⟨Ao20, co20, eo20⟩ := Kd.R_slice HO_7.out
                  subst eo20
                  go_wp2
                  go_roundg k1
                  case measure => have := HK1.out; omega
                  case rel => exact ⟨(x7_1), (wrap64 (x8_1 + 1)), (by first | rfl | (simp; done) | (simp [*]; done)), H', ⟨by have := HK1.out; omega⟩, ⟨by (with_reducible repeat (first | apply Kd.R_alloc | apply Kd.R_drewN | apply Kd.R_drew)); exact HO_7.out⟩, ⟨by repeat (first | (with_reducible first | exact HB.out | apply below_alloc | apply pw_below_drewN | apply below_drew1) | exact HB.out)⟩⟩
              · rw [if_neg c11] at H
                have c11b0 : decide (0 ≤ ((rd_T58 l0 x8_1).f1.f2)) = false := decide_eq_false c11
                clear c11
                have H' := Aside0.mk H
                clear H
                have p142 : 0 ≤ (x8_1 : Int) := of_decide_eq_true (by first | (with_reducible assumption) | assumption)
                have q142 : x8_1 < (l0.length : Int) := of_decide_eq_true (by first | (with_reducible assumption) | assumption)
                obtain ⟨ad142, A142_10, c142_10, A142_11, c142_11, e142, hx142_0, hx142_1, hx142_2, hx142_3, hx142_4, hx142_5, hx142_6, hx142_7, hx142_8, hx142_9, hx142_10, hx142_11, hl142_10, hi142_10, hl142_11, hi142_11⟩ := at_T58 HR0.out x8_1 p142 q142
                cases e142
                replace hx142_0 := (HB.out.cell (World.block_lt_of_cell? w _ hx142_0)).trans hx142_0
                replace hx142_1 := (HB.out.cell (World.block_lt_of_cell? w _ hx142_1)).trans hx142_1
                replace hx142_2 := (HB.out.cell (World.block_lt_of_cell? w _ hx142_2)).trans hx142_2
                replace hx142_3 := (HB.out.cell (World.block_lt_of_cell? w _ hx142_3)).trans hx142_3
                replace hx142_4 := (HB.out.cell (World.block_lt_of_cell? w _ hx142_4)).trans hx142_4
                replace hx142_5 := (HB.out.cell (World.block_lt_of_cell? w _ hx142_5)).trans hx142_5
                replace hx142_6 := (HB.out.cell (World.block_lt_of_cell? w _ hx142_6)).trans hx142_6
                replace hx142_7 := (HB.out.cell (World.block_lt_of_cell? w _ hx142_7)).trans hx142_7
                replace hx142_8 := (HB.out.cell (World.block_lt_of_cell? w _ hx142_8)).trans hx142_8
                replace hx142_9 := (HB.out.cell (World.block_lt_of_cell? w _ hx142_9)).trans hx142_9
                replace hx142_10 := (HB.out.cell (World.block_lt_of_cell? w _ hx142_10)).trans hx142_10
                replace hx142_11 := (HB.out.cell (World.block_lt_of_cell? w _ hx142_11)).trans hx142_11
                have HR142_10 := Aside0.mk hi142_10
                have HC142_10 := Aside0.mk hl142_10
                clear hi142_10 hl142_10
                have HR142_11 := Aside0.mk hi142_11
                have HC142_11 := Aside0.mk hl142_11
                clear hi142_11 hl142_11
                replace p142 := eq_true p142
                replace q142 := eq_true q142
                have p143 : 0 ≤ (x8_1 : Int) := of_decide_eq_true (by first | (with_reducible assumption) | assumption)
                have q143 : x8_1 < (l0.length : Int) := of_decide_eq_true (by first | (with_reducible assumption) | assumption)
                obtain ⟨ad143, A143_10, c143_10, A143_11, c143_11, e143, hx143_0, hx143_1, hx143_2, hx143_3, hx143_4, hx143_5, hx143_6, hx143_7, hx143_8, hx143_9, hx143_10, hx143_11, hl143_10, hi143_10, hl143_11, hi143_11⟩ := at_T58 HR0.out x8_1 p143 q143
                obtain rfl : ad142 = ad143 := (by injection e143)
                replace hx143_0 := (HB.out.cell (World.block_lt_of_cell? w _ hx143_0)).trans hx143_0
                replace hx143_1 := (HB.out.cell (World.block_lt_of_cell? w _ hx143_1)).trans hx143_1
                replace hx143_2 := (HB.out.cell (World.block_lt_of_cell? w _ hx143_2)).trans hx143_2
                replace hx143_3 := (HB.out.cell (World.block_lt_of_cell? w _ hx143_3)).trans hx143_3
                replace hx143_4 := (HB.out.cell (World.block_lt_of_cell? w _ hx143_4)).trans hx143_4
                replace hx143_5 := (HB.out.cell (World.block_lt_of_cell? w _ hx143_5)).trans hx143_5
                replace hx143_6 := (HB.out.cell (World.block_lt_of_cell? w _ hx143_6)).trans hx143_6
                replace hx143_7 := (HB.out.cell (World.block_lt_of_cell? w _ hx143_7)).trans hx143_7
                replace hx143_8 := (HB.out.cell (World.block_lt_of_cell? w _ hx143_8)).trans hx143_8
                replace hx143_9 := (HB.out.cell (World.block_lt_of_cell? w _ hx143_9)).trans hx143_9
                replace hx143_10 := (HB.out.cell (World.block_lt_of_cell? w _ hx143_10)).trans hx143_10
                replace hx143_11 := (HB.out.cell (World.block_lt_of_cell? w _ hx143_11)).trans hx143_11
                have HR143_10 := Aside0.mk hi143_10
                have HC143_10 := Aside0.mk hl143_10
                clear hi143_10 hl143_10
                have HR143_11 := Aside0.mk hi143_11
                have HC143_11 := Aside0.mk hl143_11
                clear hi143_11 hl143_11
                replace p143 := eq_true p143
                replace q143 := eq_true q143
                have ea_ := Option.some.inj (hx142_10.symm.trans hx143_10)
                injection ea_ with ea_ en_ ec_
                subst ea_
                subst ec_
                clear en_
                have ea_ := Option.some.inj (hx142_11.symm.trans hx143_11)
                injection ea_ with ea_ en_ ec_
                subst ea_
                subst ec_
                clear en_
                go_wp2
                go_roundg k1
                case measure => have := HK1.out; omega
                case rel => exact ⟨(x7_1), (wrap64 (x8_1 + 1)), (by first | rfl | (simp; done) | (simp [*]; done)), H', ⟨by have := HK1.out; omega⟩, ⟨by (with_reducible repeat (first | apply Kd.R_alloc | apply Kd.R_drewN | apply Kd.R_drew)); exact HO_7.out⟩, ⟨by repeat (first | (with_reducible first | exact HB.out | apply below_alloc | apply pw_below_drewN | apply below_drew1) | exact HB.out)⟩⟩
            · rw [if_neg c10] at H
              have c10b0 : decide (a1 ≤ ((rd_T58 l0 x8_1).f0)) = false := decide_eq_false c10
              clear c10
              have H' := Aside0.mk H
              clear H
              have p142 : 0 ≤ (x8_1 : Int) := of_decide_eq_true (by first | (with_reducible assumption) | assumption)
              have q142 : x8_1 < (l0.length : Int) := of_decide_eq_true (by first | (with_reducible assumption) | assumption)
              obtain ⟨ad142, A142_10, c142_10, A142_11, c142_11, e142, hx142_0, hx142_1, hx142_2, hx142_3, hx142_4, hx142_5, hx142_6, hx142_7, hx142_8, hx142_9, hx142_10, hx142_11, hl142_10, hi142_10, hl142_11, hi142_11⟩ := at_T58 HR0.out x8_1 p142 q142
              cases e142
              replace hx142_0 := (HB.out.cell (World.block_lt_of_cell? w _ hx142_0)).trans hx142_0
              replace hx142_1 := (HB.out.cell (World.block_lt_of_cell? w _ hx142_1)).trans hx142_1
              replace hx142_2 := (HB.out.cell (World.block_lt_of_cell? w _ hx142_2)).trans hx142_2
              replace hx142_3 := (HB.out.cell (World.block_lt_of_cell? w _ hx142_3)).trans hx142_3
              replace hx142_4 := (HB.out.cell (World.block_lt_of_cell? w _ hx142_4)).trans hx142_4
              replace hx142_5 := (HB.out.cell (World.block_lt_of_cell? w _ hx142_5)).trans hx142_5
              replace hx142_6 := (HB.out.cell (World.block_lt_of_cell? w _ hx142_6)).trans hx142_6
              replace hx142_7 := (HB.out.cell (World.block_lt_of_cell? w _ hx142_7)).trans hx142_7
              replace hx142_8 := (HB.out.cell (World.block_lt_of_cell? w _ hx142_8)).trans hx142_8
              replace hx142_9 := (HB.out.cell (World.block_lt_of_cell? w _ hx142_9)).trans hx142_9
              replace hx142_10 := (HB.out.cell (World.block_lt_of_cell? w _ hx142_10)).trans hx142_10
              replace hx142_11 := (HB.out.cell (World.block_lt_of_cell? w _ hx142_11)).trans hx142_11
              have HR142_10 := Aside0.mk hi142_10
              have HC142_10 := Aside0.mk hl142_10
              clear hi142_10 hl142_10
              have HR142_11 := Aside0.mk hi142_11
              have HC142_11 := Aside0.mk hl142_11
              clear hi142_11 hl142_11
              replace p142 := eq_true p142
              replace q142 := eq_true q142
              have p143 : 0 ≤ (x8_1 : Int) := of_decide_eq_true (by first | (with_reducible assumption) | assumption)
              have q143 : x8_1 < (l0.length : Int) := of_decide_eq_true (by first | (with_reducible assumption) | assumption)
              obtain ⟨ad143, A143_10, c143_10, A143_11, c143_11, e143, hx143_0, hx143_1, hx143_2, hx143_3, hx143_4, hx143_5, hx143_6, hx143_7, hx143_8, hx143_9, hx143_10, hx143_11, hl143_10, hi143_10, hl143_11, hi143_11⟩ := at_T58 HR0.out x8_1 p143 q143
              obtain rfl : ad142 = ad143 := (by injection e143)
              replace hx143_0 := (HB.out.cell (World.block_lt_of_cell? w _ hx143_0)).trans hx143_0
              replace hx143_1 := (HB.out.cell (World.block_lt_of_cell? w _ hx143_1)).trans hx143_1
              replace hx143_2 := (HB.out.cell (World.block_lt_of_cell? w _ hx143_2)).trans hx143_2
              replace hx143_3 := (HB.out.cell (World.block_lt_of_cell? w _ hx143_3)).trans hx143_3
              replace hx143_4 := (HB.out.cell (World.block_lt_of_cell? w _ hx143_4)).trans hx143_4
              replace hx143_5 := (HB.out.cell (World.block_lt_of_cell? w _ hx143_5)).trans hx143_5
              replace hx143_6 := (HB.out.cell (World.block_lt_of_cell? w _ hx143_6)).trans hx143_6
              replace hx143_7 := (HB.out.cell (World.block_lt_of_cell? w _ hx143_7)).trans hx143_7
              replace hx143_8 := (HB.out.cell (World.block_lt_of_cell? w _ hx143_8)).trans hx143_8
              replace hx143_9 := (HB.out.cell (World.block_lt_of_cell? w _ hx143_9)).trans hx143_9
              replace hx143_10 := (HB.out.cell (World.block_lt_of_cell? w _ hx143_10)).trans hx143_10
              replace hx143_11 := (HB.out.cell (World.block_lt_of_cell? w _ hx143_11)).trans hx143_11
              have HR143_10 := Aside0.mk hi143_10
              have HC143_10 := Aside0.mk hl143_10
              clear hi143_10 hl143_10
              have HR143_11 := Aside0.mk hi143_11
              have HC143_11 := Aside0.mk hl143_11
              clear hi143_11 hl143_11
              replace p143 := eq_true p143
              replace q143 := eq_true q143
              have ea_ := Option.some.inj (hx142_10.symm.trans hx143_10)
              injection ea_ with ea_ en_ ec_
              subst ea_
              subst ec_
              clear en_
              have ea_ := Option.some.inj (hx142_11.symm.trans hx143_11)
              injection ea_ with ea_ en_ ec_
              subst ea_
              subst ec_
              clear en_
              go_wp2
              go_roundg k1
              case measure => have := HK1.out; omega
              case rel => exact ⟨(x7_1), (wrap64 (x8_1 + 1)), (by first | rfl | (simp; done) | (simp [*]; done)), H', ⟨by have := HK1.out; omega⟩, ⟨by (with_reducible repeat (first | apply Kd.R_alloc | apply Kd.R_drewN | apply Kd.R_drew)); exact HO_7.out⟩, ⟨by repeat (first | (with_reducible first | exact HB.out | apply below_alloc | apply pw_below_drewN | apply below_drew1) | exact HB.out)⟩⟩
          · rw [if_neg c9] at H
            exact absurd H (by simp)
        · rw [if_neg c8] at H
          have c8b0 : decide (x8_1 < (l0.length : Int)) = false := decide_eq_false c8
          clear c8
          obtain rfl := Option.some.inj H
          go_wp2
          go_ret
          exact ⟨_, by first | rfl | (simp [errW_none, errW_some] <;> rfl) | (simp [*, errW_none, errW_some] <;> rfl), by (with_reducible repeat (first | apply Kd.R_alloc | apply Kd.R_drewN | apply Kd.R_drew)); exact HO_7.out, by repeat (first | (with_reducible first | exact HB.out | apply below_alloc | apply pw_below_drewN | apply below_drew1) | exact HB.out)⟩
  · rw [if_neg c4] at H
    exact absurd H (by simp)

/-! ### careenref06_Empty: function 23 -/
def careenref06_Empty.f  : Option (Int × ByteArray) := if 220 ≤ 281474976710656 then (some (0, strOfNums (List.replicate 220 0))) else (none)
set_option maxHeartbeats 8000000 in
set_option maxRecDepth 100000 in
theorem careenref06_Empty.calls  (r1 : Int) (r2 : ByteArray) (w : World) (h : careenref06_Empty.f  = some (r1, r2)) :
    Calls Try.prog 23 #[] w fun e w' => e = .returned (.agg #[.int .i64 r1, .string r2]) ∧ Below w.heap.size w w' := by
  have hu23 := Try.underlying23
  have HB := Aside0.mk (Below.refl w.heap.size w)
  have H : (if 220 ≤ 281474976710656 then (some (0, strOfNums (List.replicate 220 0))) else (none)) = some (r1, r2) := h
  clear h
  by_cases c1 : 220 ≤ 281474976710656
  · rw [if_pos c1] at H
    have c1b0 := eq_true c1
    have c1b1 : decide (220 ≤ 281474976710656) = true := decide_eq_true c1
    clear c1
    obtain ⟨y151, hy151⟩ : ∃ y_ : List Int, y_ = (List.replicate 220 0) := ⟨_, rfl⟩
    replace H : (some (0, strOfNums y151)) = some (r1, r2) := by first | (rw [hy151]; with_reducible exact H) | (have H2_ := (Option.bind_some _ _).symm.trans H; rw [hy151]; with_reducible exact H2_) | (have H2_ := (Option.bind_some _ _).symm.trans H; with_reducible exact H2_) | with_reducible exact H | (rw [hy151]; exact H) | exact H
    have Ny151 := Aside0.mk hy151
    clear hy151
    simp only [Option.some.injEq, Prod.mk.injEq] at H
    obtain ⟨rfl, rfl⟩ := H
    go_enter Try.func23, Try.ntmps23
    go_wp2_with (first | ((with_reducible refine gate_dst (N := 0) rfl ?_); refine box_event ?hg (N := 0) ?hd (cs := #[.int .i64 0, .string (⟨#[]⟩ : ByteArray)]) (t := 23) ?hr ?_; (case hd => rfl); (case hg => rfl); (case hr => first | (go_simp; done) | (go_simp; rfl)); intro gb150 hg w2 hbox hb; have n0_ := Aside0.mk (below_step (by repeat (first | (with_reducible first | exact HB.out | apply below_alloc | apply pw_below_drewN | apply below_drew1) | exact HB.out)) hb); have n1_ := Aside0.mk (hbox); have n2_ := Aside0.mk ((by rw [hg]; exact (below_size (by repeat (first | (with_reducible first | exact HB.out | apply below_alloc | apply pw_below_drewN | apply below_drew1) | exact HB.out))) : w.heap.size ≤ gb150)); have n3_ := Aside0.mk ((by rw [hg]; exact (below_size (by repeat (first | (with_reducible first | exact HB.out | apply below_alloc | apply pw_below_drewN | apply below_drew1) | exact HB.out))) : w.heap.size ≤ gb150)); clear HB; have HB := n0_; have BK150 := n1_; have GW150 := n2_; have GE150 := n3_; clear n0_ n1_ n2_ n3_; clear hb hbox hg) | ((with_reducible refine gate_dst (N := 1) rfl ?_); refine Kd.R_make (Kd.int .u8) _ 5 rfl (N := 1) rfl 56 _ _ rfl 220 rfl rfl Try.underlying56 (.int .u8 0) 1 info5 rfl (by decide) (by omega) 0 (ok := fun _ => True) (okp := fun _ => True) rfl (fun _ hk => hk) trivial (by omega) (by omega) (Below.refl _ _) (Nat.le_refl _) ?_; intro v152 w3 ho4 hb hg_ hnew_; clear hg_ hnew_; (first | rw [← Ny151.out] at ho4 | (simp only [Int.reduceToNat] at ho4; rw [← Ny151.out] at ho4)); have n0_ := Aside0.mk (Kd.R_lower ho4 (below_size (by repeat (first | (with_reducible first | exact HB.out | apply below_alloc | apply pw_below_drewN | apply below_drew1 | refine below_set ?_ GE150.out) | exact HB.out)))); have n1_ := Aside0.mk (blk_below (g := gb150) (o := .cells #[.int .i64 0, .string (⟨#[]⟩ : ByteArray)] 23 (0, 0)) (by (with_reducible repeat (first | refine blk_drewN ?_ _ | refine blk_drew ?_ | refine blk_alloc ?_ _)); exact BK150.out) hb); have n2_ := Aside0.mk (below_step (by repeat (first | (with_reducible first | exact HB.out | apply below_alloc | apply pw_below_drewN | apply below_drew1 | refine below_set ?_ GE150.out) | exact HB.out)) hb); clear BK150; clear HB; have HO153 := n0_; have BK150 := n1_; have HB := n2_; clear n0_ n1_ n2_; clear hb ho4; have hcv5 := own_string (P := Try.prog) Try.underlying56 Try.underlying5 Try.underlying9 (Kd.own_of_R HO153.out); have hcz6_0 : w3.cell? ⟨gb150, 0, none⟩ = some (.int .i64 0) := (blk_cell BK150.out 0).trans rfl; have hcz6_1 : w3.cell? ⟨gb150, 1, none⟩ = some (.string (⟨#[]⟩ : ByteArray)) := (blk_cell BK150.out 1).trans rfl; have hfz6_0 := blk_frozen BK150.out 0; have hfz6_1 := blk_frozen BK150.out 1))
    refine bodyPost_ret (results_cell_row rfl _ _ gb150 23 #[.int .i64 0, .string (strOfNums y151)] (0, 0) _ rfl (by (with_reducible repeat (first | refine blk_drewN ?_ _ | refine blk_drew ?_ | refine blk_alloc ?_ _)); refine blk_put (cs := #[.int .i64 0, .string (⟨#[]⟩ : ByteArray)]) ?_ 1 _ rfl; (with_reducible repeat (first | refine blk_drewN ?_ _ | refine blk_drew ?_ | refine blk_alloc ?_ _)); refine blk_put (cs := #[.int .i64 0, .string (⟨#[]⟩ : ByteArray)]) ?_ 0 _ rfl; (with_reducible repeat (first | refine blk_drewN ?_ _ | refine blk_drew ?_ | refine blk_alloc ?_ _)); exact BK150.out) Try.underlying23 rfl (by kernel_rfl)) rfl ?_
    exact ⟨by first | rfl | (simp [errW_none, errW_some] <;> rfl) | (simp [*, errW_none, errW_some] <;> rfl), by repeat (first | (with_reducible first | exact HB.out | apply below_alloc | apply pw_below_drewN | apply below_drew1 | refine below_set ?_ GE150.out) | exact HB.out)⟩
  · rw [if_neg c1] at H
    exact absurd H (by simp)

end Go.Proofs.Ytlgcmcieipdcgaa.X14
