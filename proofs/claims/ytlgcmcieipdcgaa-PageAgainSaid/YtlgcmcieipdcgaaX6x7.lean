-- Written by this session's xprint.py (the kit's print, with contracts proved by hand).
import Derived.Test.YtlgcmcieipdcgaaX6x0
import Derived.Test.YtlgcmcieipdcgaaX6x1
import Derived.Test.YtlgcmcieipdcgaaX6x2
import Derived.Test.YtlgcmcieipdcgaaX6x3
import Derived.Test.YtlgcmcieipdcgaaX6x6
namespace Go.Proofs.Ytlgcmcieipdcgaa.X6
open Go.RowKit Go.Proofs.YtlgcmcieipdcgaaW.PrintWords Go.Proofs.YtlgcmcieipdcgaaW.PrintLast Go.Proofs.YtlgcmcieipdcgaaW.PrintMore
attribute [local go_sem] Page.fld_page_0 Page.fld_page_1 max2_int min2_int max_two min_two max_three min_three max_four min_four   -- for this text's walks alone
set_option linter.unusedVariables false
set_option linter.unusedSimpArgs false

attribute [local go_sem high] eqA23
/-! ### careenlaw06_PageAgain: function 5 -/
mutual
def careenlaw06_PageAgain.j0 : Nat → List (S40) → Int → Int → Bool → Option (Bool)
  | 0, _, _, _, _ => none
  | k + 1, x0, x1, x2, x18 => if x18 = true then ((careenlaw06_awake.f k).bind fun t174 => (some t174)) else ((page_Empty.f).bind fun bt175 => (careenlaw06_PageAgain.l0 k x0 (wrap64 (1 + (wrap64 (Int.tmod (IntKind.u64.wrap (x1)) 1000)))) x2 x0 (x0.length : Int) 0 bt175.1 bt175.2))
def careenlaw06_PageAgain.l0 : Nat → List (S40) → Int → Int → List (S40) → Int → Int → Int → ByteArray → Option (Bool)
  | 0, _, _, _, _, _, _, _, _ => none
  | k + 1, x0, x1, x2, x26, x27, x28, x178000, x178001 => if x28 < x27 then (if 0 ≤ x28 then (if x28 < (x26.length : Int) then ((careenref04_Few.f ((rd_T40 x26 x28).f0) ((rd_T40 x26 x28).f1) ((rd_T40 x26 x28).f2) ((rd_T40 x26 x28).f3) ((rd_T40 x26 x28).f4) ((rd_T40 x26 x28).f5) ((rd_T40 x26 x28).f6) ((rd_T40 x26 x28).f7) ((rd_T40 x26 x28).f8) ((rd_T40 x26 x28).f9) ((rd_T40 x26 x28).f10)).bind fun t180 => (if t180 = true then ((page_Apply.f k x178000 x178001 (wrap64 (x1 + x28)) ((rd_T40 x26 x28).f0) ((rd_T40 x26 x28).f1) ((rd_T40 x26 x28).f2) ((rd_T40 x26 x28).f3) ((rd_T40 x26 x28).f4) ((rd_T40 x26 x28).f5) ((rd_T40 x26 x28).f6) ((rd_T40 x26 x28).f7) ((rd_T40 x26 x28).f8) ((rd_T40 x26 x28).f9) ((rd_T40 x26 x28).f10)).bind fun bt181 => (careenlaw06_PageAgain.l0 k x0 x1 x2 x26 x27 (wrap64 (x28 + 1)) bt181.1 bt181.2)) else (some true))) else (none)) else (none)) else (if (IntKind.u64.wrap (wrap64 ((x0.length : Int) + 1))) = 0 then (none) else (careenlaw06_PageAgain.l1 k x0 x1 (wrap64 (Int.tmod (IntKind.u64.wrap (x2)) (IntKind.u64.wrap (wrap64 ((x0.length : Int) + 1))))) x178000 x178001 x178000 x178001))
def careenlaw06_PageAgain.l1 : Nat → List (S40) → Int → Int → Int → ByteArray → Int → ByteArray → Option (Bool)
  | 0, _, _, _, _, _, _, _ => none
  | k + 1, x0, x1, x11, x178000, x178001, x184000, x184001 => if x11 < (x0.length : Int) then (if 0 ≤ x11 then ((page_Apply.f k x184000 x184001 (wrap64 (x1 + x11)) ((rd_T40 x0 x11).f0) ((rd_T40 x0 x11).f1) ((rd_T40 x0 x11).f2) ((rd_T40 x0 x11).f3) ((rd_T40 x0 x11).f4) ((rd_T40 x0 x11).f5) ((rd_T40 x0 x11).f6) ((rd_T40 x0 x11).f7) ((rd_T40 x0 x11).f8) ((rd_T40 x0 x11).f9) ((rd_T40 x0 x11).f10)).bind fun bt185 => (careenlaw06_PageAgain.l1 k x0 x1 (wrap64 (x11 + 1)) x178000 x178001 bt185.1 bt185.2)) else (none)) else (some (x178000 == x184000 && (x178001.toList == x184001.toList)))
end
def careenlaw06_PageAgain.f (k : Nat) (l0 : List (S40)) (a1 : Int) (a2 : Int) : Option (Bool) := (careenlaw06_awake.f k).bind fun t173 => (if t173 = true then (careenlaw06_PageAgain.j0 k l0 a1 a2 (decide ((l0.length : Int) > 60))) else (careenlaw06_PageAgain.j0 k l0 a1 a2 true))
theorem careenlaw06_PageAgain.mono_l : ∀ k, (∀ y0 y1 y2 y3, LeO (careenlaw06_PageAgain.j0 k y0 y1 y2 y3) (careenlaw06_PageAgain.j0 (k + 1) y0 y1 y2 y3)) ∧ (∀ y0 y1 y2 y3 y4 y5 y6 y7, LeO (careenlaw06_PageAgain.l0 k y0 y1 y2 y3 y4 y5 y6 y7) (careenlaw06_PageAgain.l0 (k + 1) y0 y1 y2 y3 y4 y5 y6 y7)) ∧ (∀ y0 y1 y2 y3 y4 y5 y6, LeO (careenlaw06_PageAgain.l1 k y0 y1 y2 y3 y4 y5 y6) (careenlaw06_PageAgain.l1 (k + 1) y0 y1 y2 y3 y4 y5 y6))
  | 0 => ⟨fun _ _ _ _ r h => by simp [careenlaw06_PageAgain.j0] at h, fun _ _ _ _ _ _ _ _ r h => by simp [careenlaw06_PageAgain.l0] at h, fun _ _ _ _ _ _ _ r h => by simp [careenlaw06_PageAgain.l1] at h⟩
  | k + 1 => by
    obtain ⟨ih0, ih1, ih2⟩ := careenlaw06_PageAgain.mono_l k
    refine ⟨?_, ?_, ?_⟩
    · intro y0 y1 y2 y3
      unfold careenlaw06_PageAgain.j0
      repeat' first
      | (with_reducible exact ih0 _ _ _ _)
      | (with_reducible exact ih1 _ _ _ _ _ _ _ _)
      | (with_reducible exact ih2 _ _ _ _ _ _ _)
      | (with_reducible exact careenlaw06_awake.mono _)
      | (with_reducible exact page_Apply.mono _ _ _ _ _ _ _ _ _ _ _ _ _ _ _)
      | (with_reducible exact LeO.refl _)
      | (with_reducible exact LeO.none _)
      | (with_reducible refine LeO.ite ?_ ?_)
      | (with_reducible refine LeO.bind ?_ (fun _ => ?_))
      | exact ih0 _ _ _ _
      | exact ih1 _ _ _ _ _ _ _ _
      | exact ih2 _ _ _ _ _ _ _
      | exact careenlaw06_awake.mono _
      | exact page_Apply.mono _ _ _ _ _ _ _ _ _ _ _ _ _ _ _
      | exact LeO.none _
      | refine LeO.ite ?_ ?_
      | refine LeO.bind ?_ (fun _ => ?_)
    · intro y0 y1 y2 y3 y4 y5 y6 y7
      unfold careenlaw06_PageAgain.l0
      repeat' first
      | (with_reducible exact ih0 _ _ _ _)
      | (with_reducible exact ih1 _ _ _ _ _ _ _ _)
      | (with_reducible exact ih2 _ _ _ _ _ _ _)
      | (with_reducible exact careenlaw06_awake.mono _)
      | (with_reducible exact page_Apply.mono _ _ _ _ _ _ _ _ _ _ _ _ _ _ _)
      | (with_reducible exact LeO.refl _)
      | (with_reducible exact LeO.none _)
      | (with_reducible refine LeO.ite ?_ ?_)
      | (with_reducible refine LeO.bind ?_ (fun _ => ?_))
      | exact ih0 _ _ _ _
      | exact ih1 _ _ _ _ _ _ _ _
      | exact ih2 _ _ _ _ _ _ _
      | exact careenlaw06_awake.mono _
      | exact page_Apply.mono _ _ _ _ _ _ _ _ _ _ _ _ _ _ _
      | exact LeO.none _
      | refine LeO.ite ?_ ?_
      | refine LeO.bind ?_ (fun _ => ?_)
    · intro y0 y1 y2 y3 y4 y5 y6
      unfold careenlaw06_PageAgain.l1
      repeat' first
      | (with_reducible exact ih0 _ _ _ _)
      | (with_reducible exact ih1 _ _ _ _ _ _ _ _)
      | (with_reducible exact ih2 _ _ _ _ _ _ _)
      | (with_reducible exact careenlaw06_awake.mono _)
      | (with_reducible exact page_Apply.mono _ _ _ _ _ _ _ _ _ _ _ _ _ _ _)
      | (with_reducible exact LeO.refl _)
      | (with_reducible exact LeO.none _)
      | (with_reducible refine LeO.ite ?_ ?_)
      | (with_reducible refine LeO.bind ?_ (fun _ => ?_))
      | exact ih0 _ _ _ _
      | exact ih1 _ _ _ _ _ _ _ _
      | exact ih2 _ _ _ _ _ _ _
      | exact careenlaw06_awake.mono _
      | exact page_Apply.mono _ _ _ _ _ _ _ _ _ _ _ _ _ _ _
      | exact LeO.none _
      | refine LeO.ite ?_ ?_
      | refine LeO.bind ?_ (fun _ => ?_)
theorem careenlaw06_PageAgain.mono : ∀ a0 a1 a2 k, LeO (careenlaw06_PageAgain.f k a0 a1 a2) (careenlaw06_PageAgain.f (k + 1) a0 a1 a2) := by
  intro a0 a1 a2 k
  obtain ⟨ih0, ih1, ih2⟩ := careenlaw06_PageAgain.mono_l k
  unfold careenlaw06_PageAgain.f
  repeat' first
      | (with_reducible exact ih0 _ _ _ _)
      | (with_reducible exact ih1 _ _ _ _ _ _ _ _)
      | (with_reducible exact ih2 _ _ _ _ _ _ _)
      | (with_reducible exact careenlaw06_awake.mono _)
      | (with_reducible exact page_Apply.mono _ _ _ _ _ _ _ _ _ _ _ _ _ _ _)
      | (with_reducible exact LeO.refl _)
      | (with_reducible exact LeO.none _)
      | (with_reducible refine LeO.ite ?_ ?_)
      | (with_reducible refine LeO.bind ?_ (fun _ => ?_))
      | exact ih0 _ _ _ _
      | exact ih1 _ _ _ _ _ _ _ _
      | exact ih2 _ _ _ _ _ _ _
      | exact careenlaw06_awake.mono _
      | exact page_Apply.mono _ _ _ _ _ _ _ _ _ _ _ _ _ _ _
      | exact LeO.none _
      | refine LeO.ite ?_ ?_
      | refine LeO.bind ?_ (fun _ => ?_)
def careenlaw06_PageAgain.T16 : Bool × List (List Nat × List Nat) := (true, [([], []), ([], []), ([], []), ([1, 2], [1, 2]), ([], []), ([], []), ([4, 5], [4, 5]), ([6], [6]), ([0, 3, 7], [0, 3, 7]), ([8, 8, 0, 1, 2, 3, 4, 5, 6, 7, 8], [8])])
def careenlaw06_PageAgain.B16 : List Nat := [0, 0, 0, 6, 0, 0, 48, 112, 255, 511]
theorem careenlaw06_PageAgain.tab16 : rtab .any (opsOf Try.f5 16) = careenlaw06_PageAgain.T16 := by kernel_rfl
theorem careenlaw06_PageAgain.bits16 : waitsOk careenlaw06_PageAgain.T16.2 careenlaw06_PageAgain.B16 = true := by kernel_rfl
set_option maxHeartbeats 8000000 in
set_option maxRecDepth 100000 in
theorem careenlaw06_PageAgain.calls (k : Nat) (A0 : Option Addr) (c0 : Nat) (l0 : List (S40)) (a1 : Int) (a2 : Int) (r : Bool) (w : World) (hr0 : Kd.C k40 w A0 l0.length l0) (hc0 : l0.length ≤ c0) (h : careenlaw06_PageAgain.f k l0 a1 a2 = some r) :
    Calls Try.prog 5 #[.slice A0 l0.length c0, .int .i64 a1, .int .i64 a2] w fun e w' => e = .returned (.bool r) ∧ Below w.heap.size w w' := by
  have hu23 := Try.underlying23
  have hu40 := Try.underlying40
  have HR0 := Aside0.mk hr0
  have HC0 := Aside0.mk hc0
  clear hr0 hc0
  have HB := Aside0.mk (Below.refl w.heap.size w)
  have H : ((careenlaw06_awake.f k).bind fun t173 => (if t173 = true then (careenlaw06_PageAgain.j0 k l0 a1 a2 (decide ((l0.length : Int) > 60))) else (careenlaw06_PageAgain.j0 k l0 a1 a2 true))) = some r := h
  clear h
  have HC4 := Aside0.mk H
  clear H
  go_enter Try.func5, Try.ntmps5
  go_upto_region 1 with (fail)
  go_cut [18] (fun v18 wc => ∃ (kq : Nat) (x18_3 : Bool), v18 = .bool x18_3 ∧ Aside0 (careenlaw06_PageAgain.j0 kq l0 a1 a2 x18_3 = some r) ∧ Aside0 (kq ≤ k) ∧ Aside0 (Below w.heap.size w wc))
  case first =>
    have H := HC4.out
    clear HC4
    replace H := Option.bind_eq_some_iff.mp H
    obtain ⟨t173, A50, H⟩ := H
    replace H : (if t173 = true then (careenlaw06_PageAgain.j0 k l0 a1 a2 (decide ((l0.length : Int) > 60))) else (careenlaw06_PageAgain.j0 k l0 a1 a2 true)) = some r := H
    have A5 := Aside0.mk A50
    clear A50
    by_cases c6 : t173 = true
    · subst c6
      have H1 : (careenlaw06_PageAgain.j0 k l0 a1 a2 (decide ((l0.length : Int) > 60))) = some r := by rw [if_pos rfl] at H; exact H
      clear H
      have H := H1
      clear H1
      have H' := Aside0.mk H
      clear H
      go_wp2_with (first | ((with_reducible refine gate_callee (f := 15) rfl ?_); refine goesL_ (some 12) rfl rfl Try.func15 (by kernel_rfl) rfl #[] rfl (by (try simp only [List.map_toArray, List.map_cons, List.map_nil]); first | done | rfl | (simp only [List.length_drop, List.length_take]; rfl)) ?_; (with_reducible refine (careenlaw06_awake.calls k  true _ A5.out).mono ?_); rintro e w7 ⟨rfl, hb⟩; refine ⟨_, rfl, ?_⟩; have n0_ := Aside0.mk (below_step (by repeat (first | (with_reducible first | exact HB.out | apply below_alloc | apply pw_below_drewN | apply below_drew1) | exact HB.out)) hb); clear HB; have HB := n0_; clear n0_; (try clear hb); (try clear hb2); (try clear hk); (try clear hi)))
      go_meet
      case rel => exact ⟨_, (decide ((l0.length : Int) > 60)), (by first | rfl | (simp; done) | (simp [*]; done)), H', ⟨by first | omega | exact Nat.le_refl _⟩, ⟨by repeat (first | (with_reducible first | exact HB.out | apply below_alloc | apply pw_below_drewN | apply below_drew1) | exact HB.out)⟩⟩
    · replace c6 := Bool.eq_false_iff.mpr c6
      subst c6
      have H1 : (careenlaw06_PageAgain.j0 k l0 a1 a2 true) = some r := by rw [if_neg (show ¬ (false = true) by decide)] at H; exact H
      clear H
      have H := H1
      clear H1
      have H' := Aside0.mk H
      clear H
      go_wp2_with (first | ((with_reducible refine gate_callee (f := 15) rfl ?_); refine goesL_ (some 12) rfl rfl Try.func15 (by kernel_rfl) rfl #[] rfl (by (try simp only [List.map_toArray, List.map_cons, List.map_nil]); first | done | rfl | (simp only [List.length_drop, List.length_take]; rfl)) ?_; (with_reducible refine (careenlaw06_awake.calls k  false _ A5.out).mono ?_); rintro e w8 ⟨rfl, hb⟩; refine ⟨_, rfl, ?_⟩; have n0_ := Aside0.mk (below_step (by repeat (first | (with_reducible first | exact HB.out | apply below_alloc | apply pw_below_drewN | apply below_drew1) | exact HB.out)) hb); clear HB; have HB := n0_; clear n0_; (try clear hb); (try clear hb2); (try clear hk); (try clear hi)))
      go_meet
      case rel => exact ⟨_, (true), (by first | rfl | (simp; done) | (simp [*]; done)), H', ⟨by first | omega | exact Nat.le_refl _⟩, ⟨by repeat (first | (with_reducible first | exact HB.out | apply below_alloc | apply pw_below_drewN | apply below_drew1) | exact HB.out)⟩⟩
  case rest =>
    clear HC4
    try clear c1
    try clear p2
    try clear c5
    try clear c6
    obtain ⟨kq, x18_3, rfl, HA, HJ3, HB⟩ := hcut
    cases kq with
    | zero => exact absurd HA.out (by simp [careenlaw06_PageAgain.j0])
    | succ kj3 =>
      have H := HA.out
      clear HA
      simp only [careenlaw06_PageAgain.j0] at H
      by_cases c9 : x18_3 = true
      · subst c9
        have H1 : ((careenlaw06_awake.f kj3).bind fun t174 => (some t174)) = some r := by rw [if_pos rfl] at H; exact H
        clear H
        have H := H1
        clear H1
        replace H := Option.bind_eq_some_iff.mp H
        obtain ⟨t174, A100, H⟩ := H
        replace H : (some t174) = some r := H
        have A10 := Aside0.mk A100
        clear A100
        obtain rfl := Option.some.inj H
        go_wp2_with (first | ((with_reducible refine gate_callee (f := 15) rfl ?_); refine goesL_ (some 19) rfl rfl Try.func15 (by kernel_rfl) rfl #[] rfl (by (try simp only [List.map_toArray, List.map_cons, List.map_nil]); first | done | rfl | (simp only [List.length_drop, List.length_take]; rfl)) ?_; (with_reducible refine (careenlaw06_awake.calls kj3  t174 _ A10.out).mono ?_); rintro e w11 ⟨rfl, hb⟩; refine ⟨_, rfl, ?_⟩; have n0_ := Aside0.mk (below_step (by repeat (first | (with_reducible first | exact HB.out | apply below_alloc | apply pw_below_drewN | apply below_drew1) | exact HB.out)) hb); clear HB; have HB := n0_; clear n0_; (try clear hb); (try clear hb2); (try clear hk); (try clear hi)))
        go_ret
        exact ⟨by first | rfl | (simp [errW_none, errW_some] <;> rfl) | (simp [*, errW_none, errW_some] <;> rfl), by repeat (first | (with_reducible first | exact HB.out | apply below_alloc | apply pw_below_drewN | apply below_drew1) | exact HB.out)⟩
      · replace c9 := Bool.eq_false_iff.mpr c9
        subst c9
        have H1 : ((page_Empty.f).bind fun bt175 => (careenlaw06_PageAgain.l0 kj3 l0 (wrap64 (1 + (wrap64 (Int.tmod (IntKind.u64.wrap (a1)) 1000)))) a2 l0 (l0.length : Int) 0 bt175.1 bt175.2)) = some r := by rw [if_neg (show ¬ (false = true) by decide)] at H; exact H
        clear H
        have H := H1
        clear H1
        replace H := Option.bind_eq_some_iff.mp H
        obtain ⟨⟨t175, t176⟩, A120, H⟩ := H
        replace H : (careenlaw06_PageAgain.l0 kj3 l0 (wrap64 (1 + (wrap64 (Int.tmod (IntKind.u64.wrap (a1)) 1000)))) a2 l0 (l0.length : Int) 0 t175 t176) = some r := H
        have A12 := Aside0.mk A120
        clear A120
        have H' := Aside0.mk H
        clear H
        go_wp2_with (first | ((with_reducible refine gate_callee (f := 22) rfl ?_); refine goesL_ (some 25) rfl rfl Try.func22 (by kernel_rfl) rfl #[] rfl (by (try simp only [List.map_toArray, List.map_cons, List.map_nil]); first | done | rfl | (simp only [List.length_drop, List.length_take]; rfl)) ?_; (with_reducible refine (page_Empty.calls  t175 t176 _ A12.out).mono ?_); rintro e w13 ⟨rfl, hb⟩; refine ⟨_, rfl, ?_⟩; have n0_ := Aside0.mk (below_step (by repeat (first | (with_reducible first | exact HB.out | apply below_alloc | apply pw_below_drewN | apply below_drew1) | exact HB.out)) hb); clear HB; have HB := n0_; clear n0_; (try clear hb); (try clear hb2); (try clear hk); (try clear hi)) | ((with_reducible refine gate_dst (N := 7) rfl ?_); (try (refine gate_guard (by rfl) ?_; dsimp only)); refine box_event ?hg (N := 7) ?hd (cs := #[.int .i64 0, .string (⟨#[]⟩ : ByteArray)]) (t := 23) ?hr ?_; (case hd => rfl); (case hg => rfl); (case hr => first | (go_simp; done) | (go_simp; rfl)); intro gb177 hg w14 hbox hb; have n0_ := Aside0.mk (below_step (by repeat (first | (with_reducible first | exact HB.out | apply below_alloc | apply pw_below_drewN | apply below_drew1) | exact HB.out)) hb); have n1_ := Aside0.mk (hbox); have n2_ := Aside0.mk ((by rw [hg]; exact (below_size (by repeat (first | (with_reducible first | exact HB.out | apply below_alloc | apply pw_below_drewN | apply below_drew1) | exact HB.out))) : w.heap.size ≤ gb177)); have n3_ := Aside0.mk ((by rw [hg]; exact (below_size (by repeat (first | (with_reducible first | exact HB.out | apply below_alloc | apply pw_below_drewN | apply below_drew1) | exact HB.out))) : w.heap.size ≤ gb177)); clear HB; have HB := n0_; have BK177 := n1_; have GW177 := n2_; have GE177 := n3_; clear n0_ n1_ n2_ n3_; clear hb hbox hg; have hcz15_0 : w14.cell? ⟨gb177, 0, none⟩ = some (.int .i64 0) := (blk_cell BK177.out 0).trans rfl; have hcz15_1 : w14.cell? ⟨gb177, 1, none⟩ = some (.string (⟨#[]⟩ : ByteArray)) := (blk_cell BK177.out 1).trans rfl; have hfz15_0 := blk_frozen BK177.out 0; have hfz15_1 := blk_frozen BK177.out 1))
        go_loopg [28] kj3 (fun kq v28 w' => ∃ (x28_2 : Int) (x178000_2 : Int) (x178001_2 : ByteArray), v28 = .int .i64 x28_2 ∧ Aside0 (careenlaw06_PageAgain.l0 kq l0 (wrap64 (1 + (wrap64 (Int.tmod (IntKind.u64.wrap (a1)) 1000)))) a2 l0 (l0.length : Int) x28_2 x178000_2 x178001_2 = some r) ∧ Aside0 (kq ≤ kj3) ∧ Aside0 (w'.heap[gb177]? = some (.cells #[.int .i64 x178000_2, .string x178001_2] 23 (0, 0))) ∧ Aside0 (Below w.heap.size w w'))
        case atStart => exact ⟨(0), (t175), (t176), (by first | rfl | (simp; done) | (simp [*]; done)), H', ⟨Nat.le_refl _⟩, ⟨by (with_reducible repeat (first | refine blk_drewN ?_ _ | refine blk_drew ?_ | refine blk_alloc ?_ _)); refine blk_put (cs := #[.int .i64 t175, .string (⟨#[]⟩ : ByteArray)]) ?_ 1 _ rfl; (with_reducible repeat (first | refine blk_drewN ?_ _ | refine blk_drew ?_ | refine blk_alloc ?_ _)); refine blk_put (cs := #[.int .i64 0, .string (⟨#[]⟩ : ByteArray)]) ?_ 0 _ rfl; (with_reducible repeat (first | refine blk_drewN ?_ _ | refine blk_drew ?_ | refine blk_alloc ?_ _)); exact BK177.out⟩, ⟨by repeat (first | (with_reducible first | exact HB.out | apply below_alloc | apply pw_below_drewN | apply below_drew1 | refine below_set ?_ GE177.out) | exact HB.out)⟩⟩
        case round =>
          clear H'
          try clear c1
          try clear c2
          try clear p2
          try clear c5
          try clear c6
          try clear p6
          try clear c9
          try clear c15
          try clear hcz15_0
          try clear hcz15_1
          try clear hfz15_0
          try clear hfz15_1
          try clear p2
          obtain ⟨x28_2, x178000_2, x178001_2, rfl, HA, HK2, BK177, HB⟩ := hrel
          cases gk with
          | zero => exact absurd HA.out (by simp [careenlaw06_PageAgain.l0])
          | succ k2 =>
            have H := HA.out
            clear HA
            simp only [careenlaw06_PageAgain.l0] at H
            by_cases c16 : x28_2 < (l0.length : Int)
            · rw [if_pos c16] at H
              have c16b0 : decide (x28_2 < (l0.length : Int)) = true := decide_eq_true c16
              clear c16
              by_cases c17 : 0 ≤ x28_2
              · rw [if_pos c17] at H
                have c17b0 : decide (0 ≤ x28_2) = true := decide_eq_true c17
                clear c17
                by_cases c18 : x28_2 < (l0.length : Int)
                · rw [if_pos c18] at H
                  have c18b0 : decide (x28_2 < (l0.length : Int)) = true := decide_eq_true c18
                  clear c18
                  replace H := Option.bind_eq_some_iff.mp H
                  obtain ⟨t180, A190, H⟩ := H
                  replace H : (if t180 = true then ((page_Apply.f k2 x178000_2 x178001_2 (wrap64 ((wrap64 (1 + (wrap64 (Int.tmod (IntKind.u64.wrap (a1)) 1000)))) + x28_2)) ((rd_T40 l0 x28_2).f0) ((rd_T40 l0 x28_2).f1) ((rd_T40 l0 x28_2).f2) ((rd_T40 l0 x28_2).f3) ((rd_T40 l0 x28_2).f4) ((rd_T40 l0 x28_2).f5) ((rd_T40 l0 x28_2).f6) ((rd_T40 l0 x28_2).f7) ((rd_T40 l0 x28_2).f8) ((rd_T40 l0 x28_2).f9) ((rd_T40 l0 x28_2).f10)).bind fun bt181 => (careenlaw06_PageAgain.l0 k2 l0 (wrap64 (1 + (wrap64 (Int.tmod (IntKind.u64.wrap (a1)) 1000)))) a2 l0 (l0.length : Int) (wrap64 (x28_2 + 1)) bt181.1 bt181.2)) else (some true)) = some r := H
                  have A19 := Aside0.mk A190
                  clear A190
                  by_cases c20 : t180 = true
                  · subst c20
                    have H1 : ((page_Apply.f k2 x178000_2 x178001_2 (wrap64 ((wrap64 (1 + (wrap64 (Int.tmod (IntKind.u64.wrap (a1)) 1000)))) + x28_2)) ((rd_T40 l0 x28_2).f0) ((rd_T40 l0 x28_2).f1) ((rd_T40 l0 x28_2).f2) ((rd_T40 l0 x28_2).f3) ((rd_T40 l0 x28_2).f4) ((rd_T40 l0 x28_2).f5) ((rd_T40 l0 x28_2).f6) ((rd_T40 l0 x28_2).f7) ((rd_T40 l0 x28_2).f8) ((rd_T40 l0 x28_2).f9) ((rd_T40 l0 x28_2).f10)).bind fun bt181 => (careenlaw06_PageAgain.l0 k2 l0 (wrap64 (1 + (wrap64 (Int.tmod (IntKind.u64.wrap (a1)) 1000)))) a2 l0 (l0.length : Int) (wrap64 (x28_2 + 1)) bt181.1 bt181.2)) = some r := by rw [if_pos rfl] at H; exact H
                    clear H
                    have H := H1
                    clear H1
                    replace H := Option.bind_eq_some_iff.mp H
                    obtain ⟨⟨t181, t182⟩, A210, H⟩ := H
                    replace H : (careenlaw06_PageAgain.l0 k2 l0 (wrap64 (1 + (wrap64 (Int.tmod (IntKind.u64.wrap (a1)) 1000)))) a2 l0 (l0.length : Int) (wrap64 (x28_2 + 1)) t181 t182) = some r := H
                    have A21 := Aside0.mk A210
                    clear A210
                    have H' := Aside0.mk H
                    clear H
                    have p178 : 0 ≤ (x28_2 : Int) := of_decide_eq_true (by first | (with_reducible assumption) | assumption)
                    have q178 : x28_2 < (l0.length : Int) := of_decide_eq_true (by first | (with_reducible assumption) | assumption)
                    obtain ⟨ad178, A178_9, c178_9, A178_10, c178_10, e178, hx178_0, hx178_1, hx178_2, hx178_3, hx178_4, hx178_5, hx178_6, hx178_7, hx178_8, hx178_9, hx178_10, hl178_9, hi178_9, hl178_10, hi178_10⟩ := at_T40 HR0.out x28_2 p178 q178
                    cases e178
                    replace hx178_0 := (HB.out.cell (World.block_lt_of_cell? w _ hx178_0)).trans hx178_0
                    replace hx178_1 := (HB.out.cell (World.block_lt_of_cell? w _ hx178_1)).trans hx178_1
                    replace hx178_2 := (HB.out.cell (World.block_lt_of_cell? w _ hx178_2)).trans hx178_2
                    replace hx178_3 := (HB.out.cell (World.block_lt_of_cell? w _ hx178_3)).trans hx178_3
                    replace hx178_4 := (HB.out.cell (World.block_lt_of_cell? w _ hx178_4)).trans hx178_4
                    replace hx178_5 := (HB.out.cell (World.block_lt_of_cell? w _ hx178_5)).trans hx178_5
                    replace hx178_6 := (HB.out.cell (World.block_lt_of_cell? w _ hx178_6)).trans hx178_6
                    replace hx178_7 := (HB.out.cell (World.block_lt_of_cell? w _ hx178_7)).trans hx178_7
                    replace hx178_8 := (HB.out.cell (World.block_lt_of_cell? w _ hx178_8)).trans hx178_8
                    replace hx178_9 := (HB.out.cell (World.block_lt_of_cell? w _ hx178_9)).trans hx178_9
                    replace hx178_10 := (HB.out.cell (World.block_lt_of_cell? w _ hx178_10)).trans hx178_10
                    have HR178_9 := Aside0.mk hi178_9
                    have HC178_9 := Aside0.mk hl178_9
                    clear hi178_9 hl178_9
                    have HR178_10 := Aside0.mk hi178_10
                    have HC178_10 := Aside0.mk hl178_10
                    clear hi178_10 hl178_10
                    replace p178 := eq_true p178
                    replace q178 := eq_true q178
                    go_wp2_with (first | ((with_reducible refine gate_dst (N := 9) rfl ?_); (try (refine gate_guard (by rfl) ?_; dsimp only)); refine box_event ?hg (N := 9) ?hd (cs := #[.int .i64 0, .int .i64 0, .int .i64 0, .int .i64 0, .int .i64 0, .int .i64 0, .int .i64 0, .string (⟨#[]⟩ : ByteArray), .string (⟨#[]⟩ : ByteArray), .slice none 0 0, .slice none 0 0]) (t := 40) ?hr ?_; (case hd => rfl); (case hg => rfl); (case hr => first | (go_simp; done) | (go_simp; rfl)); intro gb179 hg w22 hbox hb; have n0_ := Aside0.mk (blk_below (g := gb177) (o := .cells #[.int .i64 x178000_2, .string x178001_2] 23 (0, 0)) (by (with_reducible repeat (first | refine blk_drewN ?_ _ | refine blk_drew ?_ | refine blk_alloc ?_ _)); exact BK177.out) hb); have n1_ := Aside0.mk (below_step (by repeat (first | (with_reducible first | exact HB.out | apply below_alloc | apply pw_below_drewN | apply below_drew1 | refine below_set ?_ GE177.out) | exact HB.out)) hb); have n2_ := Aside0.mk (hbox); have n3_ := Aside0.mk ((by rw [hg]; exact (below_size (by repeat (first | (with_reducible first | exact HB.out | apply below_alloc | apply pw_below_drewN | apply below_drew1 | refine below_set ?_ GE177.out) | exact HB.out))) : w.heap.size ≤ gb179)); have n4_ := Aside0.mk ((by rw [hg]; exact (below_size (by repeat (first | (with_reducible first | exact HB.out | apply below_alloc | apply pw_below_drewN | apply below_drew1 | refine below_set ?_ GE177.out) | exact HB.out))) : w.heap.size ≤ gb179)); have n5_ := Aside0.mk ((by rw [hg]; exact Nat.ne_of_lt (blk_lt (g := gb177) (o := .cells #[.int .i64 x178000_2, .string x178001_2] 23 (0, 0)) (by (with_reducible repeat (first | refine blk_drewN ?_ _ | refine blk_drew ?_ | refine blk_alloc ?_ _)); exact BK177.out)) : gb177 ≠ gb179)); have n6_ := Aside0.mk ((by rw [hg]; exact Nat.ne_of_gt (blk_lt (g := gb177) (o := .cells #[.int .i64 x178000_2, .string x178001_2] 23 (0, 0)) (by (with_reducible repeat (first | refine blk_drewN ?_ _ | refine blk_drew ?_ | refine blk_alloc ?_ _)); exact BK177.out)) : gb179 ≠ gb177)); clear BK177; clear HB; have BK177 := n0_; have HB := n1_; have BK179 := n2_; have GW179 := n3_; have GE179 := n4_; have NB177_179 := n5_; have NB179_177 := n6_; clear n0_ n1_ n2_ n3_ n4_ n5_ n6_; clear hb hbox hg; have hnb23 := NB179_177.out; have hnc23 := NB177_179.out; have hcz24_0 : w22.cell? ⟨gb179, 0, none⟩ = some (.int .i64 0) := (blk_cell BK179.out 0).trans rfl; have hcz24_1 : w22.cell? ⟨gb179, 1, none⟩ = some (.int .i64 0) := (blk_cell BK179.out 1).trans rfl; have hcz24_2 : w22.cell? ⟨gb179, 2, none⟩ = some (.int .i64 0) := (blk_cell BK179.out 2).trans rfl; have hcz24_3 : w22.cell? ⟨gb179, 3, none⟩ = some (.int .i64 0) := (blk_cell BK179.out 3).trans rfl; have hcz24_4 : w22.cell? ⟨gb179, 4, none⟩ = some (.int .i64 0) := (blk_cell BK179.out 4).trans rfl; have hcz24_5 : w22.cell? ⟨gb179, 5, none⟩ = some (.int .i64 0) := (blk_cell BK179.out 5).trans rfl; have hcz24_6 : w22.cell? ⟨gb179, 6, none⟩ = some (.int .i64 0) := (blk_cell BK179.out 6).trans rfl; have hcz24_7 : w22.cell? ⟨gb179, 7, none⟩ = some (.string (⟨#[]⟩ : ByteArray)) := (blk_cell BK179.out 7).trans rfl; have hcz24_8 : w22.cell? ⟨gb179, 8, none⟩ = some (.string (⟨#[]⟩ : ByteArray)) := (blk_cell BK179.out 8).trans rfl; have hcz24_9 : w22.cell? ⟨gb179, 9, none⟩ = some (.slice none 0 0) := (blk_cell BK179.out 9).trans rfl; have hcz24_10 : w22.cell? ⟨gb179, 10, none⟩ = some (.slice none 0 0) := (blk_cell BK179.out 10).trans rfl; have hfz24_0 := blk_frozen BK179.out 0; have hfz24_1 := blk_frozen BK179.out 1; have hfz24_2 := blk_frozen BK179.out 2; have hfz24_3 := blk_frozen BK179.out 3; have hfz24_4 := blk_frozen BK179.out 4; have hfz24_5 := blk_frozen BK179.out 5; have hfz24_6 := blk_frozen BK179.out 6; have hfz24_7 := blk_frozen BK179.out 7; have hfz24_8 := blk_frozen BK179.out 8; have hfz24_9 := blk_frozen BK179.out 9; have hfz24_10 := blk_frozen BK179.out 10) | ((with_reducible refine gate_callee (f := 24) rfl ?_); refine goesL_ (some 34) rfl rfl Try.func24 (by kernel_rfl) rfl #[.agg #[.int .i64 ((rd_T40 l0 x28_2).f0), .int .i64 ((rd_T40 l0 x28_2).f1), .int .i64 ((rd_T40 l0 x28_2).f2), .int .i64 ((rd_T40 l0 x28_2).f3), .int .i64 ((rd_T40 l0 x28_2).f4), .int .i64 ((rd_T40 l0 x28_2).f5), .int .i64 ((rd_T40 l0 x28_2).f6), .string ((rd_T40 l0 x28_2).f7), .string ((rd_T40 l0 x28_2).f8), .slice A178_9 ((rd_T40 l0 x28_2).f9).length c178_9, .slice A178_10 ((rd_T40 l0 x28_2).f10).length c178_10]] rfl (by (try simp only [List.map_toArray, List.map_cons, List.map_nil]); first | done | rfl | (simp only [List.length_drop, List.length_take]; rfl)) ?_; (with_reducible refine (careenref04_Few.calls ((rd_T40 l0 x28_2).f0) ((rd_T40 l0 x28_2).f1) ((rd_T40 l0 x28_2).f2) ((rd_T40 l0 x28_2).f3) ((rd_T40 l0 x28_2).f4) ((rd_T40 l0 x28_2).f5) ((rd_T40 l0 x28_2).f6) ((rd_T40 l0 x28_2).f7) ((rd_T40 l0 x28_2).f8) _ _ ((rd_T40 l0 x28_2).f9) _ _ ((rd_T40 l0 x28_2).f10) true _ ?side1 ?side2 ?side3 ?side4 A19.out).mono ?_); (case side1 => exact Kd.C_below HR178_9.out (by repeat (first | (with_reducible first | exact HB.out | apply below_alloc | apply pw_below_drewN | apply below_drew1 | refine below_set ?_ GE177.out | refine below_set ?_ GE179.out) | exact HB.out))); (case side2 => exact HC178_9.out); (case side3 => exact Kd.C_below HR178_10.out (by repeat (first | (with_reducible first | exact HB.out | apply below_alloc | apply pw_below_drewN | apply below_drew1 | refine below_set ?_ GE177.out | refine below_set ?_ GE179.out) | exact HB.out))); (case side4 => exact HC178_10.out); rintro e w25 ⟨rfl, hb⟩; refine ⟨_, rfl, ?_⟩; have n0_ := Aside0.mk (blk_below (g := gb177) (o := .cells #[.int .i64 x178000_2, .string x178001_2] 23 (0, 0)) (by (with_reducible repeat (first | refine blk_drewN ?_ _ | refine blk_drew ?_ | refine blk_alloc ?_ _)); refine blk_far ?_ NB177_179.out _; (with_reducible repeat (first | refine blk_drewN ?_ _ | refine blk_drew ?_ | refine blk_alloc ?_ _)); refine blk_far ?_ NB177_179.out _; (with_reducible repeat (first | refine blk_drewN ?_ _ | refine blk_drew ?_ | refine blk_alloc ?_ _)); refine blk_far ?_ NB177_179.out _; (with_reducible repeat (first | refine blk_drewN ?_ _ | refine blk_drew ?_ | refine blk_alloc ?_ _)); refine blk_far ?_ NB177_179.out _; (with_reducible repeat (first | refine blk_drewN ?_ _ | refine blk_drew ?_ | refine blk_alloc ?_ _)); refine blk_far ?_ NB177_179.out _; (with_reducible repeat (first | refine blk_drewN ?_ _ | refine blk_drew ?_ | refine blk_alloc ?_ _)); refine blk_far ?_ NB177_179.out _; (with_reducible repeat (first | refine blk_drewN ?_ _ | refine blk_drew ?_ | refine blk_alloc ?_ _)); refine blk_far ?_ NB177_179.out _; (with_reducible repeat (first | refine blk_drewN ?_ _ | refine blk_drew ?_ | refine blk_alloc ?_ _)); refine blk_far ?_ NB177_179.out _; (with_reducible repeat (first | refine blk_drewN ?_ _ | refine blk_drew ?_ | refine blk_alloc ?_ _)); refine blk_far ?_ NB177_179.out _; (with_reducible repeat (first | refine blk_drewN ?_ _ | refine blk_drew ?_ | refine blk_alloc ?_ _)); refine blk_far ?_ NB177_179.out _; (with_reducible repeat (first | refine blk_drewN ?_ _ | refine blk_drew ?_ | refine blk_alloc ?_ _)); refine blk_far ?_ NB177_179.out _; (with_reducible repeat (first | refine blk_drewN ?_ _ | refine blk_drew ?_ | refine blk_alloc ?_ _)); exact BK177.out) hb); have n1_ := Aside0.mk (blk_below (g := gb179) (o := .cells #[.int .i64 ((rd_T40 l0 x28_2).f0), .int .i64 ((rd_T40 l0 x28_2).f1), .int .i64 ((rd_T40 l0 x28_2).f2), .int .i64 ((rd_T40 l0 x28_2).f3), .int .i64 ((rd_T40 l0 x28_2).f4), .int .i64 ((rd_T40 l0 x28_2).f5), .int .i64 ((rd_T40 l0 x28_2).f6), .string ((rd_T40 l0 x28_2).f7), .string ((rd_T40 l0 x28_2).f8), .slice A178_9 ((rd_T40 l0 x28_2).f9).length c178_9, .slice A178_10 ((rd_T40 l0 x28_2).f10).length c178_10] 40 (0, 0)) (by (with_reducible repeat (first | refine blk_drewN ?_ _ | refine blk_drew ?_ | refine blk_alloc ?_ _)); refine blk_put (cs := #[.int .i64 ((rd_T40 l0 x28_2).f0), .int .i64 ((rd_T40 l0 x28_2).f1), .int .i64 ((rd_T40 l0 x28_2).f2), .int .i64 ((rd_T40 l0 x28_2).f3), .int .i64 ((rd_T40 l0 x28_2).f4), .int .i64 ((rd_T40 l0 x28_2).f5), .int .i64 ((rd_T40 l0 x28_2).f6), .string ((rd_T40 l0 x28_2).f7), .string ((rd_T40 l0 x28_2).f8), .slice A178_9 ((rd_T40 l0 x28_2).f9).length c178_9, .slice none 0 0]) ?_ 10 _ rfl; (with_reducible repeat (first | refine blk_drewN ?_ _ | refine blk_drew ?_ | refine blk_alloc ?_ _)); refine blk_put (cs := #[.int .i64 ((rd_T40 l0 x28_2).f0), .int .i64 ((rd_T40 l0 x28_2).f1), .int .i64 ((rd_T40 l0 x28_2).f2), .int .i64 ((rd_T40 l0 x28_2).f3), .int .i64 ((rd_T40 l0 x28_2).f4), .int .i64 ((rd_T40 l0 x28_2).f5), .int .i64 ((rd_T40 l0 x28_2).f6), .string ((rd_T40 l0 x28_2).f7), .string ((rd_T40 l0 x28_2).f8), .slice none 0 0, .slice none 0 0]) ?_ 9 _ rfl; (with_reducible repeat (first | refine blk_drewN ?_ _ | refine blk_drew ?_ | refine blk_alloc ?_ _)); refine blk_put (cs := #[.int .i64 ((rd_T40 l0 x28_2).f0), .int .i64 ((rd_T40 l0 x28_2).f1), .int .i64 ((rd_T40 l0 x28_2).f2), .int .i64 ((rd_T40 l0 x28_2).f3), .int .i64 ((rd_T40 l0 x28_2).f4), .int .i64 ((rd_T40 l0 x28_2).f5), .int .i64 ((rd_T40 l0 x28_2).f6), .string ((rd_T40 l0 x28_2).f7), .string (⟨#[]⟩ : ByteArray), .slice none 0 0, .slice none 0 0]) ?_ 8 _ rfl; (with_reducible repeat (first | refine blk_drewN ?_ _ | refine blk_drew ?_ | refine blk_alloc ?_ _)); refine blk_put (cs := #[.int .i64 ((rd_T40 l0 x28_2).f0), .int .i64 ((rd_T40 l0 x28_2).f1), .int .i64 ((rd_T40 l0 x28_2).f2), .int .i64 ((rd_T40 l0 x28_2).f3), .int .i64 ((rd_T40 l0 x28_2).f4), .int .i64 ((rd_T40 l0 x28_2).f5), .int .i64 ((rd_T40 l0 x28_2).f6), .string (⟨#[]⟩ : ByteArray), .string (⟨#[]⟩ : ByteArray), .slice none 0 0, .slice none 0 0]) ?_ 7 _ rfl; (with_reducible repeat (first | refine blk_drewN ?_ _ | refine blk_drew ?_ | refine blk_alloc ?_ _)); refine blk_put (cs := #[.int .i64 ((rd_T40 l0 x28_2).f0), .int .i64 ((rd_T40 l0 x28_2).f1), .int .i64 ((rd_T40 l0 x28_2).f2), .int .i64 ((rd_T40 l0 x28_2).f3), .int .i64 ((rd_T40 l0 x28_2).f4), .int .i64 ((rd_T40 l0 x28_2).f5), .int .i64 0, .string (⟨#[]⟩ : ByteArray), .string (⟨#[]⟩ : ByteArray), .slice none 0 0, .slice none 0 0]) ?_ 6 _ rfl; (with_reducible repeat (first | refine blk_drewN ?_ _ | refine blk_drew ?_ | refine blk_alloc ?_ _)); refine blk_put (cs := #[.int .i64 ((rd_T40 l0 x28_2).f0), .int .i64 ((rd_T40 l0 x28_2).f1), .int .i64 ((rd_T40 l0 x28_2).f2), .int .i64 ((rd_T40 l0 x28_2).f3), .int .i64 ((rd_T40 l0 x28_2).f4), .int .i64 0, .int .i64 0, .string (⟨#[]⟩ : ByteArray), .string (⟨#[]⟩ : ByteArray), .slice none 0 0, .slice none 0 0]) ?_ 5 _ rfl; (with_reducible repeat (first | refine blk_drewN ?_ _ | refine blk_drew ?_ | refine blk_alloc ?_ _)); refine blk_put (cs := #[.int .i64 ((rd_T40 l0 x28_2).f0), .int .i64 ((rd_T40 l0 x28_2).f1), .int .i64 ((rd_T40 l0 x28_2).f2), .int .i64 ((rd_T40 l0 x28_2).f3), .int .i64 0, .int .i64 0, .int .i64 0, .string (⟨#[]⟩ : ByteArray), .string (⟨#[]⟩ : ByteArray), .slice none 0 0, .slice none 0 0]) ?_ 4 _ rfl; (with_reducible repeat (first | refine blk_drewN ?_ _ | refine blk_drew ?_ | refine blk_alloc ?_ _)); refine blk_put (cs := #[.int .i64 ((rd_T40 l0 x28_2).f0), .int .i64 ((rd_T40 l0 x28_2).f1), .int .i64 ((rd_T40 l0 x28_2).f2), .int .i64 0, .int .i64 0, .int .i64 0, .int .i64 0, .string (⟨#[]⟩ : ByteArray), .string (⟨#[]⟩ : ByteArray), .slice none 0 0, .slice none 0 0]) ?_ 3 _ rfl; (with_reducible repeat (first | refine blk_drewN ?_ _ | refine blk_drew ?_ | refine blk_alloc ?_ _)); refine blk_put (cs := #[.int .i64 ((rd_T40 l0 x28_2).f0), .int .i64 ((rd_T40 l0 x28_2).f1), .int .i64 0, .int .i64 0, .int .i64 0, .int .i64 0, .int .i64 0, .string (⟨#[]⟩ : ByteArray), .string (⟨#[]⟩ : ByteArray), .slice none 0 0, .slice none 0 0]) ?_ 2 _ rfl; (with_reducible repeat (first | refine blk_drewN ?_ _ | refine blk_drew ?_ | refine blk_alloc ?_ _)); refine blk_put (cs := #[.int .i64 ((rd_T40 l0 x28_2).f0), .int .i64 0, .int .i64 0, .int .i64 0, .int .i64 0, .int .i64 0, .int .i64 0, .string (⟨#[]⟩ : ByteArray), .string (⟨#[]⟩ : ByteArray), .slice none 0 0, .slice none 0 0]) ?_ 1 _ rfl; (with_reducible repeat (first | refine blk_drewN ?_ _ | refine blk_drew ?_ | refine blk_alloc ?_ _)); refine blk_put (cs := #[.int .i64 0, .int .i64 0, .int .i64 0, .int .i64 0, .int .i64 0, .int .i64 0, .int .i64 0, .string (⟨#[]⟩ : ByteArray), .string (⟨#[]⟩ : ByteArray), .slice none 0 0, .slice none 0 0]) ?_ 0 _ rfl; (with_reducible repeat (first | refine blk_drewN ?_ _ | refine blk_drew ?_ | refine blk_alloc ?_ _)); exact BK179.out) hb); have n2_ := Aside0.mk (below_step (by repeat (first | (with_reducible first | exact HB.out | apply below_alloc | apply pw_below_drewN | apply below_drew1 | refine below_set ?_ GE177.out | refine below_set ?_ GE179.out) | exact HB.out)) hb); clear BK177; clear BK179; clear HB; have BK177 := n0_; have BK179 := n1_; have HB := n2_; clear n0_ n1_ n2_; (try clear hb); (try clear hb2); (try clear hk); (try clear hi); have hcz26_0 : w25.cell? ⟨gb177, 0, none⟩ = some (.int .i64 x178000_2) := (blk_cell BK177.out 0).trans rfl; have hcz26_1 : w25.cell? ⟨gb177, 1, none⟩ = some (.string x178001_2) := (blk_cell BK177.out 1).trans rfl; have hfz26_0 := blk_frozen BK177.out 0; have hfz26_1 := blk_frozen BK177.out 1; have hcz27_0 : w25.cell? ⟨gb179, 0, none⟩ = some (.int .i64 ((rd_T40 l0 x28_2).f0)) := (blk_cell BK179.out 0).trans rfl; have hcz27_1 : w25.cell? ⟨gb179, 1, none⟩ = some (.int .i64 ((rd_T40 l0 x28_2).f1)) := (blk_cell BK179.out 1).trans rfl; have hcz27_2 : w25.cell? ⟨gb179, 2, none⟩ = some (.int .i64 ((rd_T40 l0 x28_2).f2)) := (blk_cell BK179.out 2).trans rfl; have hcz27_3 : w25.cell? ⟨gb179, 3, none⟩ = some (.int .i64 ((rd_T40 l0 x28_2).f3)) := (blk_cell BK179.out 3).trans rfl; have hcz27_4 : w25.cell? ⟨gb179, 4, none⟩ = some (.int .i64 ((rd_T40 l0 x28_2).f4)) := (blk_cell BK179.out 4).trans rfl; have hcz27_5 : w25.cell? ⟨gb179, 5, none⟩ = some (.int .i64 ((rd_T40 l0 x28_2).f5)) := (blk_cell BK179.out 5).trans rfl; have hcz27_6 : w25.cell? ⟨gb179, 6, none⟩ = some (.int .i64 ((rd_T40 l0 x28_2).f6)) := (blk_cell BK179.out 6).trans rfl; have hcz27_7 : w25.cell? ⟨gb179, 7, none⟩ = some (.string ((rd_T40 l0 x28_2).f7)) := (blk_cell BK179.out 7).trans rfl; have hcz27_8 : w25.cell? ⟨gb179, 8, none⟩ = some (.string ((rd_T40 l0 x28_2).f8)) := (blk_cell BK179.out 8).trans rfl; have hcz27_9 : w25.cell? ⟨gb179, 9, none⟩ = some (.slice A178_9 ((rd_T40 l0 x28_2).f9).length c178_9) := (blk_cell BK179.out 9).trans rfl; have hcz27_10 : w25.cell? ⟨gb179, 10, none⟩ = some (.slice A178_10 ((rd_T40 l0 x28_2).f10).length c178_10) := (blk_cell BK179.out 10).trans rfl; have hfz27_0 := blk_frozen BK179.out 0; have hfz27_1 := blk_frozen BK179.out 1; have hfz27_2 := blk_frozen BK179.out 2; have hfz27_3 := blk_frozen BK179.out 3; have hfz27_4 := blk_frozen BK179.out 4; have hfz27_5 := blk_frozen BK179.out 5; have hfz27_6 := blk_frozen BK179.out 6; have hfz27_7 := blk_frozen BK179.out 7; have hfz27_8 := blk_frozen BK179.out 8; have hfz27_9 := blk_frozen BK179.out 9; have hfz27_10 := blk_frozen BK179.out 10) | ((with_reducible refine gate_callee (f := 25) rfl ?_); refine goesL_ (some 41) rfl rfl Try.func25 (by kernel_rfl) rfl #[.agg #[.int .i64 x178000_2, .string x178001_2], .int .i64 (wrap64 ((wrap64 (1 + (wrap64 (Int.tmod (IntKind.u64.wrap (a1)) 1000)))) + x28_2)), .agg #[.int .i64 ((rd_T40 l0 x28_2).f0), .int .i64 ((rd_T40 l0 x28_2).f1), .int .i64 ((rd_T40 l0 x28_2).f2), .int .i64 ((rd_T40 l0 x28_2).f3), .int .i64 ((rd_T40 l0 x28_2).f4), .int .i64 ((rd_T40 l0 x28_2).f5), .int .i64 ((rd_T40 l0 x28_2).f6), .string ((rd_T40 l0 x28_2).f7), .string ((rd_T40 l0 x28_2).f8), .slice A178_9 ((rd_T40 l0 x28_2).f9).length c178_9, .slice A178_10 ((rd_T40 l0 x28_2).f10).length c178_10]] rfl (by (try simp only [List.map_toArray, List.map_cons, List.map_nil]); first | done | rfl | (simp only [List.length_drop, List.length_take]; rfl)) ?_; (with_reducible refine (page_Apply.calls k2 x178000_2 x178001_2 (wrap64 ((wrap64 (1 + (wrap64 (Int.tmod (IntKind.u64.wrap (a1)) 1000)))) + x28_2)) ((rd_T40 l0 x28_2).f0) ((rd_T40 l0 x28_2).f1) ((rd_T40 l0 x28_2).f2) ((rd_T40 l0 x28_2).f3) ((rd_T40 l0 x28_2).f4) ((rd_T40 l0 x28_2).f5) ((rd_T40 l0 x28_2).f6) ((rd_T40 l0 x28_2).f7) ((rd_T40 l0 x28_2).f8) _ _ ((rd_T40 l0 x28_2).f9) _ _ ((rd_T40 l0 x28_2).f10) t181 t182 _ ?side1 ?side2 ?side3 ?side4 A21.out).mono ?_); (case side1 => repeat (first | exact (Kd.C_below HR178_9.out HB.out) | (with_reducible refine Kd.C_alloc ?_ _) | (with_reducible refine Kd.C_drewN ?_ _) | (with_reducible refine Kd.C_drew ?_))); (case side2 => exact HC178_9.out); (case side3 => repeat (first | exact (Kd.C_below HR178_10.out HB.out) | (with_reducible refine Kd.C_alloc ?_ _) | (with_reducible refine Kd.C_drewN ?_ _) | (with_reducible refine Kd.C_drew ?_))); (case side4 => exact HC178_10.out); rintro e w28 ⟨rfl, hb⟩; refine ⟨_, rfl, ?_⟩; have n0_ := Aside0.mk (blk_below (g := gb177) (o := .cells #[.int .i64 x178000_2, .string x178001_2] 23 (0, 0)) (by (with_reducible repeat (first | refine blk_drewN ?_ _ | refine blk_drew ?_ | refine blk_alloc ?_ _)); exact BK177.out) hb); have n1_ := Aside0.mk (blk_below (g := gb179) (o := .cells #[.int .i64 ((rd_T40 l0 x28_2).f0), .int .i64 ((rd_T40 l0 x28_2).f1), .int .i64 ((rd_T40 l0 x28_2).f2), .int .i64 ((rd_T40 l0 x28_2).f3), .int .i64 ((rd_T40 l0 x28_2).f4), .int .i64 ((rd_T40 l0 x28_2).f5), .int .i64 ((rd_T40 l0 x28_2).f6), .string ((rd_T40 l0 x28_2).f7), .string ((rd_T40 l0 x28_2).f8), .slice A178_9 ((rd_T40 l0 x28_2).f9).length c178_9, .slice A178_10 ((rd_T40 l0 x28_2).f10).length c178_10] 40 (0, 0)) (by (with_reducible repeat (first | refine blk_drewN ?_ _ | refine blk_drew ?_ | refine blk_alloc ?_ _)); exact BK179.out) hb); have n2_ := Aside0.mk (below_step (by repeat (first | (with_reducible first | exact HB.out | apply below_alloc | apply pw_below_drewN | apply below_drew1 | refine below_set ?_ GE177.out | refine below_set ?_ GE179.out) | exact HB.out)) hb); clear BK177; clear BK179; clear HB; have BK177 := n0_; have BK179 := n1_; have HB := n2_; clear n0_ n1_ n2_; (try clear hb); (try clear hb2); (try clear hk); (try clear hi); have hcz29_0 : w28.cell? ⟨gb177, 0, none⟩ = some (.int .i64 x178000_2) := (blk_cell BK177.out 0).trans rfl; have hcz29_1 : w28.cell? ⟨gb177, 1, none⟩ = some (.string x178001_2) := (blk_cell BK177.out 1).trans rfl; have hfz29_0 := blk_frozen BK177.out 0; have hfz29_1 := blk_frozen BK177.out 1))
                    go_roundg k2
                    case measure => have := HJ3.out; have := HK2.out; omega
                    case rel => exact ⟨(wrap64 (x28_2 + 1)), (t181), (t182), (by first | rfl | (simp; done) | (simp [*]; done)), H', ⟨by have := HJ3.out; have := HK2.out; omega⟩, ⟨by (with_reducible repeat (first | refine blk_drewN ?_ _ | refine blk_drew ?_ | refine blk_alloc ?_ _)); refine blk_put (cs := #[.int .i64 t181, .string x178001_2]) ?_ 1 _ rfl; (with_reducible repeat (first | refine blk_drewN ?_ _ | refine blk_drew ?_ | refine blk_alloc ?_ _)); refine blk_put (cs := #[.int .i64 x178000_2, .string x178001_2]) ?_ 0 _ rfl; (with_reducible repeat (first | refine blk_drewN ?_ _ | refine blk_drew ?_ | refine blk_alloc ?_ _)); exact BK177.out⟩, ⟨by repeat (first | (with_reducible first | exact HB.out | apply below_alloc | apply pw_below_drewN | apply below_drew1 | refine below_set ?_ GE177.out | refine below_set ?_ GE179.out) | exact HB.out)⟩⟩
                  · replace c20 := Bool.eq_false_iff.mpr c20
                    subst c20
                    have H1 : (some true) = some r := by rw [if_neg (show ¬ (false = true) by decide)] at H; exact H
                    clear H
                    have H := H1
                    clear H1
                    obtain rfl := Option.some.inj H
                    have p178 : 0 ≤ (x28_2 : Int) := of_decide_eq_true (by first | (with_reducible assumption) | assumption)
                    have q178 : x28_2 < (l0.length : Int) := of_decide_eq_true (by first | (with_reducible assumption) | assumption)
                    obtain ⟨ad178, A178_9, c178_9, A178_10, c178_10, e178, hx178_0, hx178_1, hx178_2, hx178_3, hx178_4, hx178_5, hx178_6, hx178_7, hx178_8, hx178_9, hx178_10, hl178_9, hi178_9, hl178_10, hi178_10⟩ := at_T40 HR0.out x28_2 p178 q178
                    cases e178
                    replace hx178_0 := (HB.out.cell (World.block_lt_of_cell? w _ hx178_0)).trans hx178_0
                    replace hx178_1 := (HB.out.cell (World.block_lt_of_cell? w _ hx178_1)).trans hx178_1
                    replace hx178_2 := (HB.out.cell (World.block_lt_of_cell? w _ hx178_2)).trans hx178_2
                    replace hx178_3 := (HB.out.cell (World.block_lt_of_cell? w _ hx178_3)).trans hx178_3
                    replace hx178_4 := (HB.out.cell (World.block_lt_of_cell? w _ hx178_4)).trans hx178_4
                    replace hx178_5 := (HB.out.cell (World.block_lt_of_cell? w _ hx178_5)).trans hx178_5
                    replace hx178_6 := (HB.out.cell (World.block_lt_of_cell? w _ hx178_6)).trans hx178_6
                    replace hx178_7 := (HB.out.cell (World.block_lt_of_cell? w _ hx178_7)).trans hx178_7
                    replace hx178_8 := (HB.out.cell (World.block_lt_of_cell? w _ hx178_8)).trans hx178_8
                    replace hx178_9 := (HB.out.cell (World.block_lt_of_cell? w _ hx178_9)).trans hx178_9
                    replace hx178_10 := (HB.out.cell (World.block_lt_of_cell? w _ hx178_10)).trans hx178_10
                    have HR178_9 := Aside0.mk hi178_9
                    have HC178_9 := Aside0.mk hl178_9
                    clear hi178_9 hl178_9
                    have HR178_10 := Aside0.mk hi178_10
                    have HC178_10 := Aside0.mk hl178_10
                    clear hi178_10 hl178_10
                    replace p178 := eq_true p178
                    replace q178 := eq_true q178
                    go_wp2_with (first | ((with_reducible refine gate_dst (N := 9) rfl ?_); (try (refine gate_guard (by rfl) ?_; dsimp only)); refine box_event ?hg (N := 9) ?hd (cs := #[.int .i64 0, .int .i64 0, .int .i64 0, .int .i64 0, .int .i64 0, .int .i64 0, .int .i64 0, .string (⟨#[]⟩ : ByteArray), .string (⟨#[]⟩ : ByteArray), .slice none 0 0, .slice none 0 0]) (t := 40) ?hr ?_; (case hd => rfl); (case hg => rfl); (case hr => first | (go_simp; done) | (go_simp; rfl)); intro gb179 hg w30 hbox hb; have n0_ := Aside0.mk (blk_below (g := gb177) (o := .cells #[.int .i64 x178000_2, .string x178001_2] 23 (0, 0)) (by (with_reducible repeat (first | refine blk_drewN ?_ _ | refine blk_drew ?_ | refine blk_alloc ?_ _)); exact BK177.out) hb); have n1_ := Aside0.mk (below_step (by repeat (first | (with_reducible first | exact HB.out | apply below_alloc | apply pw_below_drewN | apply below_drew1 | refine below_set ?_ GE177.out) | exact HB.out)) hb); have n2_ := Aside0.mk (hbox); have n3_ := Aside0.mk ((by rw [hg]; exact (below_size (by repeat (first | (with_reducible first | exact HB.out | apply below_alloc | apply pw_below_drewN | apply below_drew1 | refine below_set ?_ GE177.out) | exact HB.out))) : w.heap.size ≤ gb179)); have n4_ := Aside0.mk ((by rw [hg]; exact (below_size (by repeat (first | (with_reducible first | exact HB.out | apply below_alloc | apply pw_below_drewN | apply below_drew1 | refine below_set ?_ GE177.out) | exact HB.out))) : w.heap.size ≤ gb179)); have n5_ := Aside0.mk ((by rw [hg]; exact Nat.ne_of_lt (blk_lt (g := gb177) (o := .cells #[.int .i64 x178000_2, .string x178001_2] 23 (0, 0)) (by (with_reducible repeat (first | refine blk_drewN ?_ _ | refine blk_drew ?_ | refine blk_alloc ?_ _)); exact BK177.out)) : gb177 ≠ gb179)); have n6_ := Aside0.mk ((by rw [hg]; exact Nat.ne_of_gt (blk_lt (g := gb177) (o := .cells #[.int .i64 x178000_2, .string x178001_2] 23 (0, 0)) (by (with_reducible repeat (first | refine blk_drewN ?_ _ | refine blk_drew ?_ | refine blk_alloc ?_ _)); exact BK177.out)) : gb179 ≠ gb177)); clear BK177; clear HB; have BK177 := n0_; have HB := n1_; have BK179 := n2_; have GW179 := n3_; have GE179 := n4_; have NB177_179 := n5_; have NB179_177 := n6_; clear n0_ n1_ n2_ n3_ n4_ n5_ n6_; clear hb hbox hg; have hnb31 := NB179_177.out; have hnc31 := NB177_179.out; have hcz32_0 : w30.cell? ⟨gb179, 0, none⟩ = some (.int .i64 0) := (blk_cell BK179.out 0).trans rfl; have hcz32_1 : w30.cell? ⟨gb179, 1, none⟩ = some (.int .i64 0) := (blk_cell BK179.out 1).trans rfl; have hcz32_2 : w30.cell? ⟨gb179, 2, none⟩ = some (.int .i64 0) := (blk_cell BK179.out 2).trans rfl; have hcz32_3 : w30.cell? ⟨gb179, 3, none⟩ = some (.int .i64 0) := (blk_cell BK179.out 3).trans rfl; have hcz32_4 : w30.cell? ⟨gb179, 4, none⟩ = some (.int .i64 0) := (blk_cell BK179.out 4).trans rfl; have hcz32_5 : w30.cell? ⟨gb179, 5, none⟩ = some (.int .i64 0) := (blk_cell BK179.out 5).trans rfl; have hcz32_6 : w30.cell? ⟨gb179, 6, none⟩ = some (.int .i64 0) := (blk_cell BK179.out 6).trans rfl; have hcz32_7 : w30.cell? ⟨gb179, 7, none⟩ = some (.string (⟨#[]⟩ : ByteArray)) := (blk_cell BK179.out 7).trans rfl; have hcz32_8 : w30.cell? ⟨gb179, 8, none⟩ = some (.string (⟨#[]⟩ : ByteArray)) := (blk_cell BK179.out 8).trans rfl; have hcz32_9 : w30.cell? ⟨gb179, 9, none⟩ = some (.slice none 0 0) := (blk_cell BK179.out 9).trans rfl; have hcz32_10 : w30.cell? ⟨gb179, 10, none⟩ = some (.slice none 0 0) := (blk_cell BK179.out 10).trans rfl; have hfz32_0 := blk_frozen BK179.out 0; have hfz32_1 := blk_frozen BK179.out 1; have hfz32_2 := blk_frozen BK179.out 2; have hfz32_3 := blk_frozen BK179.out 3; have hfz32_4 := blk_frozen BK179.out 4; have hfz32_5 := blk_frozen BK179.out 5; have hfz32_6 := blk_frozen BK179.out 6; have hfz32_7 := blk_frozen BK179.out 7; have hfz32_8 := blk_frozen BK179.out 8; have hfz32_9 := blk_frozen BK179.out 9; have hfz32_10 := blk_frozen BK179.out 10) | ((with_reducible refine gate_callee (f := 24) rfl ?_); refine goesL_ (some 34) rfl rfl Try.func24 (by kernel_rfl) rfl #[.agg #[.int .i64 ((rd_T40 l0 x28_2).f0), .int .i64 ((rd_T40 l0 x28_2).f1), .int .i64 ((rd_T40 l0 x28_2).f2), .int .i64 ((rd_T40 l0 x28_2).f3), .int .i64 ((rd_T40 l0 x28_2).f4), .int .i64 ((rd_T40 l0 x28_2).f5), .int .i64 ((rd_T40 l0 x28_2).f6), .string ((rd_T40 l0 x28_2).f7), .string ((rd_T40 l0 x28_2).f8), .slice A178_9 ((rd_T40 l0 x28_2).f9).length c178_9, .slice A178_10 ((rd_T40 l0 x28_2).f10).length c178_10]] rfl (by (try simp only [List.map_toArray, List.map_cons, List.map_nil]); first | done | rfl | (simp only [List.length_drop, List.length_take]; rfl)) ?_; (with_reducible refine (careenref04_Few.calls ((rd_T40 l0 x28_2).f0) ((rd_T40 l0 x28_2).f1) ((rd_T40 l0 x28_2).f2) ((rd_T40 l0 x28_2).f3) ((rd_T40 l0 x28_2).f4) ((rd_T40 l0 x28_2).f5) ((rd_T40 l0 x28_2).f6) ((rd_T40 l0 x28_2).f7) ((rd_T40 l0 x28_2).f8) _ _ ((rd_T40 l0 x28_2).f9) _ _ ((rd_T40 l0 x28_2).f10) false _ ?side1 ?side2 ?side3 ?side4 A19.out).mono ?_); (case side1 => exact Kd.C_below HR178_9.out (by repeat (first | (with_reducible first | exact HB.out | apply below_alloc | apply pw_below_drewN | apply below_drew1 | refine below_set ?_ GE177.out | refine below_set ?_ GE179.out) | exact HB.out))); (case side2 => exact HC178_9.out); (case side3 => exact Kd.C_below HR178_10.out (by repeat (first | (with_reducible first | exact HB.out | apply below_alloc | apply pw_below_drewN | apply below_drew1 | refine below_set ?_ GE177.out | refine below_set ?_ GE179.out) | exact HB.out))); (case side4 => exact HC178_10.out); rintro e w33 ⟨rfl, hb⟩; refine ⟨_, rfl, ?_⟩; have n0_ := Aside0.mk (blk_below (g := gb177) (o := .cells #[.int .i64 x178000_2, .string x178001_2] 23 (0, 0)) (by (with_reducible repeat (first | refine blk_drewN ?_ _ | refine blk_drew ?_ | refine blk_alloc ?_ _)); refine blk_far ?_ NB177_179.out _; (with_reducible repeat (first | refine blk_drewN ?_ _ | refine blk_drew ?_ | refine blk_alloc ?_ _)); refine blk_far ?_ NB177_179.out _; (with_reducible repeat (first | refine blk_drewN ?_ _ | refine blk_drew ?_ | refine blk_alloc ?_ _)); refine blk_far ?_ NB177_179.out _; (with_reducible repeat (first | refine blk_drewN ?_ _ | refine blk_drew ?_ | refine blk_alloc ?_ _)); refine blk_far ?_ NB177_179.out _; (with_reducible repeat (first | refine blk_drewN ?_ _ | refine blk_drew ?_ | refine blk_alloc ?_ _)); refine blk_far ?_ NB177_179.out _; (with_reducible repeat (first | refine blk_drewN ?_ _ | refine blk_drew ?_ | refine blk_alloc ?_ _)); refine blk_far ?_ NB177_179.out _; (with_reducible repeat (first | refine blk_drewN ?_ _ | refine blk_drew ?_ | refine blk_alloc ?_ _)); refine blk_far ?_ NB177_179.out _; (with_reducible repeat (first | refine blk_drewN ?_ _ | refine blk_drew ?_ | refine blk_alloc ?_ _)); refine blk_far ?_ NB177_179.out _; (with_reducible repeat (first | refine blk_drewN ?_ _ | refine blk_drew ?_ | refine blk_alloc ?_ _)); refine blk_far ?_ NB177_179.out _; (with_reducible repeat (first | refine blk_drewN ?_ _ | refine blk_drew ?_ | refine blk_alloc ?_ _)); refine blk_far ?_ NB177_179.out _; (with_reducible repeat (first | refine blk_drewN ?_ _ | refine blk_drew ?_ | refine blk_alloc ?_ _)); refine blk_far ?_ NB177_179.out _; (with_reducible repeat (first | refine blk_drewN ?_ _ | refine blk_drew ?_ | refine blk_alloc ?_ _)); exact BK177.out) hb); have n1_ := Aside0.mk (blk_below (g := gb179) (o := .cells #[.int .i64 ((rd_T40 l0 x28_2).f0), .int .i64 ((rd_T40 l0 x28_2).f1), .int .i64 ((rd_T40 l0 x28_2).f2), .int .i64 ((rd_T40 l0 x28_2).f3), .int .i64 ((rd_T40 l0 x28_2).f4), .int .i64 ((rd_T40 l0 x28_2).f5), .int .i64 ((rd_T40 l0 x28_2).f6), .string ((rd_T40 l0 x28_2).f7), .string ((rd_T40 l0 x28_2).f8), .slice A178_9 ((rd_T40 l0 x28_2).f9).length c178_9, .slice A178_10 ((rd_T40 l0 x28_2).f10).length c178_10] 40 (0, 0)) (by (with_reducible repeat (first | refine blk_drewN ?_ _ | refine blk_drew ?_ | refine blk_alloc ?_ _)); refine blk_put (cs := #[.int .i64 ((rd_T40 l0 x28_2).f0), .int .i64 ((rd_T40 l0 x28_2).f1), .int .i64 ((rd_T40 l0 x28_2).f2), .int .i64 ((rd_T40 l0 x28_2).f3), .int .i64 ((rd_T40 l0 x28_2).f4), .int .i64 ((rd_T40 l0 x28_2).f5), .int .i64 ((rd_T40 l0 x28_2).f6), .string ((rd_T40 l0 x28_2).f7), .string ((rd_T40 l0 x28_2).f8), .slice A178_9 ((rd_T40 l0 x28_2).f9).length c178_9, .slice none 0 0]) ?_ 10 _ rfl; (with_reducible repeat (first | refine blk_drewN ?_ _ | refine blk_drew ?_ | refine blk_alloc ?_ _)); refine blk_put (cs := #[.int .i64 ((rd_T40 l0 x28_2).f0), .int .i64 ((rd_T40 l0 x28_2).f1), .int .i64 ((rd_T40 l0 x28_2).f2), .int .i64 ((rd_T40 l0 x28_2).f3), .int .i64 ((rd_T40 l0 x28_2).f4), .int .i64 ((rd_T40 l0 x28_2).f5), .int .i64 ((rd_T40 l0 x28_2).f6), .string ((rd_T40 l0 x28_2).f7), .string ((rd_T40 l0 x28_2).f8), .slice none 0 0, .slice none 0 0]) ?_ 9 _ rfl; (with_reducible repeat (first | refine blk_drewN ?_ _ | refine blk_drew ?_ | refine blk_alloc ?_ _)); refine blk_put (cs := #[.int .i64 ((rd_T40 l0 x28_2).f0), .int .i64 ((rd_T40 l0 x28_2).f1), .int .i64 ((rd_T40 l0 x28_2).f2), .int .i64 ((rd_T40 l0 x28_2).f3), .int .i64 ((rd_T40 l0 x28_2).f4), .int .i64 ((rd_T40 l0 x28_2).f5), .int .i64 ((rd_T40 l0 x28_2).f6), .string ((rd_T40 l0 x28_2).f7), .string (⟨#[]⟩ : ByteArray), .slice none 0 0, .slice none 0 0]) ?_ 8 _ rfl; (with_reducible repeat (first | refine blk_drewN ?_ _ | refine blk_drew ?_ | refine blk_alloc ?_ _)); refine blk_put (cs := #[.int .i64 ((rd_T40 l0 x28_2).f0), .int .i64 ((rd_T40 l0 x28_2).f1), .int .i64 ((rd_T40 l0 x28_2).f2), .int .i64 ((rd_T40 l0 x28_2).f3), .int .i64 ((rd_T40 l0 x28_2).f4), .int .i64 ((rd_T40 l0 x28_2).f5), .int .i64 ((rd_T40 l0 x28_2).f6), .string (⟨#[]⟩ : ByteArray), .string (⟨#[]⟩ : ByteArray), .slice none 0 0, .slice none 0 0]) ?_ 7 _ rfl; (with_reducible repeat (first | refine blk_drewN ?_ _ | refine blk_drew ?_ | refine blk_alloc ?_ _)); refine blk_put (cs := #[.int .i64 ((rd_T40 l0 x28_2).f0), .int .i64 ((rd_T40 l0 x28_2).f1), .int .i64 ((rd_T40 l0 x28_2).f2), .int .i64 ((rd_T40 l0 x28_2).f3), .int .i64 ((rd_T40 l0 x28_2).f4), .int .i64 ((rd_T40 l0 x28_2).f5), .int .i64 0, .string (⟨#[]⟩ : ByteArray), .string (⟨#[]⟩ : ByteArray), .slice none 0 0, .slice none 0 0]) ?_ 6 _ rfl; (with_reducible repeat (first | refine blk_drewN ?_ _ | refine blk_drew ?_ | refine blk_alloc ?_ _)); refine blk_put (cs := #[.int .i64 ((rd_T40 l0 x28_2).f0), .int .i64 ((rd_T40 l0 x28_2).f1), .int .i64 ((rd_T40 l0 x28_2).f2), .int .i64 ((rd_T40 l0 x28_2).f3), .int .i64 ((rd_T40 l0 x28_2).f4), .int .i64 0, .int .i64 0, .string (⟨#[]⟩ : ByteArray), .string (⟨#[]⟩ : ByteArray), .slice none 0 0, .slice none 0 0]) ?_ 5 _ rfl; (with_reducible repeat (first | refine blk_drewN ?_ _ | refine blk_drew ?_ | refine blk_alloc ?_ _)); refine blk_put (cs := #[.int .i64 ((rd_T40 l0 x28_2).f0), .int .i64 ((rd_T40 l0 x28_2).f1), .int .i64 ((rd_T40 l0 x28_2).f2), .int .i64 ((rd_T40 l0 x28_2).f3), .int .i64 0, .int .i64 0, .int .i64 0, .string (⟨#[]⟩ : ByteArray), .string (⟨#[]⟩ : ByteArray), .slice none 0 0, .slice none 0 0]) ?_ 4 _ rfl; (with_reducible repeat (first | refine blk_drewN ?_ _ | refine blk_drew ?_ | refine blk_alloc ?_ _)); refine blk_put (cs := #[.int .i64 ((rd_T40 l0 x28_2).f0), .int .i64 ((rd_T40 l0 x28_2).f1), .int .i64 ((rd_T40 l0 x28_2).f2), .int .i64 0, .int .i64 0, .int .i64 0, .int .i64 0, .string (⟨#[]⟩ : ByteArray), .string (⟨#[]⟩ : ByteArray), .slice none 0 0, .slice none 0 0]) ?_ 3 _ rfl; (with_reducible repeat (first | refine blk_drewN ?_ _ | refine blk_drew ?_ | refine blk_alloc ?_ _)); refine blk_put (cs := #[.int .i64 ((rd_T40 l0 x28_2).f0), .int .i64 ((rd_T40 l0 x28_2).f1), .int .i64 0, .int .i64 0, .int .i64 0, .int .i64 0, .int .i64 0, .string (⟨#[]⟩ : ByteArray), .string (⟨#[]⟩ : ByteArray), .slice none 0 0, .slice none 0 0]) ?_ 2 _ rfl; (with_reducible repeat (first | refine blk_drewN ?_ _ | refine blk_drew ?_ | refine blk_alloc ?_ _)); refine blk_put (cs := #[.int .i64 ((rd_T40 l0 x28_2).f0), .int .i64 0, .int .i64 0, .int .i64 0, .int .i64 0, .int .i64 0, .int .i64 0, .string (⟨#[]⟩ : ByteArray), .string (⟨#[]⟩ : ByteArray), .slice none 0 0, .slice none 0 0]) ?_ 1 _ rfl; (with_reducible repeat (first | refine blk_drewN ?_ _ | refine blk_drew ?_ | refine blk_alloc ?_ _)); refine blk_put (cs := #[.int .i64 0, .int .i64 0, .int .i64 0, .int .i64 0, .int .i64 0, .int .i64 0, .int .i64 0, .string (⟨#[]⟩ : ByteArray), .string (⟨#[]⟩ : ByteArray), .slice none 0 0, .slice none 0 0]) ?_ 0 _ rfl; (with_reducible repeat (first | refine blk_drewN ?_ _ | refine blk_drew ?_ | refine blk_alloc ?_ _)); exact BK179.out) hb); have n2_ := Aside0.mk (below_step (by repeat (first | (with_reducible first | exact HB.out | apply below_alloc | apply pw_below_drewN | apply below_drew1 | refine below_set ?_ GE177.out | refine below_set ?_ GE179.out) | exact HB.out)) hb); clear BK177; clear BK179; clear HB; have BK177 := n0_; have BK179 := n1_; have HB := n2_; clear n0_ n1_ n2_; (try clear hb); (try clear hb2); (try clear hk); (try clear hi)))
                    go_ret
                    exact ⟨by first | rfl | (simp [errW_none, errW_some] <;> rfl) | (simp [*, errW_none, errW_some] <;> rfl), by repeat (first | (with_reducible first | exact HB.out | apply below_alloc | apply pw_below_drewN | apply below_drew1 | refine below_set ?_ GE177.out | refine below_set ?_ GE179.out) | exact HB.out)⟩
                · rw [if_neg c18] at H
                  exact absurd H (by simp)
              · rw [if_neg c17] at H
                exact absurd H (by simp)
            · rw [if_neg c16] at H
              have c16b0 : decide (x28_2 < (l0.length : Int)) = false := decide_eq_false c16
              clear c16
              by_cases c34 : (IntKind.u64.wrap (wrap64 ((l0.length : Int) + 1))) = 0
              · rw [if_pos c34] at H
                exact absurd H (by simp)
              · rw [if_neg c34] at H
                have c34b0 : ((IntKind.u64.wrap (wrap64 ((l0.length : Int) + 1))) == 0) = false := beq_eq_false_iff_ne.mpr c34
                have c34b1 : ((IntKind.u64.wrap (wrap64 ((l0.length : Int) + 1))) != 0) = true := bne_iff_ne.mpr c34
                have H' := Aside0.mk H
                clear H
                have hcz35_0 : wr.cell? ⟨gb177, 0, none⟩ = some (.int .i64 x178000_2) := (blk_cell BK177.out 0).trans rfl
                have hcz35_1 : wr.cell? ⟨gb177, 1, none⟩ = some (.string x178001_2) := (blk_cell BK177.out 1).trans rfl
                have hfz35_0 := blk_frozen BK177.out 0
                have hfz35_1 := blk_frozen BK177.out 1
                go_wp2_with (first | ((with_reducible refine gate_dst (N := 10) rfl ?_); (try (refine gate_guard (by rfl) ?_; dsimp only)); refine box_event ?hg (N := 10) ?hd (cs := #[.int .i64 0, .string (⟨#[]⟩ : ByteArray)]) (t := 23) ?hr ?_; (case hd => rfl); (case hg => rfl); (case hr => first | (go_simp; done) | (go_simp; rfl)); intro gb183 hg w36 hbox hb; have n0_ := Aside0.mk (blk_below (g := gb177) (o := .cells #[.int .i64 x178000_2, .string x178001_2] 23 (0, 0)) (by (with_reducible repeat (first | refine blk_drewN ?_ _ | refine blk_drew ?_ | refine blk_alloc ?_ _)); exact BK177.out) hb); have n1_ := Aside0.mk (below_step (by repeat (first | (with_reducible first | exact HB.out | apply below_alloc | apply pw_below_drewN | apply below_drew1 | refine below_set ?_ GE177.out) | exact HB.out)) hb); have n2_ := Aside0.mk (hbox); have n3_ := Aside0.mk ((by rw [hg]; exact (below_size (by repeat (first | (with_reducible first | exact HB.out | apply below_alloc | apply pw_below_drewN | apply below_drew1 | refine below_set ?_ GE177.out) | exact HB.out))) : w.heap.size ≤ gb183)); have n4_ := Aside0.mk ((by rw [hg]; exact (below_size (by repeat (first | (with_reducible first | exact HB.out | apply below_alloc | apply pw_below_drewN | apply below_drew1 | refine below_set ?_ GE177.out) | exact HB.out))) : w.heap.size ≤ gb183)); have n5_ := Aside0.mk ((by rw [hg]; exact Nat.ne_of_lt (blk_lt (g := gb177) (o := .cells #[.int .i64 x178000_2, .string x178001_2] 23 (0, 0)) (by (with_reducible repeat (first | refine blk_drewN ?_ _ | refine blk_drew ?_ | refine blk_alloc ?_ _)); exact BK177.out)) : gb177 ≠ gb183)); have n6_ := Aside0.mk ((by rw [hg]; exact Nat.ne_of_gt (blk_lt (g := gb177) (o := .cells #[.int .i64 x178000_2, .string x178001_2] 23 (0, 0)) (by (with_reducible repeat (first | refine blk_drewN ?_ _ | refine blk_drew ?_ | refine blk_alloc ?_ _)); exact BK177.out)) : gb183 ≠ gb177)); clear BK177; clear HB; have BK177 := n0_; have HB := n1_; have BK183 := n2_; have GW183 := n3_; have GE183 := n4_; have NB177_183 := n5_; have NB183_177 := n6_; clear n0_ n1_ n2_ n3_ n4_ n5_ n6_; clear hb hbox hg; have hnb37 := NB183_177.out; have hnc37 := NB177_183.out; have hcz38_0 : w36.cell? ⟨gb183, 0, none⟩ = some (.int .i64 0) := (blk_cell BK183.out 0).trans rfl; have hcz38_1 : w36.cell? ⟨gb183, 1, none⟩ = some (.string (⟨#[]⟩ : ByteArray)) := (blk_cell BK183.out 1).trans rfl; have hfz38_0 := blk_frozen BK183.out 0; have hfz38_1 := blk_frozen BK183.out 1))
                go_loopg [11] k2 (fun kq v11 w' => ∃ (x11_3 : Int) (x184000_3 : Int) (x184001_3 : ByteArray), v11 = .int .i64 x11_3 ∧ Aside0 (careenlaw06_PageAgain.l1 kq l0 (wrap64 (1 + (wrap64 (Int.tmod (IntKind.u64.wrap (a1)) 1000)))) x11_3 x178000_2 x178001_2 x184000_3 x184001_3 = some r) ∧ Aside0 (kq ≤ k2) ∧ Aside0 (w'.heap[gb177]? = some (.cells #[.int .i64 x178000_2, .string x178001_2] 23 (0, 0))) ∧ Aside0 (w'.heap[gb183]? = some (.cells #[.int .i64 x184000_3, .string x184001_3] 23 (0, 0))) ∧ Aside0 (Below w.heap.size w w'))
                case atStart => exact ⟨(wrap64 (Int.tmod (IntKind.u64.wrap (a2)) (IntKind.u64.wrap (wrap64 ((l0.length : Int) + 1))))), (x178000_2), (x178001_2), (by first | rfl | (simp; done) | (simp [*]; done)), H', ⟨Nat.le_refl _⟩, ⟨by (with_reducible repeat (first | refine blk_drewN ?_ _ | refine blk_drew ?_ | refine blk_alloc ?_ _)); refine blk_far ?_ NB177_183.out _; (with_reducible repeat (first | refine blk_drewN ?_ _ | refine blk_drew ?_ | refine blk_alloc ?_ _)); refine blk_far ?_ NB177_183.out _; (with_reducible repeat (first | refine blk_drewN ?_ _ | refine blk_drew ?_ | refine blk_alloc ?_ _)); exact BK177.out⟩, ⟨by (with_reducible repeat (first | refine blk_drewN ?_ _ | refine blk_drew ?_ | refine blk_alloc ?_ _)); refine blk_put (cs := #[.int .i64 x178000_2, .string (⟨#[]⟩ : ByteArray)]) ?_ 1 _ rfl; (with_reducible repeat (first | refine blk_drewN ?_ _ | refine blk_drew ?_ | refine blk_alloc ?_ _)); refine blk_put (cs := #[.int .i64 0, .string (⟨#[]⟩ : ByteArray)]) ?_ 0 _ rfl; (with_reducible repeat (first | refine blk_drewN ?_ _ | refine blk_drew ?_ | refine blk_alloc ?_ _)); exact BK183.out⟩, ⟨by repeat (first | (with_reducible first | exact HB.out | apply below_alloc | apply pw_below_drewN | apply below_drew1 | refine below_set ?_ GE177.out | refine below_set ?_ GE183.out) | exact HB.out)⟩⟩
                case round =>
                  clear H'
                  try clear c1
                  try clear p1
                  try clear q1
                  try clear hx1
                  try clear c2
                  try clear p2
                  try clear c3
                  try clear c5
                  try clear c6
                  try clear p6
                  try clear c9
                  try clear c15
                  try clear c16
                  try clear c16b0
                  try clear c17
                  try clear c17b0
                  try clear p17
                  try clear q17
                  try clear hx17
                  try clear c18
                  try clear c18b0
                  try clear c20
                  try clear c22
                  try clear c23
                  try clear c24
                  try clear c25
                  try clear c31
                  try clear c34
                  try clear c34b0
                  try clear c34b1
                  try clear c37
                  try clear hcz15_0
                  try clear hcz15_1
                  try clear hcz24_0
                  try clear hcz24_1
                  try clear hcz24_10
                  try clear hcz24_2
                  try clear hcz24_3
                  try clear hcz24_4
                  try clear hcz24_5
                  try clear hcz24_6
                  try clear hcz24_7
                  try clear hcz24_8
                  try clear hcz24_9
                  try clear hcz26_0
                  try clear hcz26_1
                  try clear hcz27_0
                  try clear hcz27_1
                  try clear hcz27_10
                  try clear hcz27_2
                  try clear hcz27_3
                  try clear hcz27_4
                  try clear hcz27_5
                  try clear hcz27_6
                  try clear hcz27_7
                  try clear hcz27_8
                  try clear hcz27_9
                  try clear hcz29_0
                  try clear hcz29_1
                  try clear hcz32_0
                  try clear hcz32_1
                  try clear hcz32_10
                  try clear hcz32_2
                  try clear hcz32_3
                  try clear hcz32_4
                  try clear hcz32_5
                  try clear hcz32_6
                  try clear hcz32_7
                  try clear hcz32_8
                  try clear hcz32_9
                  try clear hcz35_0
                  try clear hcz35_1
                  try clear hcz38_0
                  try clear hcz38_1
                  try clear hfz15_0
                  try clear hfz15_1
                  try clear hfz24_0
                  try clear hfz24_1
                  try clear hfz24_10
                  try clear hfz24_2
                  try clear hfz24_3
                  try clear hfz24_4
                  try clear hfz24_5
                  try clear hfz24_6
                  try clear hfz24_7
                  try clear hfz24_8
                  try clear hfz24_9
                  try clear hfz26_0
                  try clear hfz26_1
                  try clear hfz27_0
                  try clear hfz27_1
                  try clear hfz27_10
                  try clear hfz27_2
                  try clear hfz27_3
                  try clear hfz27_4
                  try clear hfz27_5
                  try clear hfz27_6
                  try clear hfz27_7
                  try clear hfz27_8
                  try clear hfz27_9
                  try clear hfz29_0
                  try clear hfz29_1
                  try clear hfz32_0
                  try clear hfz32_1
                  try clear hfz32_10
                  try clear hfz32_2
                  try clear hfz32_3
                  try clear hfz32_4
                  try clear hfz32_5
                  try clear hfz32_6
                  try clear hfz32_7
                  try clear hfz32_8
                  try clear hfz32_9
                  try clear hfz35_0
                  try clear hfz35_1
                  try clear hfz38_0
                  try clear hfz38_1
                  try clear hx178_0
                  try clear hx178_1
                  try clear hx178_10
                  try clear hx178_2
                  try clear hx178_3
                  try clear hx178_4
                  try clear hx178_5
                  try clear hx178_6
                  try clear hx178_7
                  try clear hx178_8
                  try clear hx178_9
                  try clear p178
                  try clear p2
                  try clear p6
                  try clear q178
                  obtain ⟨x11_3, x184000_3, x184001_3, rfl, HA, HK3, BK177, BK183, HB⟩ := hrel
                  cases gk with
                  | zero => exact absurd HA.out (by simp [careenlaw06_PageAgain.l1])
                  | succ k3 =>
                    have H := HA.out
                    clear HA
                    simp only [careenlaw06_PageAgain.l1] at H
                    by_cases c39 : x11_3 < (l0.length : Int)
                    · rw [if_pos c39] at H
                      have c39b0 : decide (x11_3 < (l0.length : Int)) = true := decide_eq_true c39
                      clear c39
                      by_cases c40 : 0 ≤ x11_3
                      · rw [if_pos c40] at H
                        have c40b0 : decide (0 ≤ x11_3) = true := decide_eq_true c40
                        clear c40
                        replace H := Option.bind_eq_some_iff.mp H
                        obtain ⟨⟨t185, t186⟩, A410, H⟩ := H
                        replace H : (careenlaw06_PageAgain.l1 k3 l0 (wrap64 (1 + (wrap64 (Int.tmod (IntKind.u64.wrap (a1)) 1000)))) (wrap64 (x11_3 + 1)) x178000_2 x178001_2 t185 t186) = some r := H
                        have A41 := Aside0.mk A410
                        clear A410
                        have H' := Aside0.mk H
                        clear H
                        try go_wp2
                        have n0_ := Aside0.mk (blk_drew BK177.out)
                        have n1_ := Aside0.mk (blk_drew BK183.out)
                        have n2_ := Aside0.mk (below_drew1 HB.out)
                        clear BK177
                        clear BK183
                        clear HB
                        have BK177 := n0_
                        have BK183 := n1_
                        have HB := n2_
                        clear n0_ n1_ n2_
                        have p184 : 0 ≤ (x11_3 : Int) := of_decide_eq_true (by first | (with_reducible assumption) | assumption)
                        have q184 : x11_3 < (l0.length : Int) := of_decide_eq_true (by first | (with_reducible assumption) | assumption)
                        obtain ⟨ad184, A184_9, c184_9, A184_10, c184_10, e184, hx184_0, hx184_1, hx184_2, hx184_3, hx184_4, hx184_5, hx184_6, hx184_7, hx184_8, hx184_9, hx184_10, hl184_9, hi184_9, hl184_10, hi184_10⟩ := at_T40 HR0.out x11_3 p184 q184
                        have hw184_10 := hx184_10
                        have hw184_9 := hx184_9
                        have hw184_8 := hx184_8
                        have hw184_7 := hx184_7
                        have hw184_6 := hx184_6
                        have hw184_5 := hx184_5
                        have hw184_4 := hx184_4
                        have hw184_3 := hx184_3
                        have hw184_2 := hx184_2
                        have hw184_1 := hx184_1
                        have hw184_0 := hx184_0
                        cases e184
                        replace hx184_0 := (HB.out.cell (World.block_lt_of_cell? w _ hx184_0)).trans hx184_0
                        replace hx184_1 := (HB.out.cell (World.block_lt_of_cell? w _ hx184_1)).trans hx184_1
                        replace hx184_2 := (HB.out.cell (World.block_lt_of_cell? w _ hx184_2)).trans hx184_2
                        replace hx184_3 := (HB.out.cell (World.block_lt_of_cell? w _ hx184_3)).trans hx184_3
                        replace hx184_4 := (HB.out.cell (World.block_lt_of_cell? w _ hx184_4)).trans hx184_4
                        replace hx184_5 := (HB.out.cell (World.block_lt_of_cell? w _ hx184_5)).trans hx184_5
                        replace hx184_6 := (HB.out.cell (World.block_lt_of_cell? w _ hx184_6)).trans hx184_6
                        replace hx184_7 := (HB.out.cell (World.block_lt_of_cell? w _ hx184_7)).trans hx184_7
                        replace hx184_8 := (HB.out.cell (World.block_lt_of_cell? w _ hx184_8)).trans hx184_8
                        replace hx184_9 := (HB.out.cell (World.block_lt_of_cell? w _ hx184_9)).trans hx184_9
                        replace hx184_10 := (HB.out.cell (World.block_lt_of_cell? w _ hx184_10)).trans hx184_10
                        have HR184_9 := Aside0.mk hi184_9
                        have HC184_9 := Aside0.mk hl184_9
                        clear hi184_9 hl184_9
                        have HR184_10 := Aside0.mk hi184_10
                        have HC184_10 := Aside0.mk hl184_10
                        clear hi184_10 hl184_10
                        replace p184 := eq_true p184
                        replace q184 := eq_true q184
                        refine start_ (n := 10) (S := fun w' => w'.cell? ⟨gb183, 0, none⟩ = some (.int .i64 x184000_3) ∧ w'.cell? ⟨gb183, 1, none⟩ = some (.string x184001_3) ∧ w'.cell? (ad184.add ((x11_3).toNat * 11)) = some (.int .i64 ((rd_T40 l0 x11_3).f0)) ∧ w'.cell? ⟨(ad184.add ((x11_3).toNat * 11)).block, (ad184.add ((x11_3).toNat * 11)).off + 1, none⟩ = some (.int .i64 ((rd_T40 l0 x11_3).f1)) ∧ w'.cell? ⟨(ad184.add ((x11_3).toNat * 11)).block, (ad184.add ((x11_3).toNat * 11)).off + 2, none⟩ = some (.int .i64 ((rd_T40 l0 x11_3).f2)) ∧ w'.cell? ⟨(ad184.add ((x11_3).toNat * 11)).block, (ad184.add ((x11_3).toNat * 11)).off + 3, none⟩ = some (.int .i64 ((rd_T40 l0 x11_3).f3)) ∧ w'.cell? ⟨(ad184.add ((x11_3).toNat * 11)).block, (ad184.add ((x11_3).toNat * 11)).off + 4, none⟩ = some (.int .i64 ((rd_T40 l0 x11_3).f4)) ∧ w'.cell? ⟨(ad184.add ((x11_3).toNat * 11)).block, (ad184.add ((x11_3).toNat * 11)).off + 5, none⟩ = some (.int .i64 ((rd_T40 l0 x11_3).f5)) ∧ w'.cell? ⟨(ad184.add ((x11_3).toNat * 11)).block, (ad184.add ((x11_3).toNat * 11)).off + 6, none⟩ = some (.int .i64 ((rd_T40 l0 x11_3).f6)) ∧ w'.cell? ⟨(ad184.add ((x11_3).toNat * 11)).block, (ad184.add ((x11_3).toNat * 11)).off + 7, none⟩ = some (.string ((rd_T40 l0 x11_3).f7)) ∧ w'.cell? ⟨(ad184.add ((x11_3).toNat * 11)).block, (ad184.add ((x11_3).toNat * 11)).off + 8, none⟩ = some (.string ((rd_T40 l0 x11_3).f8)) ∧ w'.cell? ⟨(ad184.add ((x11_3).toNat * 11)).block, (ad184.add ((x11_3).toNat * 11)).off + 9, none⟩ = some (.slice A184_9 ((rd_T40 l0 x11_3).f9).length c184_9) ∧ w'.cell? ⟨(ad184.add ((x11_3).toNat * 11)).block, (ad184.add ((x11_3).toNat * 11)).off + 10, none⟩ = some (.slice A184_10 ((rd_T40 l0 x11_3).f10).length c184_10)) (ds := [9]) #[false, false, false, false, false, false, false, false, false, false] (by kernel_rfl) rfl rfl ⟨(blk_cell BK183.out 0).trans rfl, (blk_cell BK183.out 1).trans rfl, ((HB.out.cell (World.block_lt_of_cell? w _ hw184_0)).trans hw184_0), ((HB.out.cell (World.block_lt_of_cell? w _ hw184_1)).trans hw184_1), ((HB.out.cell (World.block_lt_of_cell? w _ hw184_2)).trans hw184_2), ((HB.out.cell (World.block_lt_of_cell? w _ hw184_3)).trans hw184_3), ((HB.out.cell (World.block_lt_of_cell? w _ hw184_4)).trans hw184_4), ((HB.out.cell (World.block_lt_of_cell? w _ hw184_5)).trans hw184_5), ((HB.out.cell (World.block_lt_of_cell? w _ hw184_6)).trans hw184_6), ((HB.out.cell (World.block_lt_of_cell? w _ hw184_7)).trans hw184_7), ((HB.out.cell (World.block_lt_of_cell? w _ hw184_8)).trans hw184_8), ((HB.out.cell (World.block_lt_of_cell? w _ hw184_9)).trans hw184_9), ((HB.out.cell (World.block_lt_of_cell? w _ hw184_10)).trans hw184_10)⟩ (fun hHeld => ?_); refine with_tabW careenlaw06_PageAgain.tab16 careenlaw06_PageAgain.bits16 (fun HT_ HW_ => ?_)
                        generalize wr.drew = w42 at BK177 BK183 HB HR184_10 HR184_9 hx184_0 hx184_1 hx184_10 hx184_2 hx184_3 hx184_4 hx184_5 hx184_6 hx184_7 hx184_8 hx184_9 hHeld ⊢
                        refine pure_ (i := 1) (N := some 59) (v := ?_) (a' := ?_) #[false, true, false, false, false, false, false, false, false, false] rfl rfl (any_of HT_.out (by kernel_rfl)) (fun _ _ _ h => h) (Or.inl ⟨by rfl, ?_⟩) ?_ ?_
                        rotate_left
                        · intro w'
                          go_simp
                          with_reducible rfl
                        rotate_left
                        · simp only [Act.put, List.setIfInBounds_toArray, List.set_cons_zero, List.set_cons_succ, i64_w, i32_w]
                          rfl
                        refine pure_ (i := 2) (N := some 60) (v := ?_) (a' := ?_) #[false, true, true, false, false, false, false, false, false, false] rfl rfl (any_of HT_.out (by kernel_rfl)) (fun _ _ _ h => h) (Or.inl ⟨by rfl, ?_⟩) ?_ ?_
                        rotate_left
                        · intro w'
                          go_simp
                          with_reducible rfl
                        rotate_left
                        · simp only [Act.put, List.setIfInBounds_toArray, List.set_cons_zero, List.set_cons_succ, i64_w, i32_w]
                          rfl
                        refine pure_ (i := 3) (N := some 61) (v := ?_) (a' := ?_) #[false, true, true, true, false, false, false, false, false, false] rfl rfl (any_of HT_.out (by kernel_rfl)) (fun _ _ _ h => h) (Or.inl ⟨by rfl, ?_⟩) ?_ ?_
                        rotate_left
                        · intro w'
                          go_simp
                          with_reducible rfl
                        rotate_left
                        · simp only [Act.put, List.setIfInBounds_toArray, List.set_cons_zero, List.set_cons_succ, i64_w, i32_w]
                          rfl
                        refine pure_ (i := 4) (N := some 62) (v := ?_) (a' := ?_) #[false, true, true, true, true, false, false, false, false, false] rfl rfl (any_of HT_.out (by kernel_rfl)) (fun _ _ _ h => h) (Or.inl ⟨by rfl, ?_⟩) ?_ ?_
                        rotate_left
                        · intro w'
                          go_simp
                          with_reducible rfl
                        rotate_left
                        · simp only [Act.put, List.setIfInBounds_toArray, List.set_cons_zero, List.set_cons_succ, i64_w, i32_w]
                          rfl
                        refine pure_ (i := 5) (N := some 63) (v := ?_) (a' := ?_) #[false, true, true, true, true, true, false, false, false, false] rfl rfl (any_of HT_.out (by kernel_rfl)) (fun _ _ _ h => h) (Or.inl ⟨by rfl, ?_⟩) ?_ ?_
                        rotate_left
                        · intro w'
                          go_simp
                          with_reducible rfl
                        rotate_left
                        · simp only [Act.put, List.setIfInBounds_toArray, List.set_cons_zero, List.set_cons_succ, i64_w, i32_w]
                          rfl
                        refine pure_ (i := 6) (N := some 64) (v := ?_) (a' := ?_) #[false, true, true, true, true, true, true, false, false, false] rfl rfl (any_of HT_.out (by kernel_rfl)) (fun _ _ _ h => h) (Or.inl ⟨by rfl, ?_⟩) ?_ ?_
                        rotate_left
                        · intro w'
                          go_simp
                          with_reducible rfl
                        rotate_left
                        · simp only [Act.put, List.setIfInBounds_toArray, List.set_cons_zero, List.set_cons_succ, i64_w, i32_w]
                          rfl
                        refine take_ (i := 0) (N := some 58) (v := ?_) (a' := ?_) #[true, true, true, true, true, true, true, false, false, false] rfl rfl (take_ofW HT_.out HW_.out (by kernel_rfl)) (fun _ _ _ h => h) (Or.inl ⟨by rfl, ?_⟩) hHeld ?_ ?_
                        rotate_left
                        · rintro w' ⟨s0, s1, s2, s3, s4, s5, s6, s7, s8, s9, s10, s11, s12⟩
                          go_simp
                          with_reducible rfl
                        rotate_left
                        · simp only [Act.put, List.setIfInBounds_toArray, List.set_cons_zero, List.set_cons_succ, i64_w, i32_w]
                          rfl
                        refine take_ (i := 7) (N := some 65) (v := ?_) (a' := ?_) #[true, true, true, true, true, true, true, true, false, false] rfl rfl (take_ofW HT_.out HW_.out (by kernel_rfl)) (fun _ _ _ h => h) (Or.inl ⟨by rfl, ?_⟩) hHeld ?_ ?_
                        rotate_left
                        · rintro w' ⟨s0, s1, s2, s3, s4, s5, s6, s7, s8, s9, s10, s11, s12⟩
                          go_simp
                          with_reducible rfl
                        rotate_left
                        · simp only [Act.put, List.setIfInBounds_toArray, List.set_cons_zero, List.set_cons_succ, i64_w, i32_w]
                          rfl
                        refine one_ (i := 8) (N := some 66) #[true, true, true, true, true, true, true, true, true, false] rfl rfl (one_of HT_.out (by kernel_rfl)) (by decide) (fun K hK => ?_)
                        refine goes_ Try.func25 (by kernel_rfl) rfl #[.agg #[.int .i64 x184000_3, .string x184001_3], .int .i64 (wrap64 ((wrap64 (1 + (wrap64 (Int.tmod (IntKind.u64.wrap (a1)) 1000)))) + x11_3)), .agg #[.int .i64 ((rd_T40 l0 x11_3).f0), .int .i64 ((rd_T40 l0 x11_3).f1), .int .i64 ((rd_T40 l0 x11_3).f2), .int .i64 ((rd_T40 l0 x11_3).f3), .int .i64 ((rd_T40 l0 x11_3).f4), .int .i64 ((rd_T40 l0 x11_3).f5), .int .i64 ((rd_T40 l0 x11_3).f6), .string ((rd_T40 l0 x11_3).f7), .string ((rd_T40 l0 x11_3).f8), .slice A184_9 ((rd_T40 l0 x11_3).f9).length c184_9, .slice A184_10 ((rd_T40 l0 x11_3).f10).length c184_10]] (by rfl) rfl rfl (by (try simp only [List.map_toArray, List.map_cons, List.map_nil]); first | done | rfl | (simp only [List.length_drop, List.length_take]; rfl)) ?_
                        with_reducible refine (page_Apply.calls k3 x184000_3 x184001_3 (wrap64 ((wrap64 (1 + (wrap64 (Int.tmod (IntKind.u64.wrap (a1)) 1000)))) + x11_3)) ((rd_T40 l0 x11_3).f0) ((rd_T40 l0 x11_3).f1) ((rd_T40 l0 x11_3).f2) ((rd_T40 l0 x11_3).f3) ((rd_T40 l0 x11_3).f4) ((rd_T40 l0 x11_3).f5) ((rd_T40 l0 x11_3).f6) ((rd_T40 l0 x11_3).f7) ((rd_T40 l0 x11_3).f8) _ _ ((rd_T40 l0 x11_3).f9) _ _ ((rd_T40 l0 x11_3).f10) t185 t186 _ ?side1 ?side2 ?side3 ?side4 A41.out).mono ?_
                        (case side1 => repeat (first | exact (Kd.C_below HR184_9.out HB.out) | (with_reducible refine Kd.C_alloc ?_ _) | (with_reducible refine Kd.C_drewN ?_ _) | (with_reducible refine Kd.C_drew ?_)))
                        (case side2 => exact HC184_9.out)
                        (case side3 => repeat (first | exact (Kd.C_below HR184_10.out HB.out) | (with_reducible refine Kd.C_alloc ?_ _) | (with_reducible refine Kd.C_drewN ?_ _) | (with_reducible refine Kd.C_drew ?_)))
                        (case side4 => exact HC184_10.out)
                        rintro e w43 ⟨rfl, hb⟩
                        refine ⟨_, rfl, ?_⟩
                        have n0_ := Aside0.mk (blk_below (g := gb177) (o := .cells #[.int .i64 x178000_2, .string x178001_2] 23 (0, 0)) (by (with_reducible repeat (first | refine blk_drewN ?_ _ | refine blk_drew ?_ | refine blk_alloc ?_ _)); exact BK177.out) hb)
                        have n1_ := Aside0.mk (blk_below (g := gb183) (o := .cells #[.int .i64 x184000_3, .string x184001_3] 23 (0, 0)) (by (with_reducible repeat (first | refine blk_drewN ?_ _ | refine blk_drew ?_ | refine blk_alloc ?_ _)); exact BK183.out) hb)
                        have n2_ := Aside0.mk (below_step (by repeat (first | (with_reducible first | exact HB.out | apply below_alloc | apply pw_below_drewN | apply below_drew1 | refine below_set ?_ GE177.out | refine below_set ?_ GE183.out) | exact HB.out)) hb)
                        clear BK177
                        clear BK183
                        clear HB
                        have BK177 := n0_
                        have BK183 := n1_
                        have HB := n2_
                        clear n0_ n1_ n2_
                        (try clear hb)
                        (try clear hb2)
                        (try clear hk)
                        (try clear hi)
                        refine hK.out _ _ ⟨(blk_cell BK183.out 0).trans rfl, (blk_cell BK183.out 1).trans rfl, ((HB.out.cell (World.block_lt_of_cell? w _ hw184_0)).trans hw184_0), ((HB.out.cell (World.block_lt_of_cell? w _ hw184_1)).trans hw184_1), ((HB.out.cell (World.block_lt_of_cell? w _ hw184_2)).trans hw184_2), ((HB.out.cell (World.block_lt_of_cell? w _ hw184_3)).trans hw184_3), ((HB.out.cell (World.block_lt_of_cell? w _ hw184_4)).trans hw184_4), ((HB.out.cell (World.block_lt_of_cell? w _ hw184_5)).trans hw184_5), ((HB.out.cell (World.block_lt_of_cell? w _ hw184_6)).trans hw184_6), ((HB.out.cell (World.block_lt_of_cell? w _ hw184_7)).trans hw184_7), ((HB.out.cell (World.block_lt_of_cell? w _ hw184_8)).trans hw184_8), ((HB.out.cell (World.block_lt_of_cell? w _ hw184_9)).trans hw184_9), ((HB.out.cell (World.block_lt_of_cell? w _ hw184_10)).trans hw184_10)⟩ (fun hHeld => ?_)
                        clear hK K
                        refine norm_ (a' := ?_) ?_ ?_
                        rotate_left
                        · show Act.put _ (some 66) _ = _
                          simp only [Act.put, List.setIfInBounds_toArray, List.set_cons_zero, List.set_cons_succ, i64_w, i32_w]
                          rfl
                        refine last_ (i := 9) (N := none) #[true, true, true, true, true, true, true, true, true, true] rfl rfl (one_of HT_.out (by kernel_rfl)) (by decide) (fun K hK => ?_)
                        have hs44 : w43.cell? ⟨gb183, 0, none⟩ = some (.int .i64 x184000_3) := (blk_cell BK183.out 0).trans rfl
                        have hfs44 := blk_frozen BK183.out 0
                        have hns44_0 := NB177_183.out
                        have hms44_0 := NB183_177.out
                        have hs45 : w43.cell? ⟨gb183, 1, none⟩ = some (.string x184001_3) := (blk_cell BK183.out 1).trans rfl
                        have hfs45 := blk_frozen BK183.out 1
                        have hns45_0 := NB177_183.out
                        have hms45_0 := NB183_177.out
                        refine skip_ (w1 := ?_) (by rfl) rfl ?_ ?_
                        rotate_left
                        · go_simp
                          rfl
                        refine hK.out _ _ ?_
                        clear hK K
                        refine done_ (done_of HT_.out (by kernel_rfl)) ?_
                        try go_wp2
                        go_roundg k3
                        case measure => have := HJ3.out; have := HK2.out; have := HK3.out; omega
                        case rel => exact ⟨(wrap64 (x11_3 + 1)), (t185), (t186), (by first | rfl | (simp; done) | (simp [*]; done)), H', ⟨by have := HJ3.out; have := HK2.out; have := HK3.out; omega⟩, ⟨by (with_reducible repeat (first | refine blk_drewN ?_ _ | refine blk_drew ?_ | refine blk_alloc ?_ _)); refine blk_far ?_ NB177_183.out _; (with_reducible repeat (first | refine blk_drewN ?_ _ | refine blk_drew ?_ | refine blk_alloc ?_ _)); refine blk_far ?_ NB177_183.out _; (with_reducible repeat (first | refine blk_drewN ?_ _ | refine blk_drew ?_ | refine blk_alloc ?_ _)); exact BK177.out⟩, ⟨by (with_reducible repeat (first | refine blk_drewN ?_ _ | refine blk_drew ?_ | refine blk_alloc ?_ _)); refine blk_put (cs := #[.int .i64 t185, .string x184001_3]) ?_ 1 _ rfl; (with_reducible repeat (first | refine blk_drewN ?_ _ | refine blk_drew ?_ | refine blk_alloc ?_ _)); refine blk_put (cs := #[.int .i64 x184000_3, .string x184001_3]) ?_ 0 _ rfl; (with_reducible repeat (first | refine blk_drewN ?_ _ | refine blk_drew ?_ | refine blk_alloc ?_ _)); exact BK183.out⟩, ⟨by repeat (first | (with_reducible first | exact HB.out | apply below_alloc | apply pw_below_drewN | apply below_drew1 | refine below_set ?_ GE177.out | refine below_set ?_ GE183.out) | exact HB.out)⟩⟩
                      · rw [if_neg c40] at H
                        exact absurd H (by simp)
                    · rw [if_neg c39] at H
                      have c39b0 : decide (x11_3 < (l0.length : Int)) = false := decide_eq_false c39
                      clear c39
                      obtain rfl := Option.some.inj H
                      have hnb46 := NB177_183.out
                      have hnc46 := NB183_177.out
                      have hcz47_0 : wr.cell? ⟨gb177, 0, none⟩ = some (.int .i64 x178000_2) := (blk_cell BK177.out 0).trans rfl
                      have hcz47_1 : wr.cell? ⟨gb177, 1, none⟩ = some (.string x178001_2) := (blk_cell BK177.out 1).trans rfl
                      have hfz47_0 := blk_frozen BK177.out 0
                      have hfz47_1 := blk_frozen BK177.out 1
                      have hcz48_0 : wr.cell? ⟨gb183, 0, none⟩ = some (.int .i64 x184000_3) := (blk_cell BK183.out 0).trans rfl
                      have hcz48_1 : wr.cell? ⟨gb183, 1, none⟩ = some (.string x184001_3) := (blk_cell BK183.out 1).trans rfl
                      have hfz48_0 := blk_frozen BK183.out 0
                      have hfz48_1 := blk_frozen BK183.out 1
                      go_wp2
                      go_ret
                      exact ⟨by first | rfl | (simp [errW_none, errW_some] <;> rfl) | (simp [*, errW_none, errW_some] <;> rfl), by repeat (first | (with_reducible first | exact HB.out | apply below_alloc | apply pw_below_drewN | apply below_drew1 | refine below_set ?_ GE177.out | refine below_set ?_ GE183.out) | exact HB.out)⟩

end Go.Proofs.Ytlgcmcieipdcgaa.X6
