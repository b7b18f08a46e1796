-- Written by this session's xprint.py (the kit's print, with contracts proved by hand).
import Derived.Test.YtlgcmcieipdcgaaX14x0
import Derived.Test.YtlgcmcieipdcgaaX14x2
import Derived.Test.YtlgcmcieipdcgaaX14x3
import Derived.Test.YtlgcmcieipdcgaaX14x4
import Derived.Test.YtlgcmcieipdcgaaX14x6
namespace Go.Proofs.Ytlgcmcieipdcgaa.X14
open Go.RowKit Go.Proofs.YtlgcmcieipdcgaaW.PrintWords Go.Proofs.YtlgcmcieipdcgaaW.PrintLast Go.Proofs.YtlgcmcieipdcgaaW.PrintMore
attribute [local go_sem] Page.fld_page_0 Page.fld_page_1 max2_int min2_int max_two min_two max_three min_three max_four min_four   -- for this text's walks alone
set_option linter.unusedVariables false
set_option linter.unusedSimpArgs false

/-! ### careenlaw14_RedoAgain: function 10 -/
def careenlaw14_RedoAgain.j0 : Nat → List (S58) → Int → Int → List (S23) → Bool → Option (Bool)
  | 0, _, _, _, _, _ => none
  | k + 1, x0, x1, x2, x3, x26 => if x26 = true then ((careenlaw14_awake.f).bind fun t208 => (some t208)) else ((redo_Pages.f k x0 x1 x3).bind fun t209 => (if x2 < x1 then (some true) else ((redo_Pages.f k x0 x2 t209).bind fun t212 => ((careenref14_Same.f k t212 t209).bind fun t215 => (some t215)))))
def careenlaw14_RedoAgain.f (k : Nat) (l0 : List (S58)) (a1 : Int) (a2 : Int) (l3 : List (S23)) : Option (Bool) := (careenlaw14_awake.f).bind fun t204 => (if t204 = true then ((careenref11_Few.f k l0).bind fun t205 => (if t205 = true then ((careenref11_Rises.f k l0).bind fun t206 => (if t206 = true then ((careenlaw14_few.f k l3).bind fun t207 => (careenlaw14_RedoAgain.j0 k l0 a1 a2 l3 (!t207))) else (careenlaw14_RedoAgain.j0 k l0 a1 a2 l3 true))) else (careenlaw14_RedoAgain.j0 k l0 a1 a2 l3 true))) else (careenlaw14_RedoAgain.j0 k l0 a1 a2 l3 true))
theorem careenlaw14_RedoAgain.mono_l : ∀ k, (∀ y0 y1 y2 y3 y4, LeO (careenlaw14_RedoAgain.j0 k y0 y1 y2 y3 y4) (careenlaw14_RedoAgain.j0 (k + 1) y0 y1 y2 y3 y4))
  | 0 => fun _ _ _ _ _ r h => by simp [careenlaw14_RedoAgain.j0] at h
  | k + 1 => by
    have ih0 := careenlaw14_RedoAgain.mono_l k
    · intro y0 y1 y2 y3 y4
      unfold careenlaw14_RedoAgain.j0
      repeat' first
      | (with_reducible exact ih0 _ _ _ _ _)
      | (with_reducible exact careenlaw14_few.mono _ _)
      | (with_reducible exact careenref11_Few.mono _ _)
      | (with_reducible exact careenref11_Rises.mono _ _)
      | (with_reducible exact careenref14_Same.mono _ _ _)
      | (with_reducible exact redo_Pages.mono _ _ _ _)
      | (with_reducible exact LeO.refl _)
      | (with_reducible exact LeO.none _)
      | (with_reducible refine LeO.ite ?_ ?_)
      | (with_reducible refine LeO.bind ?_ (fun _ => ?_))
      | exact ih0 _ _ _ _ _
      | exact careenlaw14_few.mono _ _
      | exact careenref11_Few.mono _ _
      | exact careenref11_Rises.mono _ _
      | exact careenref14_Same.mono _ _ _
      | exact redo_Pages.mono _ _ _ _
      | exact LeO.none _
      | refine LeO.ite ?_ ?_
      | refine LeO.bind ?_ (fun _ => ?_)
theorem careenlaw14_RedoAgain.mono : ∀ a0 a1 a2 a3 k, LeO (careenlaw14_RedoAgain.f k a0 a1 a2 a3) (careenlaw14_RedoAgain.f (k + 1) a0 a1 a2 a3) := by
  intro a0 a1 a2 a3 k
  have ih0 := careenlaw14_RedoAgain.mono_l k
  unfold careenlaw14_RedoAgain.f
  repeat' first
      | (with_reducible exact ih0 _ _ _ _ _)
      | (with_reducible exact careenlaw14_few.mono _ _)
      | (with_reducible exact careenref11_Few.mono _ _)
      | (with_reducible exact careenref11_Rises.mono _ _)
      | (with_reducible exact careenref14_Same.mono _ _ _)
      | (with_reducible exact redo_Pages.mono _ _ _ _)
      | (with_reducible exact LeO.refl _)
      | (with_reducible exact LeO.none _)
      | (with_reducible refine LeO.ite ?_ ?_)
      | (with_reducible refine LeO.bind ?_ (fun _ => ?_))
      | exact ih0 _ _ _ _ _
      | exact careenlaw14_few.mono _ _
      | exact careenref11_Few.mono _ _
      | exact careenref11_Rises.mono _ _
      | exact careenref14_Same.mono _ _ _
      | exact redo_Pages.mono _ _ _ _
      | exact LeO.none _
      | refine LeO.ite ?_ ?_
      | refine LeO.bind ?_ (fun _ => ?_)
set_option maxHeartbeats 8000000 in
set_option maxRecDepth 100000 in
theorem careenlaw14_RedoAgain.calls (k : Nat) (A0 : Option Addr) (c0 : Nat) (l0 : List (S58)) (a1 : Int) (a2 : Int) (A3 : Option Addr) (c3 : Nat) (l3 : List (S23)) (r : Bool) (w : World) (hr0 : Kd.C k58 w A0 l0.length l0) (hc0 : l0.length ≤ c0) (hr3 : Kd.C k23 w A3 l3.length l3) (hc3 : l3.length ≤ c3) (h : careenlaw14_RedoAgain.f k l0 a1 a2 l3 = some r) :
    Calls Try.prog 10 #[.slice A0 l0.length c0, .int .i64 a1, .int .i64 a2, .slice A3 l3.length c3] w fun e w' => e = .returned (.bool r) ∧ Below w.heap.size w w' := by
  have HR0 := Aside0.mk hr0
  have HC0 := Aside0.mk hc0
  clear hr0 hc0
  have HR3 := Aside0.mk hr3
  have HC3 := Aside0.mk hc3
  clear hr3 hc3
  have HB := Aside0.mk (Below.refl w.heap.size w)
  have H : ((careenlaw14_awake.f).bind fun t204 => (if t204 = true then ((careenref11_Few.f k l0).bind fun t205 => (if t205 = true then ((careenref11_Rises.f k l0).bind fun t206 => (if t206 = true then ((careenlaw14_few.f k l3).bind fun t207 => (careenlaw14_RedoAgain.j0 k l0 a1 a2 l3 (!t207))) else (careenlaw14_RedoAgain.j0 k l0 a1 a2 l3 true))) else (careenlaw14_RedoAgain.j0 k l0 a1 a2 l3 true))) else (careenlaw14_RedoAgain.j0 k l0 a1 a2 l3 true))) = some r := h
  clear h
  have HC5 := Aside0.mk H
  clear H
  go_enter Try.func10, Try.ntmps10
  go_upto_region 1 with (fail)
  go_cut [26] (fun v26 wc => ∃ (kq : Nat) (x26_4 : Bool), v26 = .bool x26_4 ∧ Aside0 (careenlaw14_RedoAgain.j0 kq l0 a1 a2 l3 x26_4 = some r) ∧ Aside0 (kq ≤ k) ∧ Aside0 (Below w.heap.size w wc))
  case first =>
    have H := HC5.out
    clear HC5
    replace H := Option.bind_eq_some_iff.mp H
    obtain ⟨t204, A60, H⟩ := H
    replace H : (if t204 = true then ((careenref11_Few.f k l0).bind fun t205 => (if t205 = true then ((careenref11_Rises.f k l0).bind fun t206 => (if t206 = true then ((careenlaw14_few.f k l3).bind fun t207 => (careenlaw14_RedoAgain.j0 k l0 a1 a2 l3 (!t207))) else (careenlaw14_RedoAgain.j0 k l0 a1 a2 l3 true))) else (careenlaw14_RedoAgain.j0 k l0 a1 a2 l3 true))) else (careenlaw14_RedoAgain.j0 k l0 a1 a2 l3 true)) = some r := H
    have A6 := Aside0.mk A60
    clear A60
    by_cases c7 : t204 = true
    · subst c7
      have H1 : ((careenref11_Few.f k l0).bind fun t205 => (if t205 = true then ((careenref11_Rises.f k l0).bind fun t206 => (if t206 = true then ((careenlaw14_few.f k l3).bind fun t207 => (careenlaw14_RedoAgain.j0 k l0 a1 a2 l3 (!t207))) else (careenlaw14_RedoAgain.j0 k l0 a1 a2 l3 true))) else (careenlaw14_RedoAgain.j0 k l0 a1 a2 l3 true))) = some r := by rw [if_pos rfl] at H; exact H
      clear H
      have H := H1
      clear H1
      replace H := Option.bind_eq_some_iff.mp H
      obtain ⟨t205, A80, H⟩ := H
      replace H : (if t205 = true then ((careenref11_Rises.f k l0).bind fun t206 => (if t206 = true then ((careenlaw14_few.f k l3).bind fun t207 => (careenlaw14_RedoAgain.j0 k l0 a1 a2 l3 (!t207))) else (careenlaw14_RedoAgain.j0 k l0 a1 a2 l3 true))) else (careenlaw14_RedoAgain.j0 k l0 a1 a2 l3 true)) = some r := H
      have A8 := Aside0.mk A80
      clear A80
      by_cases c9 : t205 = true
      · subst c9
        have H1 : ((careenref11_Rises.f k l0).bind fun t206 => (if t206 = true then ((careenlaw14_few.f k l3).bind fun t207 => (careenlaw14_RedoAgain.j0 k l0 a1 a2 l3 (!t207))) else (careenlaw14_RedoAgain.j0 k l0 a1 a2 l3 true))) = some r := by rw [if_pos rfl] at H; exact H
        clear H
        have H := H1
        clear H1
        replace H := Option.bind_eq_some_iff.mp H
        obtain ⟨t206, A100, H⟩ := H
        replace H : (if t206 = true then ((careenlaw14_few.f k l3).bind fun t207 => (careenlaw14_RedoAgain.j0 k l0 a1 a2 l3 (!t207))) else (careenlaw14_RedoAgain.j0 k l0 a1 a2 l3 true)) = some r := H
        have A10 := Aside0.mk A100
        clear A100
        by_cases c11 : t206 = true
        · subst c11
          have H1 : ((careenlaw14_few.f k l3).bind fun t207 => (careenlaw14_RedoAgain.j0 k l0 a1 a2 l3 (!t207))) = some r := by rw [if_pos rfl] at H; exact H
          clear H
          have H := H1
          clear H1
          replace H := Option.bind_eq_some_iff.mp H
          obtain ⟨t207, A120, H⟩ := H
          replace H : (careenlaw14_RedoAgain.j0 k l0 a1 a2 l3 (!t207)) = some r := H
          have A12 := Aside0.mk A120
          clear A120
          have H' := Aside0.mk H
          clear H
          go_wp2_with (first | ((with_reducible refine gate_callee (f := 27) rfl ?_); refine goesL_ (some 10) rfl rfl Try.func27 (by kernel_rfl) rfl #[] rfl (by (try simp only [List.map_toArray, List.map_cons, List.map_nil]); first | done | rfl | (simp only [List.length_drop, List.length_take]; rfl)) ?_; (with_reducible refine (careenlaw14_awake.calls  true _ A6.out).mono ?_); rintro e w13 ⟨rfl, hb⟩; refine ⟨_, rfl, ?_⟩; have n0_ := Aside0.mk (below_step (by repeat (first | (with_reducible first | exact HB.out | apply below_alloc | apply pw_below_drewN | apply below_drew1) | exact HB.out)) hb); clear HB; have HB := n0_; clear n0_; (try clear hb); (try clear hb2); (try clear hk); (try clear hi)) | (go_at_call 28; (with_reducible refine (careenref11_Few.calls k _ _ l0 true _ ?side1 ?side2 A8.out).mono ?_); (case side1 => repeat (first | exact (Kd.C_below HR0.out HB.out) | (with_reducible refine Kd.C_alloc ?_ _) | (with_reducible refine Kd.C_drewN ?_ _) | (with_reducible refine Kd.C_drew ?_))); (case side2 => exact HC0.out); rintro e w14 ⟨rfl, hb⟩; have n0_ := Aside0.mk (below_step (by repeat (first | (with_reducible first | exact HB.out | apply below_alloc | apply pw_below_drewN | apply below_drew1) | exact HB.out)) hb); clear HB; have HB := n0_; clear n0_; (try clear hb); (try clear hb2); (try clear hk); (try clear hi)) | (go_at_call 36; (with_reducible refine (careenref11_Rises.calls k _ _ l0 true _ ?side1 ?side2 A10.out).mono ?_); (case side1 => repeat (first | exact (Kd.C_below HR0.out HB.out) | (with_reducible refine Kd.C_alloc ?_ _) | (with_reducible refine Kd.C_drewN ?_ _) | (with_reducible refine Kd.C_drew ?_))); (case side2 => exact HC0.out); rintro e w' ⟨rfl, ⟨nd, rfl⟩⟩) | (go_at_call 29; (with_reducible refine (careenlaw14_few.calls k _ _ l3 t207 _ ?side1 ?side2 A12.out).mono ?_); (case side1 => repeat (first | exact (Kd.C_below HR3.out (by repeat (first | (with_reducible first | exact HB.out | apply below_alloc | apply pw_below_drewN | apply below_drew1) | exact HB.out))) | (with_reducible refine Kd.C_alloc ?_ _) | (with_reducible refine Kd.C_drewN ?_ _) | (with_reducible refine Kd.C_drew ?_))); (case side2 => exact HC3.out); rintro e w15 ⟨rfl, hb⟩; have n0_ := Aside0.mk (below_step (by repeat (first | (with_reducible first | exact HB.out | apply below_alloc | apply pw_below_drewN | apply below_drew1) | exact HB.out)) hb); clear HB; have HB := n0_; clear n0_; (try clear hb); (try clear hb2); (try clear hk); (try clear hi)))
          go_meet
          case rel => exact ⟨_, (!t207), (by first | rfl | (simp; done) | (simp [*]; done)), H', ⟨by first | omega | exact Nat.le_refl _⟩, ⟨by repeat (first | (with_reducible first | exact HB.out | apply below_alloc | apply pw_below_drewN | apply below_drew1) | exact HB.out)⟩⟩
        · replace c11 := Bool.eq_false_iff.mpr c11
          subst c11
          have H1 : (careenlaw14_RedoAgain.j0 k l0 a1 a2 l3 true) = some r := by rw [if_neg (show ¬ (false = true) by decide)] at H; exact H
          clear H
          have H := H1
          clear H1
          have H' := Aside0.mk H
          clear H
          go_wp2_with (first | ((with_reducible refine gate_callee (f := 27) rfl ?_); refine goesL_ (some 10) rfl rfl Try.func27 (by kernel_rfl) rfl #[] rfl (by (try simp only [List.map_toArray, List.map_cons, List.map_nil]); first | done | rfl | (simp only [List.length_drop, List.length_take]; rfl)) ?_; (with_reducible refine (careenlaw14_awake.calls  true _ A6.out).mono ?_); rintro e w16 ⟨rfl, hb⟩; refine ⟨_, rfl, ?_⟩; have n0_ := Aside0.mk (below_step (by repeat (first | (with_reducible first | exact HB.out | apply below_alloc | apply pw_below_drewN | apply below_drew1) | exact HB.out)) hb); clear HB; have HB := n0_; clear n0_; (try clear hb); (try clear hb2); (try clear hk); (try clear hi)) | (go_at_call 28; (with_reducible refine (careenref11_Few.calls k _ _ l0 true _ ?side1 ?side2 A8.out).mono ?_); (case side1 => repeat (first | exact (Kd.C_below HR0.out HB.out) | (with_reducible refine Kd.C_alloc ?_ _) | (with_reducible refine Kd.C_drewN ?_ _) | (with_reducible refine Kd.C_drew ?_))); (case side2 => exact HC0.out); rintro e w17 ⟨rfl, hb⟩; have n0_ := Aside0.mk (below_step (by repeat (first | (with_reducible first | exact HB.out | apply below_alloc | apply pw_below_drewN | apply below_drew1) | exact HB.out)) hb); clear HB; have HB := n0_; clear n0_; (try clear hb); (try clear hb2); (try clear hk); (try clear hi)) | (go_at_call 36; (with_reducible refine (careenref11_Rises.calls k _ _ l0 false _ ?side1 ?side2 A10.out).mono ?_); (case side1 => repeat (first | exact (Kd.C_below HR0.out HB.out) | (with_reducible refine Kd.C_alloc ?_ _) | (with_reducible refine Kd.C_drewN ?_ _) | (with_reducible refine Kd.C_drew ?_))); (case side2 => exact HC0.out); rintro e w' ⟨rfl, ⟨nd, rfl⟩⟩))
          go_meet
          case rel => exact ⟨_, (true), (by first | rfl | (simp; done) | (simp [*]; done)), H', ⟨by first | omega | exact Nat.le_refl _⟩, ⟨by repeat (first | (with_reducible first | exact HB.out | apply below_alloc | apply pw_below_drewN | apply below_drew1) | exact HB.out)⟩⟩
      · replace c9 := Bool.eq_false_iff.mpr c9
        subst c9
        have H1 : (careenlaw14_RedoAgain.j0 k l0 a1 a2 l3 true) = some r := by rw [if_neg (show ¬ (false = true) by decide)] at H; exact H
        clear H
        have H := H1
        clear H1
        have H' := Aside0.mk H
        clear H
        go_wp2_with (first | ((with_reducible refine gate_callee (f := 27) rfl ?_); refine goesL_ (some 10) rfl rfl Try.func27 (by kernel_rfl) rfl #[] rfl (by (try simp only [List.map_toArray, List.map_cons, List.map_nil]); first | done | rfl | (simp only [List.length_drop, List.length_take]; rfl)) ?_; (with_reducible refine (careenlaw14_awake.calls  true _ A6.out).mono ?_); rintro e w18 ⟨rfl, hb⟩; refine ⟨_, rfl, ?_⟩; have n0_ := Aside0.mk (below_step (by repeat (first | (with_reducible first | exact HB.out | apply below_alloc | apply pw_below_drewN | apply below_drew1) | exact HB.out)) hb); clear HB; have HB := n0_; clear n0_; (try clear hb); (try clear hb2); (try clear hk); (try clear hi)) | (go_at_call 28; (with_reducible refine (careenref11_Few.calls k _ _ l0 false _ ?side1 ?side2 A8.out).mono ?_); (case side1 => repeat (first | exact (Kd.C_below HR0.out HB.out) | (with_reducible refine Kd.C_alloc ?_ _) | (with_reducible refine Kd.C_drewN ?_ _) | (with_reducible refine Kd.C_drew ?_))); (case side2 => exact HC0.out); rintro e w19 ⟨rfl, hb⟩; have n0_ := Aside0.mk (below_step (by repeat (first | (with_reducible first | exact HB.out | apply below_alloc | apply pw_below_drewN | apply below_drew1) | exact HB.out)) hb); clear HB; have HB := n0_; clear n0_; (try clear hb); (try clear hb2); (try clear hk); (try clear hi)))
        go_meet
        case rel => exact ⟨_, (true), (by first | rfl | (simp; done) | (simp [*]; done)), H', ⟨by first | omega | exact Nat.le_refl _⟩, ⟨by repeat (first | (with_reducible first | exact HB.out | apply below_alloc | apply pw_below_drewN | apply below_drew1) | exact HB.out)⟩⟩
    · replace c7 := Bool.eq_false_iff.mpr c7
      subst c7
      have H1 : (careenlaw14_RedoAgain.j0 k l0 a1 a2 l3 true) = some r := by rw [if_neg (show ¬ (false = true) by decide)] at H; exact H
      clear H
      have H := H1
      clear H1
      have H' := Aside0.mk H
      clear H
      go_wp2_with (first | ((with_reducible refine gate_callee (f := 27) rfl ?_); refine goesL_ (some 10) rfl rfl Try.func27 (by kernel_rfl) rfl #[] rfl (by (try simp only [List.map_toArray, List.map_cons, List.map_nil]); first | done | rfl | (simp only [List.length_drop, List.length_take]; rfl)) ?_; (with_reducible refine (careenlaw14_awake.calls  false _ A6.out).mono ?_); rintro e w20 ⟨rfl, hb⟩; refine ⟨_, rfl, ?_⟩; have n0_ := Aside0.mk (below_step (by repeat (first | (with_reducible first | exact HB.out | apply below_alloc | apply pw_below_drewN | apply below_drew1) | exact HB.out)) hb); clear HB; have HB := n0_; clear n0_; (try clear hb); (try clear hb2); (try clear hk); (try clear hi)))
      go_meet
      case rel => exact ⟨_, (true), (by first | rfl | (simp; done) | (simp [*]; done)), H', ⟨by first | omega | exact Nat.le_refl _⟩, ⟨by repeat (first | (with_reducible first | exact HB.out | apply below_alloc | apply pw_below_drewN | apply below_drew1) | exact HB.out)⟩⟩
  case rest =>
    clear HC5
    try clear c1
    try clear c2
    try clear p2
    try clear c3
    try clear c7
    try clear c9
    try clear c10
    try clear c11
    obtain ⟨kq, x26_4, rfl, HA, HJ4, HB⟩ := hcut
    cases kq with
    | zero => exact absurd HA.out (by simp [careenlaw14_RedoAgain.j0])
    | succ kj4 =>
      have H := HA.out
      clear HA
      simp only [careenlaw14_RedoAgain.j0] at H
      by_cases c21 : x26_4 = true
      · subst c21
        have H1 : ((careenlaw14_awake.f).bind fun t208 => (some t208)) = some r := by rw [if_pos rfl] at H; exact H
        clear H
        have H := H1
        clear H1
        replace H := Option.bind_eq_some_iff.mp H
        obtain ⟨t208, A220, H⟩ := H
        replace H : (some t208) = some r := H
        have A22 := Aside0.mk A220
        clear A220
        obtain rfl := Option.some.inj H
        go_wp2_with (first | ((with_reducible refine gate_callee (f := 27) rfl ?_); refine goesL_ (some 27) rfl rfl Try.func27 (by kernel_rfl) rfl #[] rfl (by (try simp only [List.map_toArray, List.map_cons, List.map_nil]); first | done | rfl | (simp only [List.length_drop, List.length_take]; rfl)) ?_; (with_reducible refine (careenlaw14_awake.calls  t208 _ A22.out).mono ?_); rintro e w23 ⟨rfl, hb⟩; refine ⟨_, rfl, ?_⟩; have n0_ := Aside0.mk (below_step (by repeat (first | (with_reducible first | exact HB.out | apply below_alloc | apply pw_below_drewN | apply below_drew1) | exact HB.out)) hb); clear HB; have HB := n0_; clear n0_; (try clear hb); (try clear hb2); (try clear hk); (try clear hi)))
        go_ret
        exact ⟨by first | rfl | (simp [errW_none, errW_some] <;> rfl) | (simp [*, errW_none, errW_some] <;> rfl), by repeat (first | (with_reducible first | exact HB.out | apply below_alloc | apply pw_below_drewN | apply below_drew1) | exact HB.out)⟩
      · replace c21 := Bool.eq_false_iff.mpr c21
        subst c21
        have H1 : ((redo_Pages.f kj4 l0 a1 l3).bind fun t209 => (if a2 < a1 then (some true) else ((redo_Pages.f kj4 l0 a2 t209).bind fun t212 => ((careenref14_Same.f kj4 t212 t209).bind fun t215 => (some t215))))) = some r := by rw [if_neg (show ¬ (false = true) by decide)] at H; exact H
        clear H
        have H := H1
        clear H1
        replace H := Option.bind_eq_some_iff.mp H
        obtain ⟨t209, A240, H⟩ := H
        replace H : (if a2 < a1 then (some true) else ((redo_Pages.f kj4 l0 a2 t209).bind fun t212 => ((careenref14_Same.f kj4 t212 t209).bind fun t215 => (some t215)))) = some r := H
        have A24 := Aside0.mk A240
        clear A240
        by_cases c25 : a2 < a1
        · rw [if_pos c25] at H
          have c25b0 : decide (a2 < a1) = true := decide_eq_true c25
          clear c25
          obtain rfl := Option.some.inj H
          go_wp2_with (first | ((with_reducible refine gate_callee (f := 30) rfl ?_); refine goesL_ (some 31) rfl rfl Try.func30 (by kernel_rfl) rfl #[.slice A0 l0.length c0, .int .i64 a1, .slice A3 l3.length c3] rfl (by (try simp only [List.map_toArray, List.map_cons, List.map_nil]); first | done | rfl | (simp only [List.length_drop, List.length_take]; rfl)) ?_; (with_reducible refine (redo_Pages.calls kj4 _ _ l0 a1 _ _ l3 t209 _ ?side1 ?side2 ?side3 ?side4 A24.out).mono ?_); (case side1 => repeat (first | exact (Kd.C_below HR0.out HB.out) | (with_reducible refine Kd.C_alloc ?_ _) | (with_reducible refine Kd.C_drewN ?_ _) | (with_reducible refine Kd.C_drew ?_))); (case side2 => exact HC0.out); (case side3 => repeat (first | exact (Kd.C_below HR3.out HB.out) | (with_reducible refine Kd.C_alloc ?_ _) | (with_reducible refine Kd.C_drewN ?_ _) | (with_reducible refine Kd.C_drew ?_))); (case side4 => exact HC3.out); rintro e w26 ⟨v210, rfl, ho0, hb⟩; refine ⟨_, rfl, ?_⟩; have n0_ := Aside0.mk (Kd.R_lower ho0 (below_size (by repeat (first | (with_reducible first | exact HB.out | apply below_alloc | apply pw_below_drewN | apply below_drew1) | exact HB.out)))); have n1_ := Aside0.mk (below_step (by repeat (first | (with_reducible first | exact HB.out | apply below_alloc | apply pw_below_drewN | apply below_drew1) | exact HB.out)) hb); clear HB; have HO211 := n0_; have HB := n1_; clear n0_ n1_; (try clear hb); (try clear hb2); (try clear hk); (try clear hi); (try clear ho0)))
          go_ret
          exact ⟨by first | rfl | (simp [errW_none, errW_some] <;> rfl) | (simp [*, errW_none, errW_some] <;> rfl), by repeat (first | (with_reducible first | exact HB.out | apply below_alloc | apply pw_below_drewN | apply below_drew1) | exact HB.out)⟩
        · rw [if_neg c25] at H
          have c25b0 : decide (a2 < a1) = false := decide_eq_false c25
          clear c25
          replace H := Option.bind_eq_some_iff.mp H
          obtain ⟨t212, A270, H⟩ := H
          replace H : ((careenref14_Same.f kj4 t212 t209).bind fun t215 => (some t215)) = some r := H
          have A27 := Aside0.mk A270
          clear A270
          replace H := Option.bind_eq_some_iff.mp H
          obtain ⟨t215, A280, H⟩ := H
          replace H : (some t215) = some r := H
          have A28 := Aside0.mk A280
          clear A280
          obtain rfl := Option.some.inj H
          go_wp2_with (first | ((with_reducible refine gate_callee (f := 30) rfl ?_); refine goesL_ (some 31) rfl rfl Try.func30 (by kernel_rfl) rfl #[.slice A0 l0.length c0, .int .i64 a1, .slice A3 l3.length c3] rfl (by (try simp only [List.map_toArray, List.map_cons, List.map_nil]); first | done | rfl | (simp only [List.length_drop, List.length_take]; rfl)) ?_; (with_reducible refine (redo_Pages.calls kj4 _ _ l0 a1 _ _ l3 t209 _ ?side1 ?side2 ?side3 ?side4 A24.out).mono ?_); (case side1 => repeat (first | exact (Kd.C_below HR0.out HB.out) | (with_reducible refine Kd.C_alloc ?_ _) | (with_reducible refine Kd.C_drewN ?_ _) | (with_reducible refine Kd.C_drew ?_))); (case side2 => exact HC0.out); (case side3 => repeat (first | exact (Kd.C_below HR3.out HB.out) | (with_reducible refine Kd.C_alloc ?_ _) | (with_reducible refine Kd.C_drewN ?_ _) | (with_reducible refine Kd.C_drew ?_))); (case side4 => exact HC3.out); rintro e w29 ⟨v210, rfl, ho0, hb⟩; refine ⟨_, rfl, ?_⟩; have n0_ := Aside0.mk (Kd.R_lower ho0 (below_size (by repeat (first | (with_reducible first | exact HB.out | apply below_alloc | apply pw_below_drewN | apply below_drew1) | exact HB.out)))); have n1_ := Aside0.mk (below_step (by repeat (first | (with_reducible first | exact HB.out | apply below_alloc | apply pw_below_drewN | apply below_drew1) | exact HB.out)) hb); clear HB; have HO211 := n0_; have HB := n1_; clear n0_ n1_; (try clear hb); (try clear hb2); (try clear hk); (try clear hi); (try clear ho0); obtain ⟨Ao30, co30, eo30⟩ := Kd.R_slice HO211.out; subst eo30) | ((with_reducible refine gate_callee (f := 30) rfl ?_); refine goesL_ (some 38) rfl rfl Try.func30 (by kernel_rfl) rfl #[.slice A0 l0.length c0, .int .i64 a2, .slice Ao30 t209.length co30] rfl (by (try simp only [List.map_toArray, List.map_cons, List.map_nil]); first | done | rfl | (simp only [List.length_drop, List.length_take]; rfl)) ?_; (with_reducible refine (redo_Pages.calls kj4 _ _ l0 a2 _ _ t209 t212 _ ?side1 ?side2 ?side3 ?side4 A27.out).mono ?_); (case side1 => repeat (first | exact (Kd.C_below HR0.out HB.out) | (with_reducible refine Kd.C_alloc ?_ _) | (with_reducible refine Kd.C_drewN ?_ _) | (with_reducible refine Kd.C_drew ?_))); (case side2 => exact HC0.out); (case side3 => repeat (first | exact (Kd.R_reads' HO211.out).2.2 | (with_reducible refine Kd.C_alloc ?_ _) | (with_reducible refine Kd.C_drewN ?_ _) | (with_reducible refine Kd.C_drew ?_))); (case side4 => exact (Kd.R_reads' HO211.out).2.1); rintro e w31 ⟨v213, rfl, ho0, hb⟩; refine ⟨_, rfl, ?_⟩; have n0_ := Aside0.mk (Kd.R_elder' (by (with_reducible repeat (first | apply Kd.R_alloc | apply Kd.R_drewN | apply Kd.R_drew)); exact HO211.out) (Kd.R_base ho0) hb); have n1_ := Aside0.mk (Kd.R_lower (Kd.R_new' ho0 (Kd.R_lt (by (with_reducible repeat (first | apply Kd.R_alloc | apply Kd.R_drewN | apply Kd.R_drew)); exact HO211.out))) (below_size (by repeat (first | (with_reducible first | exact HB.out | apply below_alloc | apply pw_below_drewN | apply below_drew1) | exact HB.out)))); have n2_ := Aside0.mk (below_step (by repeat (first | (with_reducible first | exact HB.out | apply below_alloc | apply pw_below_drewN | apply below_drew1) | exact HB.out)) hb); clear HO211; clear HB; have HO211 := n0_; have HO214 := n1_; have HB := n2_; clear n0_ n1_ n2_; (try clear hb); (try clear hb2); (try clear hk); (try clear hi); (try clear ho0); obtain ⟨Ao32, co32, eo32⟩ := Kd.R_slice HO214.out; subst eo32) | ((with_reducible refine gate_callee (f := 31) rfl ?_); refine goesL_ (some 40) rfl rfl Try.func31 (by kernel_rfl) rfl #[.slice Ao32 t212.length co32, .slice Ao30 t209.length co30] rfl (by (try simp only [List.map_toArray, List.map_cons, List.map_nil]); first | done | rfl | (simp only [List.length_drop, List.length_take]; rfl)) ?_; (with_reducible refine (careenref14_Same.calls kj4 _ _ t212 _ _ t209 t215 _ ?side1 ?side2 ?side3 ?side4 A28.out).mono ?_); (case side1 => repeat (first | exact (Kd.R_reads' HO214.out).2.2 | (with_reducible refine Kd.C_alloc ?_ _) | (with_reducible refine Kd.C_drewN ?_ _) | (with_reducible refine Kd.C_drew ?_))); (case side2 => exact (Kd.R_reads' HO214.out).2.1); (case side3 => repeat (first | exact (Kd.R_reads' HO211.out).2.2 | (with_reducible refine Kd.C_alloc ?_ _) | (with_reducible refine Kd.C_drewN ?_ _) | (with_reducible refine Kd.C_drew ?_))); (case side4 => exact (Kd.R_reads' HO211.out).2.1); rintro e w' ⟨rfl, ⟨nd, rfl⟩⟩; refine ⟨_, rfl, ?_⟩))
          go_ret
          exact ⟨by first | rfl | (simp [errW_none, errW_some] <;> rfl) | (simp [*, errW_none, errW_some] <;> rfl), by repeat (first | (with_reducible first | exact HB.out | apply below_alloc | apply pw_below_drewN | apply below_drew1) | exact HB.out)⟩

-- NOT PRINTED: function 11 (careenlaw14_RedoApart)

/-! ### careenlaw14_RedoSteps: function 12 -/
mutual
def careenlaw14_RedoSteps.j0 : Nat → List (S58) → Int → List (S23) → Bool → Option (Bool)
  | 0, _, _, _, _ => none
  | k + 1, x0, x1, x2, x22 => if x22 = true then ((careenlaw14_awake.f).bind fun t225 => (some t225)) else (if (IntKind.u64.wrap (wrap64 ((x0.length : Int) + 1))) = 0 then (none) else (if 0 ≤ (wrap64 (Int.tmod (IntKind.u64.wrap (x1)) (IntKind.u64.wrap (wrap64 ((x0.length : Int) + 1))))) then (if (wrap64 (Int.tmod (IntKind.u64.wrap (x1)) (IntKind.u64.wrap (wrap64 ((x0.length : Int) + 1))))) ≤ (x0.length : Int) then ((redo_Pages.f k (x0.take ((wrap64 (Int.tmod (IntKind.u64.wrap (x1)) (IntKind.u64.wrap (wrap64 ((x0.length : Int) + 1))))) : Int).toNat) (-4611686018427387904) x2).bind fun t234 => ((redo_Pages.f k (x0.drop ((wrap64 (Int.tmod (IntKind.u64.wrap (x1)) (IntKind.u64.wrap (wrap64 ((x0.length : Int) + 1))))) : Int).toNat) (-4611686018427387904) t234).bind fun t237 => (careenlaw14_RedoSteps.l0 k x0 x2 (-4611686018427387904) t237 x0 (x0.length : Int) 0))) else (none)) else (none)))
def careenlaw14_RedoSteps.l0 : Nat → List (S58) → List (S23) → Int → List (S23) → List (S58) → Int → Int → Option (Bool)
  | 0, _, _, _, _, _, _, _ => none
  | k + 1, x0, x2, x7, x8, x43, x44, x45 => if x45 < x44 then (if 0 ≤ x45 then (if x45 < (x43.length : Int) then (if ((rd_T58 x43 x45).f0) < x7 then (some true) else (careenlaw14_RedoSteps.l0 k x0 x2 x7 x8 x43 x44 (wrap64 (x45 + 1)))) else (none)) else (none)) else ((redo_Pages.f k x0 x7 x2).bind fun t242 => ((careenref14_Same.f k x8 t242).bind fun t245 => (some t245)))
end
def careenlaw14_RedoSteps.f (k : Nat) (l0 : List (S58)) (a1 : Int) (l2 : List (S23)) : Option (Bool) := (careenlaw14_awake.f).bind fun t222 => (if t222 = true then ((careenref11_Few.f k l0).bind fun t223 => (if t223 = true then ((careenlaw14_few.f k l2).bind fun t224 => (careenlaw14_RedoSteps.j0 k l0 a1 l2 (!t224))) else (careenlaw14_RedoSteps.j0 k l0 a1 l2 true))) else (careenlaw14_RedoSteps.j0 k l0 a1 l2 true))
theorem careenlaw14_RedoSteps.mono_l : ∀ k, (∀ y0 y1 y2 y3, LeO (careenlaw14_RedoSteps.j0 k y0 y1 y2 y3) (careenlaw14_RedoSteps.j0 (k + 1) y0 y1 y2 y3)) ∧ (∀ y0 y1 y2 y3 y4 y5 y6, LeO (careenlaw14_RedoSteps.l0 k y0 y1 y2 y3 y4 y5 y6) (careenlaw14_RedoSteps.l0 (k + 1) y0 y1 y2 y3 y4 y5 y6))
  | 0 => ⟨fun _ _ _ _ r h => by simp [careenlaw14_RedoSteps.j0] at h, fun _ _ _ _ _ _ _ r h => by simp [careenlaw14_RedoSteps.l0] at h⟩
  | k + 1 => by
    obtain ⟨ih0, ih1⟩ := careenlaw14_RedoSteps.mono_l k
    refine ⟨?_, ?_⟩
    · intro y0 y1 y2 y3
      unfold careenlaw14_RedoSteps.j0
      repeat' first
      | (with_reducible exact ih0 _ _ _ _)
      | (with_reducible exact ih1 _ _ _ _ _ _ _)
      | (with_reducible exact careenlaw14_few.mono _ _)
      | (with_reducible exact careenref11_Few.mono _ _)
      | (with_reducible exact careenref14_Same.mono _ _ _)
      | (with_reducible exact redo_Pages.mono _ _ _ _)
      | (with_reducible exact LeO.refl _)
      | (with_reducible exact LeO.none _)
      | (with_reducible refine LeO.ite ?_ ?_)
      | (with_reducible refine LeO.bind ?_ (fun _ => ?_))
      | exact ih0 _ _ _ _
      | exact ih1 _ _ _ _ _ _ _
      | exact careenlaw14_few.mono _ _
      | exact careenref11_Few.mono _ _
      | exact careenref14_Same.mono _ _ _
      | exact redo_Pages.mono _ _ _ _
      | exact LeO.none _
      | refine LeO.ite ?_ ?_
      | refine LeO.bind ?_ (fun _ => ?_)
    · intro y0 y1 y2 y3 y4 y5 y6
      unfold careenlaw14_RedoSteps.l0
      repeat' first
      | (with_reducible exact ih0 _ _ _ _)
      | (with_reducible exact ih1 _ _ _ _ _ _ _)
      | (with_reducible exact careenlaw14_few.mono _ _)
      | (with_reducible exact careenref11_Few.mono _ _)
      | (with_reducible exact careenref14_Same.mono _ _ _)
      | (with_reducible exact redo_Pages.mono _ _ _ _)
      | (with_reducible exact LeO.refl _)
      | (with_reducible exact LeO.none _)
      | (with_reducible refine LeO.ite ?_ ?_)
      | (with_reducible refine LeO.bind ?_ (fun _ => ?_))
      | exact ih0 _ _ _ _
      | exact ih1 _ _ _ _ _ _ _
      | exact careenlaw14_few.mono _ _
      | exact careenref11_Few.mono _ _
      | exact careenref14_Same.mono _ _ _
      | exact redo_Pages.mono _ _ _ _
      | exact LeO.none _
      | refine LeO.ite ?_ ?_
      | refine LeO.bind ?_ (fun _ => ?_)
theorem careenlaw14_RedoSteps.mono : ∀ a0 a1 a2 k, LeO (careenlaw14_RedoSteps.f k a0 a1 a2) (careenlaw14_RedoSteps.f (k + 1) a0 a1 a2) := by
  intro a0 a1 a2 k
  obtain ⟨ih0, ih1⟩ := careenlaw14_RedoSteps.mono_l k
  unfold careenlaw14_RedoSteps.f
  repeat' first
      | (with_reducible exact ih0 _ _ _ _)
      | (with_reducible exact ih1 _ _ _ _ _ _ _)
      | (with_reducible exact careenlaw14_few.mono _ _)
      | (with_reducible exact careenref11_Few.mono _ _)
      | (with_reducible exact careenref14_Same.mono _ _ _)
      | (with_reducible exact redo_Pages.mono _ _ _ _)
      | (with_reducible exact LeO.refl _)
      | (with_reducible exact LeO.none _)
      | (with_reducible refine LeO.ite ?_ ?_)
      | (with_reducible refine LeO.bind ?_ (fun _ => ?_))
      | exact ih0 _ _ _ _
      | exact ih1 _ _ _ _ _ _ _
      | exact careenlaw14_few.mono _ _
      | exact careenref11_Few.mono _ _
      | exact careenref14_Same.mono _ _ _
      | exact redo_Pages.mono _ _ _ _
      | exact LeO.none _
      | refine LeO.ite ?_ ?_
      | refine LeO.bind ?_ (fun _ => ?_)
def careenlaw14_RedoSteps.T5 : Bool × List (List Nat × List Nat) := (true, [([], []), ([], []), ([0, 1], [0, 1]), ([], []), ([], []), ([], []), ([4, 5], [4, 5]), ([], []), ([], []), ([6, 7, 8], [6, 7, 8]), ([2, 3, 9, 9], [2, 3, 9]), ([10, 10, 0, 1, 2, 3, 4, 5, 6, 7, 8, 9, 10], [10])])
def careenlaw14_RedoSteps.B5 : List Nat := [0, 0, 3, 0, 0, 0, 48, 0, 0, 496, 1023, 2047]
theorem careenlaw14_RedoSteps.tab5 : rtab .any (opsOf Try.f12 5) = careenlaw14_RedoSteps.T5 := by kernel_rfl
theorem careenlaw14_RedoSteps.bits5 : waitsOk careenlaw14_RedoSteps.T5.2 careenlaw14_RedoSteps.B5 = true := by kernel_rfl
set_option maxHeartbeats 8000000 in
set_option maxRecDepth 100000 in
theorem careenlaw14_RedoSteps.calls (k : Nat) (A0 : Option Addr) (c0 : Nat) (l0 : List (S58)) (a1 : Int) (A2 : Option Addr) (c2 : Nat) (l2 : List (S23)) (r : Bool) (w : World) (hr0 : Kd.C k58 w A0 l0.length l0) (hc0 : l0.length ≤ c0) (hr2 : Kd.C k23 w A2 l2.length l2) (hc2 : l2.length ≤ c2) (h : careenlaw14_RedoSteps.f k l0 a1 l2 = some r) :
    Calls Try.prog 12 #[.slice A0 l0.length c0, .int .i64 a1, .slice A2 l2.length c2] w fun e w' => e = .returned (.bool r) ∧ Below w.heap.size w w' := by
  have hu58 := Try.underlying58
  have HR0 := Aside0.mk hr0
  have HC0 := Aside0.mk hc0
  clear hr0 hc0
  have HR2 := Aside0.mk hr2
  have HC2 := Aside0.mk hc2
  clear hr2 hc2
  have HB := Aside0.mk (Below.refl w.heap.size w)
  have H : ((careenlaw14_awake.f).bind fun t222 => (if t222 = true then ((careenref11_Few.f k l0).bind fun t223 => (if t223 = true then ((careenlaw14_few.f k l2).bind fun t224 => (careenlaw14_RedoSteps.j0 k l0 a1 l2 (!t224))) else (careenlaw14_RedoSteps.j0 k l0 a1 l2 true))) else (careenlaw14_RedoSteps.j0 k l0 a1 l2 true))) = some r := h
  clear h
  have HC4 := Aside0.mk H
  clear H
  go_enter Try.func12, Try.ntmps12
  go_upto_region 1 with (fail)
  go_cut [22] (fun v22 wc => ∃ (kq : Nat) (x22_3 : Bool), v22 = .bool x22_3 ∧ Aside0 (careenlaw14_RedoSteps.j0 kq l0 a1 l2 x22_3 = some r) ∧ Aside0 (kq ≤ k) ∧ Aside0 (Below w.heap.size w wc))
  case first =>
    have H := HC4.out
    clear HC4
    replace H := Option.bind_eq_some_iff.mp H
    obtain ⟨t222, A50, H⟩ := H
    replace H : (if t222 = true then ((careenref11_Few.f k l0).bind fun t223 => (if t223 = true then ((careenlaw14_few.f k l2).bind fun t224 => (careenlaw14_RedoSteps.j0 k l0 a1 l2 (!t224))) else (careenlaw14_RedoSteps.j0 k l0 a1 l2 true))) else (careenlaw14_RedoSteps.j0 k l0 a1 l2 true)) = some r := H
    have A5 := Aside0.mk A50
    clear A50
    by_cases c6 : t222 = true
    · subst c6
      have H1 : ((careenref11_Few.f k l0).bind fun t223 => (if t223 = true then ((careenlaw14_few.f k l2).bind fun t224 => (careenlaw14_RedoSteps.j0 k l0 a1 l2 (!t224))) else (careenlaw14_RedoSteps.j0 k l0 a1 l2 true))) = some r := by rw [if_pos rfl] at H; exact H
      clear H
      have H := H1
      clear H1
      replace H := Option.bind_eq_some_iff.mp H
      obtain ⟨t223, A70, H⟩ := H
      replace H : (if t223 = true then ((careenlaw14_few.f k l2).bind fun t224 => (careenlaw14_RedoSteps.j0 k l0 a1 l2 (!t224))) else (careenlaw14_RedoSteps.j0 k l0 a1 l2 true)) = some r := H
      have A7 := Aside0.mk A70
      clear A70
      by_cases c8 : t223 = true
      · subst c8
        have H1 : ((careenlaw14_few.f k l2).bind fun t224 => (careenlaw14_RedoSteps.j0 k l0 a1 l2 (!t224))) = some r := by rw [if_pos rfl] at H; exact H
        clear H
        have H := H1
        clear H1
        replace H := Option.bind_eq_some_iff.mp H
        obtain ⟨t224, A90, H⟩ := H
        replace H : (careenlaw14_RedoSteps.j0 k l0 a1 l2 (!t224)) = some r := H
        have A9 := Aside0.mk A90
        clear A90
        have H' := Aside0.mk H
        clear H
        go_wp2_with (first | ((with_reducible refine gate_callee (f := 27) rfl ?_); refine goesL_ (some 11) rfl rfl Try.func27 (by kernel_rfl) rfl #[] rfl (by (try simp only [List.map_toArray, List.map_cons, List.map_nil]); first | done | rfl | (simp only [List.length_drop, List.length_take]; rfl)) ?_; (with_reducible refine (careenlaw14_awake.calls  true _ A5.out).mono ?_); rintro e w10 ⟨rfl, hb⟩; refine ⟨_, rfl, ?_⟩; have n0_ := Aside0.mk (below_step (by repeat (first | (with_reducible first | exact HB.out | apply below_alloc | apply pw_below_drewN | apply below_drew1) | exact HB.out)) hb); clear HB; have HB := n0_; clear n0_; (try clear hb); (try clear hb2); (try clear hk); (try clear hi)) | (go_at_call 28; (with_reducible refine (careenref11_Few.calls k _ _ l0 true _ ?side1 ?side2 A7.out).mono ?_); (case side1 => repeat (first | exact (Kd.C_below HR0.out HB.out) | (with_reducible refine Kd.C_alloc ?_ _) | (with_reducible refine Kd.C_drewN ?_ _) | (with_reducible refine Kd.C_drew ?_))); (case side2 => exact HC0.out); rintro e w11 ⟨rfl, hb⟩; have n0_ := Aside0.mk (below_step (by repeat (first | (with_reducible first | exact HB.out | apply below_alloc | apply pw_below_drewN | apply below_drew1) | exact HB.out)) hb); clear HB; have HB := n0_; clear n0_; (try clear hb); (try clear hb2); (try clear hk); (try clear hi)) | (go_at_call 29; (with_reducible refine (careenlaw14_few.calls k _ _ l2 t224 _ ?side1 ?side2 A9.out).mono ?_); (case side1 => repeat (first | exact (Kd.C_below HR2.out HB.out) | (with_reducible refine Kd.C_alloc ?_ _) | (with_reducible refine Kd.C_drewN ?_ _) | (with_reducible refine Kd.C_drew ?_))); (case side2 => exact HC2.out); rintro e w12 ⟨rfl, hb⟩; have n0_ := Aside0.mk (below_step (by repeat (first | (with_reducible first | exact HB.out | apply below_alloc | apply pw_below_drewN | apply below_drew1) | exact HB.out)) hb); clear HB; have HB := n0_; clear n0_; (try clear hb); (try clear hb2); (try clear hk); (try clear hi)))
        go_meet
        case rel => exact ⟨_, (!t224), (by first | rfl | (simp; done) | (simp [*]; done)), H', ⟨by first | omega | exact Nat.le_refl _⟩, ⟨by repeat (first | (with_reducible first | exact HB.out | apply below_alloc | apply pw_below_drewN | apply below_drew1) | exact HB.out)⟩⟩
      · replace c8 := Bool.eq_false_iff.mpr c8
        subst c8
        have H1 : (careenlaw14_RedoSteps.j0 k l0 a1 l2 true) = some r := by rw [if_neg (show ¬ (false = true) by decide)] at H; exact H
        clear H
        have H := H1
        clear H1
        have H' := Aside0.mk H
        clear H
        go_wp2_with (first | ((with_reducible refine gate_callee (f := 27) rfl ?_); refine goesL_ (some 11) rfl rfl Try.func27 (by kernel_rfl) rfl #[] rfl (by (try simp only [List.map_toArray, List.map_cons, List.map_nil]); first | done | rfl | (simp only [List.length_drop, List.length_take]; rfl)) ?_; (with_reducible refine (careenlaw14_awake.calls  true _ A5.out).mono ?_); rintro e w13 ⟨rfl, hb⟩; refine ⟨_, rfl, ?_⟩; have n0_ := Aside0.mk (below_step (by repeat (first | (with_reducible first | exact HB.out | apply below_alloc | apply pw_below_drewN | apply below_drew1) | exact HB.out)) hb); clear HB; have HB := n0_; clear n0_; (try clear hb); (try clear hb2); (try clear hk); (try clear hi)) | (go_at_call 28; (with_reducible refine (careenref11_Few.calls k _ _ l0 false _ ?side1 ?side2 A7.out).mono ?_); (case side1 => repeat (first | exact (Kd.C_below HR0.out HB.out) | (with_reducible refine Kd.C_alloc ?_ _) | (with_reducible refine Kd.C_drewN ?_ _) | (with_reducible refine Kd.C_drew ?_))); (case side2 => exact HC0.out); rintro e w14 ⟨rfl, hb⟩; have n0_ := Aside0.mk (below_step (by repeat (first | (with_reducible first | exact HB.out | apply below_alloc | apply pw_below_drewN | apply below_drew1) | exact HB.out)) hb); clear HB; have HB := n0_; clear n0_; (try clear hb); (try clear hb2); (try clear hk); (try clear hi)))
        go_meet
        case rel => exact ⟨_, (true), (by first | rfl | (simp; done) | (simp [*]; done)), H', ⟨by first | omega | exact Nat.le_refl _⟩, ⟨by repeat (first | (with_reducible first | exact HB.out | apply below_alloc | apply pw_below_drewN | apply below_drew1) | exact HB.out)⟩⟩
    · replace c6 := Bool.eq_false_iff.mpr c6
      subst c6
      have H1 : (careenlaw14_RedoSteps.j0 k l0 a1 l2 true) = some r := by rw [if_neg (show ¬ (false = true) by decide)] at H; exact H
      clear H
      have H := H1
      clear H1
      have H' := Aside0.mk H
      clear H
      go_wp2_with (first | ((with_reducible refine gate_callee (f := 27) rfl ?_); refine goesL_ (some 11) rfl rfl Try.func27 (by kernel_rfl) rfl #[] rfl (by (try simp only [List.map_toArray, List.map_cons, List.map_nil]); first | done | rfl | (simp only [List.length_drop, List.length_take]; rfl)) ?_; (with_reducible refine (careenlaw14_awake.calls  false _ A5.out).mono ?_); rintro e w15 ⟨rfl, hb⟩; refine ⟨_, rfl, ?_⟩; have n0_ := Aside0.mk (below_step (by repeat (first | (with_reducible first | exact HB.out | apply below_alloc | apply pw_below_drewN | apply below_drew1) | exact HB.out)) hb); clear HB; have HB := n0_; clear n0_; (try clear hb); (try clear hb2); (try clear hk); (try clear hi)))
      go_meet
      case rel => exact ⟨_, (true), (by first | rfl | (simp; done) | (simp [*]; done)), H', ⟨by first | omega | exact Nat.le_refl _⟩, ⟨by repeat (first | (with_reducible first | exact HB.out | apply below_alloc | apply pw_below_drewN | apply below_drew1) | exact HB.out)⟩⟩
  case rest =>
    clear HC4
    try clear c1
    try clear c2
    try clear p2
    try clear c6
    try clear c8
    try clear c12
    obtain ⟨kq, x22_3, rfl, HA, HJ3, HB⟩ := hcut
    cases kq with
    | zero => exact absurd HA.out (by simp [careenlaw14_RedoSteps.j0])
    | succ kj3 =>
      have H := HA.out
      clear HA
      simp only [careenlaw14_RedoSteps.j0] at H
      by_cases c16 : x22_3 = true
      · subst c16
        have H1 : ((careenlaw14_awake.f).bind fun t225 => (some t225)) = some r := by rw [if_pos rfl] at H; exact H
        clear H
        have H := H1
        clear H1
        replace H := Option.bind_eq_some_iff.mp H
        obtain ⟨t225, A170, H⟩ := H
        replace H : (some t225) = some r := H
        have A17 := Aside0.mk A170
        clear A170
        obtain rfl := Option.some.inj H
        go_wp2_with (first | ((with_reducible refine gate_callee (f := 27) rfl ?_); refine goesL_ (some 23) rfl rfl Try.func27 (by kernel_rfl) rfl #[] rfl (by (try simp only [List.map_toArray, List.map_cons, List.map_nil]); first | done | rfl | (simp only [List.length_drop, List.length_take]; rfl)) ?_; (with_reducible refine (careenlaw14_awake.calls  t225 _ A17.out).mono ?_); rintro e w18 ⟨rfl, hb⟩; refine ⟨_, rfl, ?_⟩; have n0_ := Aside0.mk (below_step (by repeat (first | (with_reducible first | exact HB.out | apply below_alloc | apply pw_below_drewN | apply below_drew1) | exact HB.out)) hb); clear HB; have HB := n0_; clear n0_; (try clear hb); (try clear hb2); (try clear hk); (try clear hi)))
        go_ret
        exact ⟨by first | rfl | (simp [errW_none, errW_some] <;> rfl) | (simp [*, errW_none, errW_some] <;> rfl), by repeat (first | (with_reducible first | exact HB.out | apply below_alloc | apply pw_below_drewN | apply below_drew1) | exact HB.out)⟩
      · replace c16 := Bool.eq_false_iff.mpr c16
        subst c16
        have H1 : (if (IntKind.u64.wrap (wrap64 ((l0.length : Int) + 1))) = 0 then (none) else (if 0 ≤ (wrap64 (Int.tmod (IntKind.u64.wrap (a1)) (IntKind.u64.wrap (wrap64 ((l0.length : Int) + 1))))) then (if (wrap64 (Int.tmod (IntKind.u64.wrap (a1)) (IntKind.u64.wrap (wrap64 ((l0.length : Int) + 1))))) ≤ (l0.length : Int) then ((redo_Pages.f kj3 (l0.take ((wrap64 (Int.tmod (IntKind.u64.wrap (a1)) (IntKind.u64.wrap (wrap64 ((l0.length : Int) + 1))))) : Int).toNat) (-4611686018427387904) l2).bind fun t234 => ((redo_Pages.f kj3 (l0.drop ((wrap64 (Int.tmod (IntKind.u64.wrap (a1)) (IntKind.u64.wrap (wrap64 ((l0.length : Int) + 1))))) : Int).toNat) (-4611686018427387904) t234).bind fun t237 => (careenlaw14_RedoSteps.l0 kj3 l0 l2 (-4611686018427387904) t237 l0 (l0.length : Int) 0))) else (none)) else (none))) = some r := by rw [if_neg (show ¬ (false = true) by decide)] at H; exact H
        clear H
        have H := H1
        clear H1
        by_cases c19 : (IntKind.u64.wrap (wrap64 ((l0.length : Int) + 1))) = 0
        · rw [if_pos c19] at H
          exact absurd H (by simp)
        · rw [if_neg c19] at H
          have c19b0 : ((IntKind.u64.wrap (wrap64 ((l0.length : Int) + 1))) == 0) = false := beq_eq_false_iff_ne.mpr c19
          have c19b1 : ((IntKind.u64.wrap (wrap64 ((l0.length : Int) + 1))) != 0) = true := bne_iff_ne.mpr c19
          obtain ⟨ji20, hji20⟩ : ∃ j_ : Int, (wrap64 (Int.tmod (IntKind.u64.wrap (a1)) (IntKind.u64.wrap (wrap64 ((l0.length : Int) + 1))))) = j_ := ⟨_, rfl⟩
          replace H : (if 0 ≤ (ji20) then (if (ji20) ≤ (l0.length : Int) then ((redo_Pages.f kj3 (l0.take ((ji20) : Int).toNat) (-4611686018427387904) l2).bind fun t234 => ((redo_Pages.f kj3 (l0.drop ((ji20) : Int).toNat) (-4611686018427387904) t234).bind fun t237 => (careenlaw14_RedoSteps.l0 kj3 l0 l2 (-4611686018427387904) t237 l0 (l0.length : Int) 0))) else (none)) else (none)) = some r := by first | (rw [hji20] at H; exact H) | (simp only [hji20] at H ⊢; exact H)
          have hji20w : (IntKind.i64.wrap (Int.tmod (IntKind.u64.wrap (a1)) (IntKind.u64.wrap (wrap64 ((l0.length : Int) + 1))))) = ji20 := (i64_w _).trans hji20
          by_cases c21 : 0 ≤ (ji20)
          · rw [if_pos c21] at H
            have c21b0 := eq_true c21
            have c21b1 : decide (0 ≤ (ji20)) = true := decide_eq_true c21
            clear c21
            by_cases c22 : (ji20) ≤ (l0.length : Int)
            · rw [if_pos c22] at H
              have c22b0 := eq_true c22
              have c22b1 : decide ((ji20) ≤ (l0.length : Int)) = true := decide_eq_true c22
              clear c22
              obtain ⟨y226, hy226⟩ : ∃ y_ : List (S58), y_ = (l0.drop ((ji20) : Int).toNat) := ⟨_, rfl⟩
              replace H : ((redo_Pages.f kj3 (l0.take ((ji20) : Int).toNat) (-4611686018427387904) l2).bind fun t234 => ((redo_Pages.f kj3 y226 (-4611686018427387904) t234).bind fun t237 => (careenlaw14_RedoSteps.l0 kj3 l0 l2 (-4611686018427387904) t237 l0 (l0.length : Int) 0))) = some r := by first | (rw [hy226]; with_reducible exact H) | (have H2_ := (Option.bind_some _ _).symm.trans H; rw [hy226]; with_reducible exact H2_) | (have H2_ := (Option.bind_some _ _).symm.trans H; with_reducible exact H2_) | with_reducible exact H | (rw [hy226]; exact H) | exact H
              have Ny226 := Aside0.mk hy226
              clear hy226
              have c23b0 := eq_true (of_decide_eq_true (by first | (with_reducible assumption) | assumption) : 0 ≤ (ji20))
              have c24b0 := eq_true (of_decide_eq_true (by first | (with_reducible assumption) | assumption) : (ji20) ≤ (l0.length : Int))
              obtain ⟨y230, hy230⟩ : ∃ y_ : List (S58), y_ = (l0.take ((ji20) : Int).toNat) := ⟨_, rfl⟩
              replace H : ((redo_Pages.f kj3 y230 (-4611686018427387904) l2).bind fun t234 => ((redo_Pages.f kj3 y226 (-4611686018427387904) t234).bind fun t237 => (careenlaw14_RedoSteps.l0 kj3 l0 l2 (-4611686018427387904) t237 l0 (l0.length : Int) 0))) = some r := by first | (rw [hy230]; with_reducible exact H) | (have H2_ := (Option.bind_some _ _).symm.trans H; rw [hy230]; with_reducible exact H2_) | (have H2_ := (Option.bind_some _ _).symm.trans H; with_reducible exact H2_) | with_reducible exact H | (rw [hy230]; exact H) | exact H
              have Ny230 := Aside0.mk hy230
              clear hy230
              replace H := Option.bind_eq_some_iff.mp H
              obtain ⟨t234, A250, H⟩ := H
              replace H : ((redo_Pages.f kj3 y226 (-4611686018427387904) t234).bind fun t237 => (careenlaw14_RedoSteps.l0 kj3 l0 l2 (-4611686018427387904) t237 l0 (l0.length : Int) 0)) = some r := H
              have A25 := Aside0.mk A250
              clear A250
              replace H := Option.bind_eq_some_iff.mp H
              obtain ⟨t237, A260, H⟩ := H
              replace H : (careenlaw14_RedoSteps.l0 kj3 l0 l2 (-4611686018427387904) t237 l0 (l0.length : Int) 0) = some r := H
              have A26 := Aside0.mk A260
              clear A260
              have H' := Aside0.mk H
              clear H
              try go_wp2
              have n0_ := Aside0.mk (below_drew1 HB.out)
              clear HB
              have HB := n0_
              clear n0_
              have q28 : ((ji20) : Int) ≤ ((l0.length : Int) : Int) := of_decide_eq_true (by first | (with_reducible assumption) | assumption)
              obtain ⟨i028, hi028, _, hsz28, _⟩ := info_parts info58
              have hroom28 : l0.length ≤ c0 := HC0.out
              have hC28 : Kd.C k58 _ A0 l0.length l0 := HR0.out
              have q028 : (0 : Int) ≤ ((ji20) : Int) := of_decide_eq_true (by first | (with_reducible assumption) | assumption)
              have hcut28 := cut_from (P := Try.prog) 48 58 .i64 Try.underlying48 hi028 12 hsz28 A0 l0.length c0 (ji20) q028 q28
              have hr28 := Kd.C_drop (m := ((ji20) : Int).toNat) (c := c0) hC28 (by omega) hroom28
              obtain ⟨A28, hA28⟩ : ∃ A1, A1 = (if c0 = ((ji20) : Int).toNat then A0 else (A0 : Option Addr).map (·.add (((ji20) : Int).toNat * 12))) := ⟨_, rfl⟩
              obtain ⟨c28, hc28⟩ : ∃ c1, c1 = c0 - ((ji20) : Int).toNat := ⟨_, rfl⟩
              have hy28 : y226.length = l0.length - ((ji20) : Int).toNat := (by rw [Ny226.out, List.length_drop] <;> omega)
              rw [show (l0).drop ((ji20) : Int).toNat = y226 from Ny226.out.symm] at hr28
              replace hr28 : Kd.C k58 _ A28 y226.length y226 := (by rw [hA28]; exact hr28)
              rw [← hy28, ← hA28, ← hc28] at hcut28
              have HR229 := Aside0.mk hr28
              have HC229 := Aside0.mk (show y226.length ≤ c28 from by rw [hy28, hc28]; exact Nat.sub_le_sub_right hroom28 _)
              clear hr28 hC28 hroom28 hi028 hsz28 hc28
              have KY28 := Aside0.mk hy28
              have KA28 := Aside0.mk hA28
              clear hy28 hA28
              replace q28 := eq_true q28
              have q29 : ((ji20) : Int) ≤ ((l0.length : Int) : Int) := of_decide_eq_true (by first | (with_reducible assumption) | assumption)
              obtain ⟨i029, hi029, _, hsz29, _⟩ := info_parts info58
              have hroom29 : l0.length ≤ c0 := HC0.out
              have hC29 : Kd.C k58 _ A0 l0.length l0 := HR0.out
              have hcut29 := cut_to (P := Try.prog) 48 58 .i64 Try.underlying48 hi029 A0 l0.length c0 (ji20) (of_decide_eq_true (by first | (with_reducible assumption) | assumption)) q29 hroom29
              have hr29 := Kd.C_take (m := ((ji20) : Int).toNat) hC29 (by omega)
              have hy29 : y230.length = ((ji20) : Int).toNat := (by rw [Ny230.out, List.length_take]; omega)
              rw [← Ny230.out] at hr29
              rw [← hy29] at hcut29
              have HR233 := Aside0.mk hr29
              have HC233 := Aside0.mk (show y230.length ≤ c0 from by omega)
              clear hr29 hC29 hroom29 hi029 hsz29
              have KY29 := Aside0.mk hy29
              clear hy29
              replace q29 := eq_true q29
              refine start_ (n := 12) (S := fun w' => True) (ds := []) #[false, false, false, false, false, false, false, false, false, false, false, false] (by kernel_rfl) rfl rfl trivial (fun hHeld => ?_); refine with_tabW careenlaw14_RedoSteps.tab5 careenlaw14_RedoSteps.bits5 (fun HT_ HW_ => ?_)
              generalize wc.drew = w27 at HB HR229 HR233 hHeld ⊢
              refine pure_ (i := 0) (N := some 32) (v := ?_) (a' := ?_) #[true, false, false, false, false, false, false, false, false, false, false, false] rfl rfl (any_of HT_.out (by kernel_rfl)) (fun _ _ _ h => h) (Or.inl ⟨by rfl, ?_⟩) ?_ ?_
              rotate_left
              · intro w'
                go_simp
                with_reducible rfl
              rotate_left
              · simp only [Act.put, List.setIfInBounds_toArray, List.set_cons_zero, List.set_cons_succ, i64_w, i32_w]
                rfl
              refine pure_ (i := 1) (N := some 33) (v := ?_) (a' := ?_) #[true, true, false, false, false, false, false, false, false, false, false, false] rfl rfl (any_of HT_.out (by kernel_rfl)) (fun _ _ _ h => h) (Or.inl ⟨by rfl, ?_⟩) ?_ ?_
              rotate_left
              · intro w'
                go_simp
                with_reducible rfl
              rotate_left
              · simp only [Act.put, List.setIfInBounds_toArray, List.set_cons_zero, List.set_cons_succ, i64_w, i32_w]
                rfl
              refine pure_ (i := 2) (N := some 34) (v := ?_) (a' := ?_) #[true, true, true, false, false, false, false, false, false, false, false, false] rfl rfl (any_of HT_.out (by kernel_rfl)) (fun _ _ _ h => h) (Or.inl ⟨by rfl, ?_⟩) ?_ ?_
              rotate_left
              · intro w'
                go_simp
                with_reducible rfl
              rotate_left
              · simp only [Act.put, List.setIfInBounds_toArray, List.set_cons_zero, List.set_cons_succ, i64_w, i32_w]
                rfl
              refine pure_ (i := 3) (N := some 35) (v := ?_) (a' := ?_) #[true, true, true, true, false, false, false, false, false, false, false, false] rfl rfl (any_of HT_.out (by kernel_rfl)) (fun _ _ _ h => h) (Or.inl ⟨by rfl, ?_⟩) ?_ ?_
              rotate_left
              · intro w'
                go_simp
                with_reducible rfl
              rotate_left
              · simp only [Act.put, List.setIfInBounds_toArray, List.set_cons_zero, List.set_cons_succ, i64_w, i32_w]
                rfl
              refine pure_ (i := 4) (N := some 36) (v := ?_) (a' := ?_) #[true, true, true, true, true, false, false, false, false, false, false, false] rfl rfl (any_of HT_.out (by kernel_rfl)) (fun _ _ _ h => h) (Or.inl ⟨by rfl, ?_⟩) ?_ ?_
              rotate_left
              · intro w'
                go_simp
                with_reducible rfl
              rotate_left
              · simp only [Act.put, List.setIfInBounds_toArray, List.set_cons_zero, List.set_cons_succ, i64_w, i32_w]
                rfl
              refine pure_ (i := 5) (N := some 37) (v := ?_) (a' := ?_) #[true, true, true, true, true, true, false, false, false, false, false, false] rfl rfl (any_of HT_.out (by kernel_rfl)) (fun _ _ _ h => h) (Or.inl ⟨by rfl, ?_⟩) ?_ ?_
              rotate_left
              · intro w'
                go_simp
                with_reducible rfl
              rotate_left
              · simp only [Act.put, List.setIfInBounds_toArray, List.set_cons_zero, List.set_cons_succ, i64_w, i32_w]
                rfl
              refine pure_ (i := 6) (N := some 38) (v := ?_) (a' := ?_) #[true, true, true, true, true, true, true, false, false, false, false, false] rfl rfl (any_of HT_.out (by kernel_rfl)) (fun _ _ _ h => h) (Or.inl ⟨by rfl, ?_⟩) ?_ ?_
              rotate_left
              · intro w'
                go_simp
                with_reducible rfl
              rotate_left
              · simp only [Act.put, List.setIfInBounds_toArray, List.set_cons_zero, List.set_cons_succ, i64_w, i32_w]
                rfl
              refine pure_ (i := 7) (N := some 39) (v := ?_) (a' := ?_) #[true, true, true, true, true, true, true, true, false, false, false, false] rfl rfl (any_of HT_.out (by kernel_rfl)) (fun _ _ _ h => h) (Or.inl ⟨by rfl, ?_⟩) ?_ ?_
              rotate_left
              · intro w'
                go_simp
                with_reducible rfl
              rotate_left
              · simp only [Act.put, List.setIfInBounds_toArray, List.set_cons_zero, List.set_cons_succ, i64_w, i32_w]
                rfl
              refine pure_ (i := 8) (N := some 40) (v := ?_) (a' := ?_) #[true, true, true, true, true, true, true, true, true, false, false, false] rfl rfl (any_of HT_.out (by kernel_rfl)) (fun _ _ _ h => h) (Or.inl ⟨by rfl, ?_⟩) ?_ ?_
              rotate_left
              · intro w'
                go_simp
                with_reducible rfl
              rotate_left
              · simp only [Act.put, List.setIfInBounds_toArray, List.set_cons_zero, List.set_cons_succ, i64_w, i32_w]
                rfl
              refine one_ (i := 9) (N := some 41) #[true, true, true, true, true, true, true, true, true, true, false, false] rfl rfl (one_of HT_.out (by kernel_rfl)) (by decide) (fun K hK => ?_)
              refine goes_ Try.func30 (by kernel_rfl) rfl #[.slice A0 y230.length c0, .int .i64 (-4611686018427387904), .slice A2 l2.length c2] (by rfl) rfl rfl (by (try simp only [List.map_toArray, List.map_cons, List.map_nil]); first | done | rfl | (simp only [List.length_drop, List.length_take]; rfl)) ?_
              with_reducible refine (redo_Pages.calls kj3 _ _ y230 (-4611686018427387904) _ _ l2 t234 _ ?side1 ?side2 ?side3 ?side4 A25.out).mono ?_
              (case side1 => repeat (first | exact (Kd.C_below HR233.out HB.out) | (with_reducible refine Kd.C_alloc ?_ _) | (with_reducible refine Kd.C_drewN ?_ _) | (with_reducible refine Kd.C_drew ?_)))
              (case side2 => exact HC233.out)
              (case side3 => repeat (first | exact (Kd.C_below HR2.out HB.out) | (with_reducible refine Kd.C_alloc ?_ _) | (with_reducible refine Kd.C_drewN ?_ _) | (with_reducible refine Kd.C_drew ?_)))
              (case side4 => exact HC2.out)
              rintro e w30 ⟨v235, rfl, ho0, hb⟩
              refine ⟨_, rfl, ?_⟩
              have n0_ := Aside0.mk (Kd.R_lower ho0 (below_size (by repeat (first | (with_reducible first | exact HB.out | apply below_alloc | apply pw_below_drewN | apply below_drew1) | exact HB.out))))
              have n1_ := Aside0.mk (below_step (by repeat (first | (with_reducible first | exact HB.out | apply below_alloc | apply pw_below_drewN | apply below_drew1) | exact HB.out)) hb)
              clear HB
              have HO236 := n0_
              have HB := n1_
              clear n0_ n1_
              (try clear hb)
              (try clear hb2)
              (try clear hk)
              (try clear hi)
              (try clear ho0)
              obtain ⟨Ao31, co31, eo31⟩ := Kd.R_slice HO236.out
              (first | subst eo31 | (injection eo31 with f1_ f2_ f3_; have f4_ := f1_.symm; have f5_ := f3_.symm; clear f1_ f2_ f3_; subst f4_; subst f5_))
              refine hK.out _ _ trivial (fun hHeld => ?_)
              clear hK K
              refine norm_ (a' := ?_) ?_ ?_
              rotate_left
              · show Act.put _ (some 41) _ = _
                simp only [Act.put, List.setIfInBounds_toArray, List.set_cons_zero, List.set_cons_succ, i64_w, i32_w]
                rfl
              refine one_ (i := 10) (N := some 42) #[true, true, true, true, true, true, true, true, true, true, true, false] rfl rfl (one_of HT_.out (by kernel_rfl)) (by decide) (fun K hK => ?_)
              refine goes_ Try.func30 (by kernel_rfl) rfl #[.slice A28 y226.length c28, .int .i64 (-4611686018427387904), .slice Ao31 t234.length co31] (by rfl) rfl rfl (by (try simp only [List.map_toArray, List.map_cons, List.map_nil]); first | done | rfl | (simp only [List.length_drop, List.length_take]; rfl)) ?_
              with_reducible refine (redo_Pages.calls kj3 _ _ y226 (-4611686018427387904) _ _ t234 t237 _ ?side1 ?side2 ?side3 ?side4 A26.out).mono ?_
              (case side1 => repeat (first | exact (Kd.C_below HR229.out HB.out) | (with_reducible refine Kd.C_alloc ?_ _) | (with_reducible refine Kd.C_drewN ?_ _) | (with_reducible refine Kd.C_drew ?_)))
              (case side2 => exact HC229.out)
              (case side3 => repeat (first | exact (Kd.R_reads' HO236.out).2.2 | (with_reducible refine Kd.C_alloc ?_ _) | (with_reducible refine Kd.C_drewN ?_ _) | (with_reducible refine Kd.C_drew ?_)))
              (case side4 => exact (Kd.R_reads' HO236.out).2.1)
              rintro e w32 ⟨v238, rfl, ho0, hb⟩
              refine ⟨_, rfl, ?_⟩
              have n0_ := Aside0.mk (Kd.R_elder' (by (with_reducible repeat (first | apply Kd.R_alloc | apply Kd.R_drewN | apply Kd.R_drew)); exact HO236.out) (Kd.R_base ho0) hb)
              have n1_ := Aside0.mk (Kd.R_lower (Kd.R_new' ho0 (Kd.R_lt (by (with_reducible repeat (first | apply Kd.R_alloc | apply Kd.R_drewN | apply Kd.R_drew)); exact HO236.out))) (below_size (by repeat (first | (with_reducible first | exact HB.out | apply below_alloc | apply pw_below_drewN | apply below_drew1) | exact HB.out))))
              have n2_ := Aside0.mk (below_step (by repeat (first | (with_reducible first | exact HB.out | apply below_alloc | apply pw_below_drewN | apply below_drew1) | exact HB.out)) hb)
              clear HO236
              clear HB
              have HO236 := n0_
              have HO239 := n1_
              have HB := n2_
              clear n0_ n1_ n2_
              (try clear hb)
              (try clear hb2)
              (try clear hk)
              (try clear hi)
              (try clear ho0)
              refine hK.out _ _ trivial (fun hHeld => ?_)
              clear hK K
              refine norm_ (a' := ?_) ?_ ?_
              rotate_left
              · show Act.put _ (some 42) _ = _
                simp only [Act.put, List.setIfInBounds_toArray, List.set_cons_zero, List.set_cons_succ, i64_w, i32_w]
                rfl
              refine pure_ (i := 11) (N := some 8) (v := ?_) (a' := ?_) #[true, true, true, true, true, true, true, true, true, true, true, true] rfl rfl (any_of HT_.out (by kernel_rfl)) (fun _ _ _ h => h) (Or.inl ⟨by rfl, ?_⟩) ?_ ?_
              rotate_left
              · intro w'
                go_simp
                with_reducible rfl
              rotate_left
              · simp only [Act.put, List.setIfInBounds_toArray, List.set_cons_zero, List.set_cons_succ, i64_w, i32_w]
                rfl
              refine done_ (done_of HT_.out (by kernel_rfl)) ?_
              try go_wp2
              go_loopg [45] kj3 (fun kq v45 w' => ∃ (x45_2 : Int), v45 = .int .i64 x45_2 ∧ Aside0 (careenlaw14_RedoSteps.l0 kq l0 l2 (-4611686018427387904) t237 l0 (l0.length : Int) x45_2 = some r) ∧ Aside0 (kq ≤ kj3) ∧ Aside0 (Kd.R k23 23 w' w.heap.size (fun _ => True) v238 t237) ∧ Aside0 (Below w.heap.size w w'))
              case atStart => exact ⟨(0), (by first | rfl | (simp; done) | (simp [*]; done)), H', ⟨Nat.le_refl _⟩, ⟨by (with_reducible repeat (first | apply Kd.R_alloc | apply Kd.R_drewN | apply Kd.R_drew)); exact Kd.R_mono HO239.out (fun _ hk => trivial)⟩, ⟨by repeat (first | (with_reducible first | exact HB.out | apply below_alloc | apply pw_below_drewN | apply below_drew1) | exact HB.out)⟩⟩
              case round =>
                clear H'
                try clear c1
                try clear c2
                try clear p2
                try clear q2
                try clear c3
                try clear c6
                try clear p6
                try clear c8
                try clear c12
                try clear c16
                try clear c19
                try clear c19b0
                try clear c19b1
                try clear c21
                try clear c21b0
                try clear c21b1
                try clear c22
                try clear c22b0
                try clear c22b1
                try clear c23
                try clear c23b0
                try clear c24
                try clear c24b0
                try clear c27
                try clear c28
                try clear q28
                try clear q29
                try clear c30
                try clear p2
                try clear q028
                try clear q28
                try clear q29
                obtain ⟨x45_2, rfl, HA, HK2, HO_8, HB⟩ := hrel
                cases gk with
                | zero => exact absurd HA.out (by simp [careenlaw14_RedoSteps.l0])
                | succ k2 =>
                  have H := HA.out
                  clear HA
                  simp only [careenlaw14_RedoSteps.l0] at H
                  by_cases c33 : x45_2 < (l0.length : Int)
                  · rw [if_pos c33] at H
                    have c33b0 : decide (x45_2 < (l0.length : Int)) = true := decide_eq_true c33
                    clear c33
                    by_cases c34 : 0 ≤ x45_2
                    · rw [if_pos c34] at H
                      have c34b0 : decide (0 ≤ x45_2) = true := decide_eq_true c34
                      clear c34
                      by_cases c35 : x45_2 < (l0.length : Int)
                      · rw [if_pos c35] at H
                        have c35b0 : decide (x45_2 < (l0.length : Int)) = true := decide_eq_true c35
                        clear c35
                        by_cases c36 : ((rd_T58 l0 x45_2).f0) < (-4611686018427387904)
                        · rw [if_pos c36] at H
                          have c36b0 : decide (((rd_T58 l0 x45_2).f0) < (-4611686018427387904)) = true := decide_eq_true c36
                          clear c36
                          obtain rfl := Option.some.inj H
                          have p240 : 0 ≤ (x45_2 : Int) := of_decide_eq_true (by first | (with_reducible assumption) | assumption)
                          have q240 : x45_2 < (l0.length : Int) := of_decide_eq_true (by first | (with_reducible assumption) | assumption)
                          obtain ⟨ad240, A240_10, c240_10, A240_11, c240_11, e240, hx240_0, hx240_1, hx240_2, hx240_3, hx240_4, hx240_5, hx240_6, hx240_7, hx240_8, hx240_9, hx240_10, hx240_11, hl240_10, hi240_10, hl240_11, hi240_11⟩ := at_T58 HR0.out x45_2 p240 q240
                          cases e240
                          replace hx240_0 := (HB.out.cell (World.block_lt_of_cell? w _ hx240_0)).trans hx240_0
                          replace hx240_1 := (HB.out.cell (World.block_lt_of_cell? w _ hx240_1)).trans hx240_1
                          replace hx240_2 := (HB.out.cell (World.block_lt_of_cell? w _ hx240_2)).trans hx240_2
                          replace hx240_3 := (HB.out.cell (World.block_lt_of_cell? w _ hx240_3)).trans hx240_3
                          replace hx240_4 := (HB.out.cell (World.block_lt_of_cell? w _ hx240_4)).trans hx240_4
                          replace hx240_5 := (HB.out.cell (World.block_lt_of_cell? w _ hx240_5)).trans hx240_5
                          replace hx240_6 := (HB.out.cell (World.block_lt_of_cell? w _ hx240_6)).trans hx240_6
                          replace hx240_7 := (HB.out.cell (World.block_lt_of_cell? w _ hx240_7)).trans hx240_7
                          replace hx240_8 := (HB.out.cell (World.block_lt_of_cell? w _ hx240_8)).trans hx240_8
                          replace hx240_9 := (HB.out.cell (World.block_lt_of_cell? w _ hx240_9)).trans hx240_9
                          replace hx240_10 := (HB.out.cell (World.block_lt_of_cell? w _ hx240_10)).trans hx240_10
                          replace hx240_11 := (HB.out.cell (World.block_lt_of_cell? w _ hx240_11)).trans hx240_11
                          have HR240_10 := Aside0.mk hi240_10
                          have HC240_10 := Aside0.mk hl240_10
                          clear hi240_10 hl240_10
                          have HR240_11 := Aside0.mk hi240_11
                          have HC240_11 := Aside0.mk hl240_11
                          clear hi240_11 hl240_11
                          replace p240 := eq_true p240
                          replace q240 := eq_true q240
                          go_wp2_with (first | ((with_reducible refine gate_dst (N := 10) rfl ?_); refine box_event ?hg (N := 10) ?hd (cs := #[.int .i64 0, .int .i64 0, .int .i64 0, .int .i64 0, .int .i64 0, .int .i64 0, .int .i64 0, .int .i64 0, .string (⟨#[]⟩ : ByteArray), .string (⟨#[]⟩ : ByteArray), .slice none 0 0, .slice none 0 0]) (t := 58) ?hr ?_; (case hd => rfl); (case hg => rfl); (case hr => first | (go_simp; done) | (go_simp; rfl)); intro gb241 hg w37 hbox hb; have n0_ := Aside0.mk (Kd.R_below (by (with_reducible repeat (first | apply Kd.R_alloc | apply Kd.R_drewN | apply Kd.R_drew)); exact HO_8.out) hb); have n1_ := Aside0.mk (below_step (by repeat (first | (with_reducible first | exact HB.out | apply below_alloc | apply pw_below_drewN | apply below_drew1) | exact HB.out)) hb); have n2_ := Aside0.mk (hbox); have n3_ := Aside0.mk ((by rw [hg]; exact (below_size (by repeat (first | (with_reducible first | exact HB.out | apply below_alloc | apply pw_below_drewN | apply below_drew1) | exact HB.out))) : w.heap.size ≤ gb241)); have n4_ := Aside0.mk ((by rw [hg]; exact (below_size (by repeat (first | (with_reducible first | exact HB.out | apply below_alloc | apply pw_below_drewN | apply below_drew1) | exact HB.out))) : w.heap.size ≤ gb241)); clear HO_8; clear HB; have HO_8 := n0_; have HB := n1_; have BK241 := n2_; have GW241 := n3_; have GE241 := n4_; clear n0_ n1_ n2_ n3_ n4_; clear hb hbox hg; have hcz38_0 : w37.cell? ⟨gb241, 0, none⟩ = some (.int .i64 0) := (blk_cell BK241.out 0).trans rfl; have hcz38_1 : w37.cell? ⟨gb241, 1, none⟩ = some (.int .i64 0) := (blk_cell BK241.out 1).trans rfl; have hcz38_2 : w37.cell? ⟨gb241, 2, none⟩ = some (.int .i64 0) := (blk_cell BK241.out 2).trans rfl; have hcz38_3 : w37.cell? ⟨gb241, 3, none⟩ = some (.int .i64 0) := (blk_cell BK241.out 3).trans rfl; have hcz38_4 : w37.cell? ⟨gb241, 4, none⟩ = some (.int .i64 0) := (blk_cell BK241.out 4).trans rfl; have hcz38_5 : w37.cell? ⟨gb241, 5, none⟩ = some (.int .i64 0) := (blk_cell BK241.out 5).trans rfl; have hcz38_6 : w37.cell? ⟨gb241, 6, none⟩ = some (.int .i64 0) := (blk_cell BK241.out 6).trans rfl; have hcz38_7 : w37.cell? ⟨gb241, 7, none⟩ = some (.int .i64 0) := (blk_cell BK241.out 7).trans rfl; have hcz38_8 : w37.cell? ⟨gb241, 8, none⟩ = some (.string (⟨#[]⟩ : ByteArray)) := (blk_cell BK241.out 8).trans rfl; have hcz38_9 : w37.cell? ⟨gb241, 9, none⟩ = some (.string (⟨#[]⟩ : ByteArray)) := (blk_cell BK241.out 9).trans rfl; have hcz38_10 : w37.cell? ⟨gb241, 10, none⟩ = some (.slice none 0 0) := (blk_cell BK241.out 10).trans rfl; have hcz38_11 : w37.cell? ⟨gb241, 11, none⟩ = some (.slice none 0 0) := (blk_cell BK241.out 11).trans rfl; have hfz38_0 := blk_frozen BK241.out 0; have hfz38_1 := blk_frozen BK241.out 1; have hfz38_2 := blk_frozen BK241.out 2; have hfz38_3 := blk_frozen BK241.out 3; have hfz38_4 := blk_frozen BK241.out 4; have hfz38_5 := blk_frozen BK241.out 5; have hfz38_6 := blk_frozen BK241.out 6; have hfz38_7 := blk_frozen BK241.out 7; have hfz38_8 := blk_frozen BK241.out 8; have hfz38_9 := blk_frozen BK241.out 9; have hfz38_10 := blk_frozen BK241.out 10; have hfz38_11 := blk_frozen BK241.out 11))
                          go_ret
                          exact ⟨by first | rfl | (simp [errW_none, errW_some] <;> rfl) | (simp only [← hji20]; first | rfl | (simp [errW_none, errW_some] <;> rfl)) | (simp [*, errW_none, errW_some] <;> rfl), by repeat (first | (with_reducible first | exact HB.out | apply below_alloc | apply pw_below_drewN | apply below_drew1 | refine below_set ?_ GE241.out) | exact HB.out)⟩
                        · rw [if_neg c36] at H
                          have c36b0 : decide (((rd_T58 l0 x45_2).f0) < (-4611686018427387904)) = false := decide_eq_false c36
                          clear c36
                          have H' := Aside0.mk H
                          clear H
                          have p240 : 0 ≤ (x45_2 : Int) := of_decide_eq_true (by first | (with_reducible assumption) | assumption)
                          have q240 : x45_2 < (l0.length : Int) := of_decide_eq_true (by first | (with_reducible assumption) | assumption)
                          obtain ⟨ad240, A240_10, c240_10, A240_11, c240_11, e240, hx240_0, hx240_1, hx240_2, hx240_3, hx240_4, hx240_5, hx240_6, hx240_7, hx240_8, hx240_9, hx240_10, hx240_11, hl240_10, hi240_10, hl240_11, hi240_11⟩ := at_T58 HR0.out x45_2 p240 q240
                          cases e240
                          replace hx240_0 := (HB.out.cell (World.block_lt_of_cell? w _ hx240_0)).trans hx240_0
                          replace hx240_1 := (HB.out.cell (World.block_lt_of_cell? w _ hx240_1)).trans hx240_1
                          replace hx240_2 := (HB.out.cell (World.block_lt_of_cell? w _ hx240_2)).trans hx240_2
                          replace hx240_3 := (HB.out.cell (World.block_lt_of_cell? w _ hx240_3)).trans hx240_3
                          replace hx240_4 := (HB.out.cell (World.block_lt_of_cell? w _ hx240_4)).trans hx240_4
                          replace hx240_5 := (HB.out.cell (World.block_lt_of_cell? w _ hx240_5)).trans hx240_5
                          replace hx240_6 := (HB.out.cell (World.block_lt_of_cell? w _ hx240_6)).trans hx240_6
                          replace hx240_7 := (HB.out.cell (World.block_lt_of_cell? w _ hx240_7)).trans hx240_7
                          replace hx240_8 := (HB.out.cell (World.block_lt_of_cell? w _ hx240_8)).trans hx240_8
                          replace hx240_9 := (HB.out.cell (World.block_lt_of_cell? w _ hx240_9)).trans hx240_9
                          replace hx240_10 := (HB.out.cell (World.block_lt_of_cell? w _ hx240_10)).trans hx240_10
                          replace hx240_11 := (HB.out.cell (World.block_lt_of_cell? w _ hx240_11)).trans hx240_11
                          have HR240_10 := Aside0.mk hi240_10
                          have HC240_10 := Aside0.mk hl240_10
                          clear hi240_10 hl240_10
                          have HR240_11 := Aside0.mk hi240_11
                          have HC240_11 := Aside0.mk hl240_11
                          clear hi240_11 hl240_11
                          replace p240 := eq_true p240
                          replace q240 := eq_true q240
                          go_wp2_with (first | ((with_reducible refine gate_dst (N := 10) rfl ?_); refine box_event ?hg (N := 10) ?hd (cs := #[.int .i64 0, .int .i64 0, .int .i64 0, .int .i64 0, .int .i64 0, .int .i64 0, .int .i64 0, .int .i64 0, .string (⟨#[]⟩ : ByteArray), .string (⟨#[]⟩ : ByteArray), .slice none 0 0, .slice none 0 0]) (t := 58) ?hr ?_; (case hd => rfl); (case hg => rfl); (case hr => first | (go_simp; done) | (go_simp; rfl)); intro gb241 hg w39 hbox hb; have n0_ := Aside0.mk (Kd.R_below (by (with_reducible repeat (first | apply Kd.R_alloc | apply Kd.R_drewN | apply Kd.R_drew)); exact HO_8.out) hb); have n1_ := Aside0.mk (below_step (by repeat (first | (with_reducible first | exact HB.out | apply below_alloc | apply pw_below_drewN | apply below_drew1) | exact HB.out)) hb); have n2_ := Aside0.mk (hbox); have n3_ := Aside0.mk ((by rw [hg]; exact (below_size (by repeat (first | (with_reducible first | exact HB.out | apply below_alloc | apply pw_below_drewN | apply below_drew1) | exact HB.out))) : w.heap.size ≤ gb241)); have n4_ := Aside0.mk ((by rw [hg]; exact (below_size (by repeat (first | (with_reducible first | exact HB.out | apply below_alloc | apply pw_below_drewN | apply below_drew1) | exact HB.out))) : w.heap.size ≤ gb241)); clear HO_8; clear HB; have HO_8 := n0_; have HB := n1_; have BK241 := n2_; have GW241 := n3_; have GE241 := n4_; clear n0_ n1_ n2_ n3_ n4_; clear hb hbox hg; have hcz40_0 : w39.cell? ⟨gb241, 0, none⟩ = some (.int .i64 0) := (blk_cell BK241.out 0).trans rfl; have hcz40_1 : w39.cell? ⟨gb241, 1, none⟩ = some (.int .i64 0) := (blk_cell BK241.out 1).trans rfl; have hcz40_2 : w39.cell? ⟨gb241, 2, none⟩ = some (.int .i64 0) := (blk_cell BK241.out 2).trans rfl; have hcz40_3 : w39.cell? ⟨gb241, 3, none⟩ = some (.int .i64 0) := (blk_cell BK241.out 3).trans rfl; have hcz40_4 : w39.cell? ⟨gb241, 4, none⟩ = some (.int .i64 0) := (blk_cell BK241.out 4).trans rfl; have hcz40_5 : w39.cell? ⟨gb241, 5, none⟩ = some (.int .i64 0) := (blk_cell BK241.out 5).trans rfl; have hcz40_6 : w39.cell? ⟨gb241, 6, none⟩ = some (.int .i64 0) := (blk_cell BK241.out 6).trans rfl; have hcz40_7 : w39.cell? ⟨gb241, 7, none⟩ = some (.int .i64 0) := (blk_cell BK241.out 7).trans rfl; have hcz40_8 : w39.cell? ⟨gb241, 8, none⟩ = some (.string (⟨#[]⟩ : ByteArray)) := (blk_cell BK241.out 8).trans rfl; have hcz40_9 : w39.cell? ⟨gb241, 9, none⟩ = some (.string (⟨#[]⟩ : ByteArray)) := (blk_cell BK241.out 9).trans rfl; have hcz40_10 : w39.cell? ⟨gb241, 10, none⟩ = some (.slice none 0 0) := (blk_cell BK241.out 10).trans rfl; have hcz40_11 : w39.cell? ⟨gb241, 11, none⟩ = some (.slice none 0 0) := (blk_cell BK241.out 11).trans rfl; have hfz40_0 := blk_frozen BK241.out 0; have hfz40_1 := blk_frozen BK241.out 1; have hfz40_2 := blk_frozen BK241.out 2; have hfz40_3 := blk_frozen BK241.out 3; have hfz40_4 := blk_frozen BK241.out 4; have hfz40_5 := blk_frozen BK241.out 5; have hfz40_6 := blk_frozen BK241.out 6; have hfz40_7 := blk_frozen BK241.out 7; have hfz40_8 := blk_frozen BK241.out 8; have hfz40_9 := blk_frozen BK241.out 9; have hfz40_10 := blk_frozen BK241.out 10; have hfz40_11 := blk_frozen BK241.out 11))
                          go_roundg k2
                          case measure => have := HJ3.out; have := HK2.out; omega
                          case rel => exact ⟨(wrap64 (x45_2 + 1)), (by first | rfl | (simp; done) | (simp [*]; done)), H', ⟨by have := HJ3.out; have := HK2.out; omega⟩, ⟨by (with_reducible repeat (first | apply Kd.R_alloc | apply Kd.R_drewN | apply Kd.R_drew)); exact Kd.R_mono (Kd.R_far (p := ⟨gb241, 11, none⟩) (Kd.R_far (p := ⟨gb241, 10, none⟩) (Kd.R_far (p := ⟨gb241, 9, none⟩) (Kd.R_far (p := ⟨gb241, 8, none⟩) (Kd.R_far (p := ⟨gb241, 7, none⟩) (Kd.R_far (p := ⟨gb241, 6, none⟩) (Kd.R_far (p := ⟨gb241, 5, none⟩) (Kd.R_far (p := ⟨gb241, 4, none⟩) (Kd.R_far (p := ⟨gb241, 3, none⟩) (Kd.R_far (p := ⟨gb241, 2, none⟩) (Kd.R_far (p := ⟨gb241, 1, none⟩) (Kd.R_far (p := ⟨gb241, 0, none⟩) (Kd.R_types HO_8.out BK241.out (by decide)) (fun _ hk => hk.2) (.int .i64 ((rd_T58 l0 x45_2).f0))) (fun _ hk => hk.2) (.int .i64 ((rd_T58 l0 x45_2).f1.f0))) (fun _ hk => hk.2) (.int .i64 ((rd_T58 l0 x45_2).f1.f1))) (fun _ hk => hk.2) (.int .i64 ((rd_T58 l0 x45_2).f1.f2))) (fun _ hk => hk.2) (.int .i64 ((rd_T58 l0 x45_2).f1.f3))) (fun _ hk => hk.2) (.int .i64 ((rd_T58 l0 x45_2).f1.f4))) (fun _ hk => hk.2) (.int .i64 ((rd_T58 l0 x45_2).f1.f5))) (fun _ hk => hk.2) (.int .i64 ((rd_T58 l0 x45_2).f1.f6))) (fun _ hk => hk.2) (.string ((rd_T58 l0 x45_2).f1.f7))) (fun _ hk => hk.2) (.string ((rd_T58 l0 x45_2).f1.f8))) (fun _ hk => hk.2) (.slice A240_10 ((rd_T58 l0 x45_2).f1.f9).length c240_10)) (fun _ hk => hk.2) (.slice A240_11 ((rd_T58 l0 x45_2).f1.f10).length c240_11)) (fun _ hk => trivial)⟩, ⟨by repeat (first | (with_reducible first | exact HB.out | apply below_alloc | apply pw_below_drewN | apply below_drew1 | refine below_set ?_ GE241.out) | exact HB.out)⟩⟩
                      · rw [if_neg c35] at H
                        exact absurd H (by simp)
                    · rw [if_neg c34] at H
                      exact absurd H (by simp)
                  · rw [if_neg c33] at H
                    have c33b0 : decide (x45_2 < (l0.length : Int)) = false := decide_eq_false c33
                    clear c33
                    replace H := Option.bind_eq_some_iff.mp H
                    obtain ⟨t242, A410, H⟩ := H
                    replace H : ((careenref14_Same.f k2 t237 t242).bind fun t245 => (some t245)) = some r := H
                    have A41 := Aside0.mk A410
                    clear A410
                    replace H := Option.bind_eq_some_iff.mp H
                    obtain ⟨t245, A420, H⟩ := H
                    replace H : (some t245) = some r := H
                    have A42 := Aside0.mk A420
                    clear A420
                    obtain rfl := Option.some.inj H
                    go_wp2_with (first | ((with_reducible refine gate_callee (f := 30) rfl ?_); refine goesL_ (some 58) rfl rfl Try.func30 (by kernel_rfl) rfl #[.slice A0 l0.length c0, .int .i64 (-4611686018427387904), .slice A2 l2.length c2] rfl (by (try simp only [List.map_toArray, List.map_cons, List.map_nil]); first | done | rfl | (simp only [List.length_drop, List.length_take]; rfl)) ?_; (with_reducible refine (redo_Pages.calls k2 _ _ l0 (-4611686018427387904) _ _ l2 t242 _ ?side1 ?side2 ?side3 ?side4 A41.out).mono ?_); (case side1 => repeat (first | exact (Kd.C_below HR0.out HB.out) | (with_reducible refine Kd.C_alloc ?_ _) | (with_reducible refine Kd.C_drewN ?_ _) | (with_reducible refine Kd.C_drew ?_))); (case side2 => exact HC0.out); (case side3 => repeat (first | exact (Kd.C_below HR2.out HB.out) | (with_reducible refine Kd.C_alloc ?_ _) | (with_reducible refine Kd.C_drewN ?_ _) | (with_reducible refine Kd.C_drew ?_))); (case side4 => exact HC2.out); rintro e w43 ⟨v243, rfl, ho0, hb⟩; refine ⟨_, rfl, ?_⟩; have n0_ := Aside0.mk (Kd.R_elder' (by (with_reducible repeat (first | apply Kd.R_alloc | apply Kd.R_drewN | apply Kd.R_drew)); exact HO_8.out) (Kd.R_base ho0) hb); have n1_ := Aside0.mk (Kd.R_lower (Kd.R_new' ho0 (Kd.R_lt (by (with_reducible repeat (first | apply Kd.R_alloc | apply Kd.R_drewN | apply Kd.R_drew)); exact HO_8.out))) (below_size (by repeat (first | (with_reducible first | exact HB.out | apply below_alloc | apply pw_below_drewN | apply below_drew1) | exact HB.out)))); have n2_ := Aside0.mk (below_step (by repeat (first | (with_reducible first | exact HB.out | apply below_alloc | apply pw_below_drewN | apply below_drew1) | exact HB.out)) hb); clear HO_8; clear HB; have HO_8 := n0_; have HO244 := n1_; have HB := n2_; clear n0_ n1_ n2_; (try clear hb); (try clear hb2); (try clear hk); (try clear hi); (try clear ho0); obtain ⟨Ao44, co44, eo44⟩ := Kd.R_slice HO_8.out; subst eo44; obtain ⟨Ao45, co45, eo45⟩ := Kd.R_slice HO244.out; subst eo45) | ((with_reducible refine gate_callee (f := 31) rfl ?_); refine goesL_ (some 59) rfl rfl Try.func31 (by kernel_rfl) rfl #[.slice Ao44 t237.length co44, .slice Ao45 t242.length co45] rfl (by (try simp only [List.map_toArray, List.map_cons, List.map_nil]); first | done | rfl | (simp only [List.length_drop, List.length_take]; rfl)) ?_; (with_reducible refine (careenref14_Same.calls k2 _ _ t237 _ _ t242 t245 _ ?side1 ?side2 ?side3 ?side4 A42.out).mono ?_); (case side1 => repeat (first | exact (Kd.R_reads' HO_8.out).2.2 | (with_reducible refine Kd.C_alloc ?_ _) | (with_reducible refine Kd.C_drewN ?_ _) | (with_reducible refine Kd.C_drew ?_))); (case side2 => exact (Kd.R_reads' HO_8.out).2.1); (case side3 => repeat (first | exact (Kd.R_reads' HO244.out).2.2 | (with_reducible refine Kd.C_alloc ?_ _) | (with_reducible refine Kd.C_drewN ?_ _) | (with_reducible refine Kd.C_drew ?_))); (case side4 => exact (Kd.R_reads' HO244.out).2.1); rintro e w' ⟨rfl, ⟨nd, rfl⟩⟩; refine ⟨_, rfl, ?_⟩))
                    go_ret
                    exact ⟨by first | rfl | (simp [errW_none, errW_some] <;> rfl) | (simp only [← hji20]; first | rfl | (simp [errW_none, errW_some] <;> rfl)) | (simp [*, errW_none, errW_some] <;> rfl), by repeat (first | (with_reducible first | exact HB.out | apply below_alloc | apply pw_below_drewN | apply below_drew1) | exact HB.out)⟩
            · rw [if_neg c22] at H
              exact absurd H (by simp)
          · rw [if_neg c21] at H
            exact absurd H (by simp)

end Go.Proofs.Ytlgcmcieipdcgaa.X14
