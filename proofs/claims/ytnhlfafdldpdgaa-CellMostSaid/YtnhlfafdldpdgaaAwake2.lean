import Derived.Test.YtnhlfafdldpdgaaCellS
/-! Layer 2: 'awake' is true. -/
namespace Go.Proofs.Ytnhlfafdldpdgaa.Cell
open Go Go.RowKit Go.Proofs.Ytnhlfafdldpdgaa.Arr Go.Proofs.Ytnhlfafdldpdgaa.Flt Go.Proofs.YtnhlfafdldpdgaaW.PrintWords Go.Proofs.YtnhlfafdldpdgaaW.PrintLast Go.Proofs.YtnhlfafdldpdgaaW.PrintMore
set_option linter.unusedVariables false
set_option linter.unusedSimpArgs false
attribute [local go_sem] run_bits run_frombits
theorem copysign_calls (w : World) : Calls Try.prog 52 #[.float .f64 0, .float .f64 13830554455654793216] w (Gives (.float .f64 9223372036854775808) w) := by
  have HB := Aside0.mk (Below.refl w.heap.size w)
  have h1 : bits .andNot .u64 0 9223372036854775808 = 0 := by decide +kernel
  have h2 : bits .and .u64 13830554455654793216 9223372036854775808 = 9223372036854775808 := by decide +kernel
  have h3 : bits .or .u64 0 9223372036854775808 = 9223372036854775808 := by decide +kernel
  go_enter Try.func52, Try.ntmps52
  go_wp2
  go_ret
  exact ⟨rfl, HB.out⟩
theorem lit3 (w : World) (T : TypeId) (a b c : Nat) (l : List UInt64) (hl : l.map (·.toNat) = [a, b, c]) : Kd.C kf (w.alloc (Obj.cells #[.float .f64 a, .float .f64 b, .float .f64 c] T)) (some ⟨w.heap.size, 0, none⟩) l.length l := by
  have b0 := heap_alloc_new w (Obj.cells #[.float .f64 a, .float .f64 b, .float .f64 c] T)
  obtain ⟨x, y, z, rfl⟩ : ∃ x y z, l = [x, y, z] := by
    match l, hl with
    | [x, y, z], _ => exact ⟨x, y, z, rfl⟩
  simp only [List.map_cons, List.map_nil, List.cons.injEq, and_true] at hl
  obtain ⟨rfl, rfl, rfl⟩ := hl
  refine Kd.C_of_reads (d := (0 : UInt64)) ⟨rfl, by show 3 ≤ 9223372036854775807; decide, fun _ => ⟨_, rfl, fun j hj => ?_⟩⟩
  have hj : j = 0 ∨ j = 1 ∨ j = 2 := by change j < 3 at hj; omega
  rcases hj with rfl | rfl | rfl
  · exact blk_cell b0 0
  · exact blk_cell b0 1
  · exact blk_cell b0 2
def cz : ByteArray := ⟨#[128, 0, 0, 0, 0, 0, 0, 0]⟩
def c0 : ByteArray := ⟨#[0, 0, 0, 0, 0, 0, 0, 0]⟩
def c1 : ByteArray := ⟨#[63, 240, 0, 0, 0, 0, 0, 0]⟩
def ci : ByteArray := ⟨#[127, 240, 0, 0, 0, 0, 0, 0]⟩
def cN : ByteArray := ⟨#[127, 248, 0, 0, 0, 0, 0, 0]⟩
theorem awake_go (w : World) : Calls Try.prog 17 #[] w (Gives (.bool true) w) := by
  have HB := Aside0.mk (Below.refl w.heap.size w)
  have bz : by8 (cn 9223372036854775808) = ⟨#[128, 0, 0, 0, 0, 0, 0, 0]⟩ := by decide +kernel
  have b0 : by8 (cn 0) = ⟨#[0, 0, 0, 0, 0, 0, 0, 0]⟩ := by decide +kernel
  have b1 : by8 (cn 4607182418800017408) = ⟨#[63, 240, 0, 0, 0, 0, 0, 0]⟩ := by decide +kernel
  have bi : by8 (cn (infB 1)) = ⟨#[127, 240, 0, 0, 0, 0, 0, 0]⟩ := by decide +kernel
  have az : addS ⟨#[128, 0, 0, 0, 0, 0, 0, 0]⟩ 0 = ⟨#[0, 0, 0, 0, 0, 0, 0, 0]⟩ := by decide +kernel
  have ai : addS ⟨#[127, 240, 0, 0, 0, 0, 0, 0]⟩ (infB (-1)) = ⟨#[127, 248, 0, 0, 0, 0, 0, 0]⟩ := by decide +kernel
  have o0 : ordF 9223372036854775808 0 = -1 := by decide +kernel
  have s3 : cn (sumL [4845873199050653696, 4607182418800017408, 4607182418800017408]) = 4845873199050653696 := by decide +kernel
  have Z := fun w => bytes_calls 9223372036854775808 (by decide) w
  have N := fun w => bytes_calls 0 (by decide) w
  have O := fun w => bytes_calls 4607182418800017408 (by decide) w
  have I := fun w => bytes_calls (infB 1) (by decide) w
  have AZ := fun w => add_calls ⟨#[128, 0, 0, 0, 0, 0, 0, 0]⟩ 0 w
  have AI := fun w => add_calls ⟨#[127, 240, 0, 0, 0, 0, 0, 0]⟩ (infB (-1)) w
  have FX := fun w => float_calls ⟨#[120]⟩ w
  have OZ := fun w => order_calls 9223372036854775808 0 (by decide) (by decide) w
  have S3 : ∀ w : World, Calls Try.prog 28 #[.slice (some ⟨w.heap.size, 0, none⟩) 3 3] (w.alloc (Obj.cells #[.float .f64 4845873199050653696, .float .f64 4607182418800017408, .float .f64 4607182418800017408] 22)) (Gives (.float .f64 (cn (sumL [4845873199050653696, 4607182418800017408, 4607182418800017408]))) (w.alloc (Obj.cells #[.float .f64 4845873199050653696, .float .f64 4607182418800017408, .float .f64 4607182418800017408] 22))) := fun w => sum_calls (some ⟨w.heap.size, 0, none⟩) 3 [4845873199050653696, 4607182418800017408, 4607182418800017408] (w.alloc (Obj.cells #[.float .f64 4845873199050653696, .float .f64 4607182418800017408, .float .f64 4607182418800017408] 22)) (lit3 w _ _ _ _ _ rfl)
  rw [bz] at Z; rw [b0] at N; rw [b1] at O; rw [bi] at I; rw [if_pos (by decide), az] at AZ; rw [if_pos (by decide), ai] at AI; rw [if_neg (by decide)] at FX; rw [o0] at OZ; rw [s3] at S3
  have HZ := Aside0.mk Z; have HN := Aside0.mk N; have HO := Aside0.mk O; have HI := Aside0.mk I; have HAZ := Aside0.mk AZ; have HAI := Aside0.mk AI; have HFX := Aside0.mk FX; have HOZ := Aside0.mk OZ; have HS3 := Aside0.mk S3
  have q1 : (FloatKind.f64.format.order 4845873199050653696 4845873199050653696 == some .eq) = true := by decide +kernel
  clear Z N O I AZ AI FX OZ S3 bz b0 b1 bi az ai o0 s3
  have HCS := Aside0.mk copysign_calls
  have HI1 := Aside0.mk (inf_calls 1); have HI2 := Aside0.mk (inf_calls (-1))
  go_enter Try.func17, Try.ntmps17
  go_upto_region 3 with (first | (go_at_call 52; with_reducible refine (HCS.out _).mono ?_; rintro e w1 ⟨rfl, hb1⟩; have n_ := Aside0.mk (Arr.below_trans HB.out hb1); clear HB; have HB := n_; clear n_ hb1) | (go_at_call 19; with_reducible refine (HZ.out _).mono ?_; rintro e w1 ⟨rfl, hb1⟩; have n_ := Aside0.mk (Arr.below_trans HB.out hb1); clear HB; have HB := n_; clear n_ hb1) | (go_at_call 24; with_reducible refine (HAZ.out _).mono ?_; rintro e w1 ⟨rfl, hb1⟩; have n_ := Aside0.mk (Arr.below_trans HB.out hb1); clear HB; have HB := n_; clear n_ hb1))
  go_upto_region 5 with (first | (go_at_call 32; with_reducible refine (HI1.out _).mono ?_; rintro e w1 ⟨rfl, hb1⟩; have n_ := Aside0.mk (Arr.below_trans HB.out hb1); clear HB; have HB := n_; clear n_ hb1) | (go_at_call 32; with_reducible refine (HI2.out _).mono ?_; rintro e w1 ⟨rfl, hb1⟩; have n_ := Aside0.mk (Arr.below_trans HB.out hb1); clear HB; have HB := n_; clear n_ hb1) | (go_at_call 19; with_reducible refine (HI.out _).mono ?_; rintro e w1 ⟨rfl, hb1⟩; have n_ := Aside0.mk (Arr.below_trans HB.out hb1); clear HB; have HB := n_; clear n_ hb1) | (go_at_call 24; with_reducible refine (HAI.out _).mono ?_; rintro e w1 ⟨rfl, hb1⟩; have n_ := Aside0.mk (Arr.below_trans HB.out hb1); clear HB; have HB := n_; clear n_ hb1) | (go_at_call 18; with_reducible refine (HFX.out _).mono ?_; rintro e w1 ⟨rfl, hb1⟩; have n_ := Aside0.mk (Arr.below_trans HB.out hb1); clear HB; have HB := n_; clear n_ hb1))
  go_wp2_with (first | (go_at_call 19; with_reducible refine (HO.out _).mono ?_; rintro e w1 ⟨rfl, hb1⟩; have n_ := Aside0.mk (Arr.below_trans HB.out hb1); clear HB; have HB := n_; clear n_ hb1) | (go_at_call 19; with_reducible refine (HN.out _).mono ?_; rintro e w1 ⟨rfl, hb1⟩; have n_ := Aside0.mk (Arr.below_trans HB.out hb1); clear HB; have HB := n_; clear n_ hb1) | (go_at_call 25; with_reducible refine (HOZ.out _).mono ?_; rintro e w1 ⟨rfl, hb1⟩; have n_ := Aside0.mk (Arr.below_trans HB.out hb1); clear HB; have HB := n_; clear n_ hb1) | (go_at_call 28; with_reducible refine (HS3.out _).mono ?_; rintro e w1 ⟨rfl, hb1⟩; have n_ := Aside0.mk (Arr.below_trans (HB.out.alloc HB.out.size _) hb1); clear HB; have HB := n_; clear n_ hb1))
  go_ret
  exact ⟨rfl, HB.out⟩
end Go.Proofs.Ytnhlfafdldpdgaa.Cell
