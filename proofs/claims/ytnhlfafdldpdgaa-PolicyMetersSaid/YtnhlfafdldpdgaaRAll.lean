import Derived.Test.YtnhlfafdldpdgaaMeter2
import Derived.Test.YtnhlfafdldpdgaaWEqStruct
/-! Layer 19: the reference's All. -/
namespace Go.Proofs.Ytnhlfafdldpdgaa.Pol
open Go Go.RowKit Go.Proofs.Ytnhlfafdldpdgaa.Arr Go.Proofs.Ytnhlfafdldpdgaa.Flt Go.Proofs.Ytnhlfafdldpdgaa.Cell Go.Proofs.YtnhlfafdldpdgaaW.PrintWords Go.Proofs.YtnhlfafdldpdgaaW.PrintLast Go.Proofs.YtnhlfafdldpdgaaW.PrintMore
set_option linter.unusedVariables false
set_option linter.unusedSimpArgs false
attribute [local go_sem] run_bits run_frombits run_store_float
attribute [local go_sem high] bin_geq bin_leq neq_eq
theorem for5 {β : Type} (b : β) (f : Nat → β → Sem (ForInStep β)) : (forIn [:5] b f : Sem β) = forIn [0, 1, 2, 3, 4] b f := by
  rw [Std.Legacy.Range.forIn_eq_forIn_range']
  rfl
theorem eq_arr5 (a b c d e : Int) (k : Nat) (w : World) : (Op.equalIn (k + 2) 55 (.agg #[.int .u64 a, .int .u64 b, .int .u64 c, .int .u64 d, .int .u64 e]) (.agg #[.int .u64 a, .int .u64 b, .int .u64 c, .int .u64 d, .int .u64 e])).run Try.prog w = .ok true w := by
  have hu : Try.prog.underlying 55 = some (.array 5 28) := by kernel_rfl
  have hu2 : Try.prog.underlying 28 = some (.int .u64) := by kernel_rfl
  have h1 : (Try.prog.info? 28).map (·.size) = some 1 := by kernel_rfl
  obtain ⟨i0, hi, hs⟩ := Option.map_eq_some_iff.1 h1
  have hsz := fun w => run_sizeOf (P := Try.prog) (w := w) hi
  have hco : Try.prog.cellsOf 28 = 1 := by kernel_rfl
  have hie : ∀ (x : Int) (w : World), (Op.equalIn (k + 1) 28 (.int .u64 x) (.int .u64 x)).run Try.prog w = .ok true w := fun x w => by rw [run_equalIn_int w k 28 .u64 .u64 x x hu2, beq_self_eq_true]
  have hp : ∀ (j : Nat) (x : Int) (w : World), #[Value.int .u64 a, .int .u64 b, .int .u64 c, .int .u64 d, .int .u64 e][j]? = some (.int .u64 x) → (part 28 #[.int .u64 a, .int .u64 b, .int .u64 c, .int .u64 d, .int .u64 e] (j * 1)).run Try.prog w = .ok (.int .u64 x) w := by
    intro j x w hj
    have hg : ∀ w : World, (isAgg 28).run Try.prog w = .ok false w := fun w => by kernel_rfl
    unfold part
    simp only [Sem.run_bind, hg, Result.andThen_ok, Bool.false_eq_true, if_false, Nat.mul_one, hj, Sem.run_pure]
  rw [show k + 2 = (k + 1) + 1 from rfl, Op.equalIn]
  simp only [Sem.run_bind, run_underlying hu, Result.andThen_ok, hsz, hco, for5, List.forIn_cons, hp 0 a _ rfl, hp 1 b _ rfl, hp 2 c _ rfl, hp 3 d _ rfl, hp 4 e _ rfl, hie, Bool.not_true, Bool.false_eq_true, if_false, Sem.run_pure, List.forIn_nil]
theorem results_c {P : Program} {fn : Func} {p : Tmp} {ty : TypeId} (h : fn.results = #[.cell p ty]) (tmps : Array Value) (w : World) (g : Nat) (t : TypeId) (cs : Array Value) (fr : Nat × Nat) (d : TypeDesc)
    (hp : tmps.getD p undef = .pointer (some ⟨g, 0, none⟩)) (hg : w.heap[g]? = some (.cells cs t fr))
    (hu : P.underlying ty = some d) (hd : (match d with | .struct _ | .array _ _ => true | _ => false) = true) (hi : (P.info? ty).map (·.size) = some cs.size) :
    (results fn tmps).run P w = .ok (.agg cs) w := by
  have hp' : tmps[p]?.getD undef = .pointer (some ⟨g, 0, none⟩) := by simpa using hp
  simp [results, h, hp', asAddr, run_loadVar_row w g t ty cs fr d hg hu hd hi]
/-- All that a meter tells, as five numbers. -/
def allA (s : MS) : Array Value := #[.int .u64 s.n, .int .u64 (meanV s), .int .u64 (spreadV s), .int .u64 (cn (leastV s)), .int .u64 (cn (mostV s))]
theorem rall_calls (s : MS) (g : Nat) (w : World) (ho : OkS s) (h : MB 52 w g s) : Calls Try.prog 48 #[.pointer (some ⟨g, 0, none⟩)] w (Gives (.agg (allA s)) w) := by
  obtain ⟨a, b, h0, ha, hb, la, lb⟩ := h
  have B := Aside0.mk h0; have HA := Aside0.mk ha; have HBB := Aside0.mk hb
  clear h0 ha hb
  go_enter Try.func48, Try.ntmps48
  go_upto_region 1 with (fail)
  have bz := heap_alloc_new w (Obj.cells #[.int .u64 0, .int .u64 0, .int .u64 0, .int .u64 0, .int .u64 0] 55)
  have b1 := blk_alloc B.out (Obj.cells #[.int .u64 0, .int .u64 0, .int .u64 0, .int .u64 0, .int .u64 0] 55)
  have hbl := (Below.refl w.heap.size w).alloc (Nat.le_refl _) (Obj.cells #[.int .u64 0, .int .u64 0, .int .u64 0, .int .u64 0, .int .u64 0] 55)
  generalize w.alloc (Obj.cells #[.int .u64 0, .int .u64 0, .int .u64 0, .int .u64 0, .int .u64 0] 55) = w1 at *
  have HG := Aside0.mk (Nat.le_refl w.heap.size)
  generalize hgA : w.heap.size = gA at *
  have BZ := Aside0.mk bz; have B1 := Aside0.mk b1; have HB := Aside0.mk hbl
  clear bz b1 hbl B
  by_cases n0 : s.n = 0
  · have z0 : ((s.n : Int) == 0) = true := by simp [n0]
    have N0 := Aside0.mk n0; clear n0
    have c0 : w1.cell? ⟨g, 0, none⟩ = some (.int .i64 s.n) := blk_cell B1.out 0
    have HI1 := Aside0.mk (inf_calls 1); have HI2 := Aside0.mk (inf_calls (-1))
    go_upto_region 2 with (fail)
    clear c0
    go_wp2_with (go_at_call 32; (first | with_reducible refine (HI1.out _).mono ?_ | with_reducible refine (HI2.out _).mono ?_); rintro e w2 ⟨rfl, hb1⟩; have l_ := Nat.le_of_lt (blk_lt BZ.out); have n_ := Aside0.mk (HB.out.trans (hb1.mono l_)); clear HB; have HB := n_; clear n_; have n_ := Aside0.mk (blk_below BZ.out hb1); clear BZ; have BZ := n_; clear n_ hb1 l_; (try clear y0 y1 y2 y3 y4 g0 g1 g2 g3 g4); obtain ⟨⟨y0, y1, y2, y3, y4⟩, fr_⟩ := five BZ.out; have g0 := fr_ 0; have g1 := fr_ 1; have g2 := fr_ 2; have g3 := fr_ 3; have g4 := fr_ 4; clear fr_)
    have b0_ := blk_put (cs' := #[.int .u64 0, .int .u64 0, .int .u64 0, .int .u64 0, .int .u64 0]) BZ.out 0 (.int .u64 0) rfl
    have h0_ := HB.out.setCell (p := ⟨gA, 0, none⟩) (Nat.le_refl gA) (.int .u64 0)
    have b1_ := blk_put (cs' := #[.int .u64 0, .int .u64 0, .int .u64 0, .int .u64 0, .int .u64 0]) b0_ 1 (.int .u64 0) rfl
    have h1_ := h0_.setCell (p := ⟨gA, 1, none⟩) (Nat.le_refl gA) (.int .u64 0)
    have b2_ := blk_put (cs' := #[.int .u64 0, .int .u64 0, .int .u64 0, .int .u64 0, .int .u64 0]) b1_ 2 (.int .u64 0) rfl
    have h2_ := h1_.setCell (p := ⟨gA, 2, none⟩) (Nat.le_refl gA) (.int .u64 0)
    have b3_ := blk_put (cs' := #[.int .u64 0, .int .u64 0, .int .u64 0, .int .u64 ((infB 1 : Nat) : Int), .int .u64 0]) b2_ 3 (.int .u64 ((infB 1 : Nat) : Int)) rfl
    have h3_ := h2_.setCell (p := ⟨gA, 3, none⟩) (Nat.le_refl gA) (.int .u64 ((infB 1 : Nat) : Int))
    have b4_ := blk_put (cs' := #[.int .u64 0, .int .u64 0, .int .u64 0, .int .u64 ((infB 1 : Nat) : Int), .int .u64 ((infB (-1) : Nat) : Int)]) b3_ 4 (.int .u64 ((infB (-1) : Nat) : Int)) rfl
    have h4_ := h3_.setCell (p := ⟨gA, 4, none⟩) (Nat.le_refl gA) (.int .u64 ((infB (-1) : Nat) : Int))
    have hb_ := h4_
    have e0 : allA s = #[.int .u64 0, .int .u64 0, .int .u64 0, .int .u64 (infB 1 : Nat), .int .u64 (infB (-1) : Nat)] := by
      unfold allA meanV spreadV leastV mostV
      rw [if_pos N0.out, if_pos N0.out, if_pos N0.out, if_pos N0.out, N0.out]
      rfl
    rw [e0]
    subst hgA
    exact bodyPost_ret (results_c rfl _ _ _ 55 _ (0, 0) _ rfl b4_ Try.underlying55 rfl rfl) rfl ⟨rfl, hb_⟩
  · have z0 : ((s.n : Int) == 0) = false := by simpa using n0
    have N0 := Aside0.mk n0; clear n0
    have c0 : w1.cell? ⟨g, 0, none⟩ = some (.int .i64 s.n) := blk_cell B1.out 0
    go_upto_region 3 with (fail)
    clear c0
    have c0 : w1.drew.cell? ⟨g, 0, none⟩ = some (.int .i64 s.n) := blk_cell B1.out 0
    have c1 : w1.drew.cell? ⟨g, 1, none⟩ = some (.float .f64 a) := blk_cell B1.out 1
    have c2 : w1.drew.cell? ⟨g, 2, none⟩ = some (.float .f64 b) := blk_cell B1.out 2
    have c3 : w1.drew.cell? ⟨g, 3, none⟩ = some (.float .f64 s.lo) := blk_cell B1.out 3
    have c4 : w1.drew.cell? ⟨g, 4, none⟩ = some (.float .f64 s.hi) := blk_cell B1.out 4
    have n_ := Aside0.mk HB.out.drew; clear HB; have HB := n_; clear n_
    have n_ := Aside0.mk (blk_drew BZ.out); clear BZ; have BZ := n_; clear n_
    have hwn : IntKind.u64.wrap (s.n : Int) = (s.n : Int) := by have := ho.1; rw [IntKind.wrap_u64]; omega
    have R1 := rbits_calls a; have R3 := rbits_calls s.lo; have R4 := rbits_calls s.hi
    rw [HA.out] at R1
    have HR1 := Aside0.mk R1; have HR3 := Aside0.mk R3; have HR4 := Aside0.mk R4
    clear R1 R3 R4 B1
    refine start_ (n := 33) (S := fun w' => w'.cell? ⟨g, 0, none⟩ = some (.int .i64 s.n) ∧ w'.cell? ⟨g, 1, none⟩ = some (.float .f64 a) ∧ w'.cell? ⟨g, 2, none⟩ = some (.float .f64 b) ∧ w'.cell? ⟨g, 3, none⟩ = some (.float .f64 s.lo) ∧ w'.cell? ⟨g, 4, none⟩ = some (.float .f64 s.hi)) (ds := [32]) #[false, false, false, false, false, false, false, false, false, false, false, false, false, false, false, false, false, false, false, false, false, false, false, false, false, false, false, false, false, false, false, false, false] (by kernel_rfl) rfl rfl ⟨c0, c1, c2, c3, c4⟩ (fun hHeld => ?_)
    refine pure_ (i := 0) (N := some 13) (v := ?_) (a' := ?_) #[true, false, false, false, false, false, false, false, false, false, false, false, false, false, false, false, false, false, false, false, false, false, false, false, false, false, false, false, false, false, false, false, false] rfl rfl (by kernel_rfl) (fun _ _ _ h => h) (Or.inl ⟨by kernel_rfl, ?_⟩) ?_ ?_
    rotate_left
    · intro w'
      go_simp
      with_reducible rfl
    rotate_left
    · simp only [Act.put, List.setIfInBounds_toArray, List.set_cons_zero, List.set_cons_succ, i64_w, i32_w]
      rfl
    refine pure_ (i := 1) (N := some 14) (v := ?_) (a' := ?_) #[true, true, false, false, false, false, false, false, false, false, false, false, false, false, false, false, false, false, false, false, false, false, false, false, false, false, false, false, false, false, false, false, false] rfl rfl (by kernel_rfl) (fun _ _ _ h => h) (Or.inl ⟨by kernel_rfl, ?_⟩) ?_ ?_
    rotate_left
    · intro w'
      go_simp
      with_reducible rfl
    rotate_left
    · simp only [Act.put, List.setIfInBounds_toArray, List.set_cons_zero, List.set_cons_succ, i64_w, i32_w]
      rfl
    refine pure_ (i := 2) (N := some 15) (v := ?_) (a' := ?_) #[true, true, true, false, false, false, false, false, false, false, false, false, false, false, false, false, false, false, false, false, false, false, false, false, false, false, false, false, false, false, false, false, false] rfl rfl (by kernel_rfl) (fun _ _ _ h => h) (Or.inl ⟨by kernel_rfl, ?_⟩) ?_ ?_
    rotate_left
    · intro w'
      go_simp
      with_reducible rfl
    rotate_left
    · simp only [Act.put, List.setIfInBounds_toArray, List.set_cons_zero, List.set_cons_succ, i64_w, i32_w]
      rfl
    refine pure_ (i := 5) (N := some 18) (v := ?_) (a' := ?_) #[true, true, true, false, false, true, false, false, false, false, false, false, false, false, false, false, false, false, false, false, false, false, false, false, false, false, false, false, false, false, false, false, false] rfl rfl (by kernel_rfl) (fun _ _ _ h => h) (Or.inl ⟨by kernel_rfl, ?_⟩) ?_ ?_
    rotate_left
    · intro w'
      go_simp
      with_reducible rfl
    rotate_left
    · simp only [Act.put, List.setIfInBounds_toArray, List.set_cons_zero, List.set_cons_succ, i64_w, i32_w]
      rfl
    refine pure_ (i := 6) (N := some 19) (v := ?_) (a' := ?_) #[true, true, true, false, false, true, true, false, false, false, false, false, false, false, false, false, false, false, false, false, false, false, false, false, false, false, false, false, false, false, false, false, false] rfl rfl (by kernel_rfl) (fun _ _ _ h => h) (Or.inl ⟨by kernel_rfl, ?_⟩) ?_ ?_
    rotate_left
    · intro w'
      go_simp
      with_reducible rfl
    rotate_left
    · simp only [Act.put, List.setIfInBounds_toArray, List.set_cons_zero, List.set_cons_succ, i64_w, i32_w]
      rfl
    refine pure_ (i := 7) (N := some 20) (v := ?_) (a' := ?_) #[true, true, true, false, false, true, true, true, false, false, false, false, false, false, false, false, false, false, false, false, false, false, false, false, false, false, false, false, false, false, false, false, false] rfl rfl (by kernel_rfl) (fun _ _ _ h => h) (Or.inl ⟨by kernel_rfl, ?_⟩) ?_ ?_
    rotate_left
    · intro w'
      go_simp
      with_reducible rfl
    rotate_left
    · simp only [Act.put, List.setIfInBounds_toArray, List.set_cons_zero, List.set_cons_succ, i64_w, i32_w]
      rfl
    refine pure_ (i := 10) (N := some 23) (v := ?_) (a' := ?_) #[true, true, true, false, false, true, true, true, false, false, true, false, false, false, false, false, false, false, false, false, false, false, false, false, false, false, false, false, false, false, false, false, false] rfl rfl (by kernel_rfl) (fun _ _ _ h => h) (Or.inl ⟨by kernel_rfl, ?_⟩) ?_ ?_
    rotate_left
    · intro w'
      go_simp
      with_reducible rfl
    rotate_left
    · simp only [Act.put, List.setIfInBounds_toArray, List.set_cons_zero, List.set_cons_succ, i64_w, i32_w]
      rfl
    refine pure_ (i := 11) (N := some 24) (v := ?_) (a' := ?_) #[true, true, true, false, false, true, true, true, false, false, true, true, false, false, false, false, false, false, false, false, false, false, false, false, false, false, false, false, false, false, false, false, false] rfl rfl (by kernel_rfl) (fun _ _ _ h => h) (Or.inl ⟨by kernel_rfl, ?_⟩) ?_ ?_
    rotate_left
    · intro w'
      go_simp
      with_reducible rfl
    rotate_left
    · simp only [Act.put, List.setIfInBounds_toArray, List.set_cons_zero, List.set_cons_succ, i64_w, i32_w]
      rfl
    refine pure_ (i := 12) (N := some 25) (v := ?_) (a' := ?_) #[true, true, true, false, false, true, true, true, false, false, true, true, true, false, false, false, false, false, false, false, false, false, false, false, false, false, false, false, false, false, false, false, false] rfl rfl (by kernel_rfl) (fun _ _ _ h => h) (Or.inl ⟨by kernel_rfl, ?_⟩) ?_ ?_
    rotate_left
    · intro w'
      go_simp
      with_reducible rfl
    rotate_left
    · simp only [Act.put, List.setIfInBounds_toArray, List.set_cons_zero, List.set_cons_succ, i64_w, i32_w]
      rfl
    refine pure_ (i := 14) (N := some 27) (v := ?_) (a' := ?_) #[true, true, true, false, false, true, true, true, false, false, true, true, true, false, true, false, false, false, false, false, false, false, false, false, false, false, false, false, false, false, false, false, false] rfl rfl (by kernel_rfl) (fun _ _ _ h => h) (Or.inl ⟨by kernel_rfl, ?_⟩) ?_ ?_
    rotate_left
    · intro w'
      go_simp
      with_reducible rfl
    rotate_left
    · simp only [Act.put, List.setIfInBounds_toArray, List.set_cons_zero, List.set_cons_succ, i64_w, i32_w]
      rfl
    refine pure_ (i := 15) (N := some 28) (v := ?_) (a' := ?_) #[true, true, true, false, false, true, true, true, false, false, true, true, true, false, true, true, false, false, false, false, false, false, false, false, false, false, false, false, false, false, false, false, false] rfl rfl (by kernel_rfl) (fun _ _ _ h => h) (Or.inl ⟨by kernel_rfl, ?_⟩) ?_ ?_
    rotate_left
    · intro w'
      go_simp
      with_reducible rfl
    rotate_left
    · simp only [Act.put, List.setIfInBounds_toArray, List.set_cons_zero, List.set_cons_succ, i64_w, i32_w]
      rfl
    refine pure_ (i := 16) (N := some 29) (v := ?_) (a' := ?_) #[true, true, true, false, false, true, true, true, false, false, true, true, true, false, true, true, true, false, false, false, false, false, false, false, false, false, false, false, false, false, false, false, false] rfl rfl (by kernel_rfl) (fun _ _ _ h => h) (Or.inl ⟨by kernel_rfl, ?_⟩) ?_ ?_
    rotate_left
    · intro w'
      go_simp
      with_reducible rfl
    rotate_left
    · simp only [Act.put, List.setIfInBounds_toArray, List.set_cons_zero, List.set_cons_succ, i64_w, i32_w]
      rfl
    refine pure_ (i := 21) (N := some 34) (v := ?_) (a' := ?_) #[true, true, true, false, false, true, true, true, false, false, true, true, true, false, true, true, true, false, false, false, false, true, false, false, false, false, false, false, false, false, false, false, false] rfl rfl (by kernel_rfl) (fun _ _ _ h => h) (Or.inl ⟨by kernel_rfl, ?_⟩) ?_ ?_
    rotate_left
    · intro w'
      go_simp
      with_reducible rfl
    rotate_left
    · simp only [Act.put, List.setIfInBounds_toArray, List.set_cons_zero, List.set_cons_succ, i64_w, i32_w]
      rfl
    refine pure_ (i := 22) (N := some 35) (v := ?_) (a' := ?_) #[true, true, true, false, false, true, true, true, false, false, true, true, true, false, true, true, true, false, false, false, false, true, true, false, false, false, false, false, false, false, false, false, false] rfl rfl (by kernel_rfl) (fun _ _ _ h => h) (Or.inl ⟨by kernel_rfl, ?_⟩) ?_ ?_
    rotate_left
    · intro w'
      go_simp
      with_reducible rfl
    rotate_left
    · simp only [Act.put, List.setIfInBounds_toArray, List.set_cons_zero, List.set_cons_succ, i64_w, i32_w]
      rfl
    refine pure_ (i := 23) (N := some 36) (v := ?_) (a' := ?_) #[true, true, true, false, false, true, true, true, false, false, true, true, true, false, true, true, true, false, false, false, false, true, true, true, false, false, false, false, false, false, false, false, false] rfl rfl (by kernel_rfl) (fun _ _ _ h => h) (Or.inl ⟨by kernel_rfl, ?_⟩) ?_ ?_
    rotate_left
    · intro w'
      go_simp
      with_reducible rfl
    rotate_left
    · simp only [Act.put, List.setIfInBounds_toArray, List.set_cons_zero, List.set_cons_succ, i64_w, i32_w]
      rfl
    refine pure_ (i := 26) (N := some 39) (v := ?_) (a' := ?_) #[true, true, true, false, false, true, true, true, false, false, true, true, true, false, true, true, true, false, false, false, false, true, true, true, false, false, true, false, false, false, false, false, false] rfl rfl (by kernel_rfl) (fun _ _ _ h => h) (Or.inl ⟨by kernel_rfl, ?_⟩) ?_ ?_
    rotate_left
    · intro w'
      go_simp
      with_reducible rfl
    rotate_left
    · simp only [Act.put, List.setIfInBounds_toArray, List.set_cons_zero, List.set_cons_succ, i64_w, i32_w]
      rfl
    refine pure_ (i := 27) (N := some 40) (v := ?_) (a' := ?_) #[true, true, true, false, false, true, true, true, false, false, true, true, true, false, true, true, true, false, false, false, false, true, true, true, false, false, true, true, false, false, false, false, false] rfl rfl (by kernel_rfl) (fun _ _ _ h => h) (Or.inl ⟨by kernel_rfl, ?_⟩) ?_ ?_
    rotate_left
    · intro w'
      go_simp
      with_reducible rfl
    rotate_left
    · simp only [Act.put, List.setIfInBounds_toArray, List.set_cons_zero, List.set_cons_succ, i64_w, i32_w]
      rfl
    refine pure_ (i := 28) (N := some 41) (v := ?_) (a' := ?_) #[true, true, true, false, false, true, true, true, false, false, true, true, true, false, true, true, true, false, false, false, false, true, true, true, false, false, true, true, true, false, false, false, false] rfl rfl (by kernel_rfl) (fun _ _ _ h => h) (Or.inl ⟨by kernel_rfl, ?_⟩) ?_ ?_
    rotate_left
    · intro w'
      go_simp
      with_reducible rfl
    rotate_left
    · simp only [Act.put, List.setIfInBounds_toArray, List.set_cons_zero, List.set_cons_succ, i64_w, i32_w]
      rfl
    refine take_ (i := 3) (N := some 16) (v := ?_) (a' := ?_) #[true, true, true, true, false, true, true, true, false, false, true, true, true, false, true, true, true, false, false, false, false, true, true, true, false, false, true, true, true, false, false, false, false] rfl rfl (by kernel_rfl) (fun _ _ _ h => h) (Or.inl ⟨by kernel_rfl, ?_⟩) hHeld ?_ ?_
    rotate_left
    · rintro w' ⟨s0_, s1_, s2_, s3_, s4_⟩
      go_simp
      with_reducible rfl
    rotate_left
    · simp only [Act.put, List.setIfInBounds_toArray, List.set_cons_zero, List.set_cons_succ, i64_w, i32_w]
      rfl
    refine pure_ (i := 4) (N := some 17) (v := ?_) (a' := ?_) #[true, true, true, true, true, true, true, true, false, false, true, true, true, false, true, true, true, false, false, false, false, true, true, true, false, false, true, true, true, false, false, false, false] rfl rfl (by kernel_rfl) (fun _ _ _ h => h) (Or.inl ⟨by kernel_rfl, ?_⟩) ?_ ?_
    rotate_left
    · intro w'
      go_simp
      with_reducible rfl
    rotate_left
    · simp only [Act.put, List.setIfInBounds_toArray, List.set_cons_zero, List.set_cons_succ, i64_w, i32_w]
      rfl
    refine take_ (i := 8) (N := some 21) (v := ?_) (a' := ?_) #[true, true, true, true, true, true, true, true, true, false, true, true, true, false, true, true, true, false, false, false, false, true, true, true, false, false, true, true, true, false, false, false, false] rfl rfl (by kernel_rfl) (fun _ _ _ h => h) (Or.inl ⟨by kernel_rfl, ?_⟩) hHeld ?_ ?_
    rotate_left
    · rintro w' ⟨s0_, s1_, s2_, s3_, s4_⟩
      go_simp
      with_reducible rfl
    rotate_left
    · simp only [Act.put, List.setIfInBounds_toArray, List.set_cons_zero, List.set_cons_succ, i64_w, i32_w]
      rfl
    refine take_ (i := 13) (N := some 26) (v := ?_) (a' := ?_) #[true, true, true, true, true, true, true, true, true, false, true, true, true, true, true, true, true, false, false, false, false, true, true, true, false, false, true, true, true, false, false, false, false] rfl rfl (by kernel_rfl) (fun _ _ _ h => h) (Or.inl ⟨by kernel_rfl, ?_⟩) hHeld ?_ ?_
    rotate_left
    · rintro w' ⟨s0_, s1_, s2_, s3_, s4_⟩
      go_simp
      with_reducible rfl
    rotate_left
    · simp only [Act.put, List.setIfInBounds_toArray, List.set_cons_zero, List.set_cons_succ, i64_w, i32_w]
      rfl
    refine take_ (i := 17) (N := some 30) (v := ?_) (a' := ?_) #[true, true, true, true, true, true, true, true, true, false, true, true, true, true, true, true, true, true, false, false, false, true, true, true, false, false, true, true, true, false, false, false, false] rfl rfl (by kernel_rfl) (fun _ _ _ h => h) (Or.inl ⟨by kernel_rfl, ?_⟩) hHeld ?_ ?_
    rotate_left
    · rintro w' ⟨s0_, s1_, s2_, s3_, s4_⟩
      go_simp
      with_reducible rfl
    rotate_left
    · simp only [Act.put, List.setIfInBounds_toArray, List.set_cons_zero, List.set_cons_succ, i64_w, i32_w]
      rfl
    refine pure_ (i := 18) (N := some 31) (v := ?_) (a' := ?_) #[true, true, true, true, true, true, true, true, true, false, true, true, true, true, true, true, true, true, true, false, false, true, true, true, false, false, true, true, true, false, false, false, false] rfl rfl (by kernel_rfl) (fun _ _ _ h => h) (Or.inl ⟨by kernel_rfl, ?_⟩) ?_ ?_
    rotate_left
    · intro w'
      go_simp
      with_reducible rfl
    rotate_left
    · simp only [Act.put, List.setIfInBounds_toArray, List.set_cons_zero, List.set_cons_succ, i64_w, i32_w]
      rfl
    refine take_ (i := 24) (N := some 37) (v := ?_) (a' := ?_) #[true, true, true, true, true, true, true, true, true, false, true, true, true, true, true, true, true, true, true, false, false, true, true, true, true, false, true, true, true, false, false, false, false] rfl rfl (by kernel_rfl) (fun _ _ _ h => h) (Or.inl ⟨by kernel_rfl, ?_⟩) hHeld ?_ ?_
    rotate_left
    · rintro w' ⟨s0_, s1_, s2_, s3_, s4_⟩
      go_simp
      with_reducible rfl
    rotate_left
    · simp only [Act.put, List.setIfInBounds_toArray, List.set_cons_zero, List.set_cons_succ, i64_w, i32_w]
      rfl
    refine take_ (i := 29) (N := some 42) (v := ?_) (a' := ?_) #[true, true, true, true, true, true, true, true, true, false, true, true, true, true, true, true, true, true, true, false, false, true, true, true, true, false, true, true, true, true, false, false, false] rfl rfl (by kernel_rfl) (fun _ _ _ h => h) (Or.inl ⟨by kernel_rfl, ?_⟩) hHeld ?_ ?_
    rotate_left
    · rintro w' ⟨s0_, s1_, s2_, s3_, s4_⟩
      go_simp
      with_reducible rfl
    rotate_left
    · simp only [Act.put, List.setIfInBounds_toArray, List.set_cons_zero, List.set_cons_succ, i64_w, i32_w]
      rfl
    refine two_ (i := 9) (j := 19) (Ni := some 22) (Nj := some 32) #[true, true, true, true, true, true, true, true, true, true, true, true, true, true, true, true, true, true, true, false, false, true, true, true, true, false, true, true, true, true, false, false, false] #[true, true, true, true, true, true, true, true, true, false, true, true, true, true, true, true, true, true, true, true, false, true, true, true, true, false, true, true, true, true, false, false, false] rfl rfl rfl rfl (by kernel_rfl) (by decide) (by decide) (fun K hK => ?_) (fun K hK => ?_)
    · skip
      refine goes_ Try.func21 (by kernel_rfl) rfl #[.float .f64 a] (by rfl) rfl rfl (by (try simp only [List.map_toArray, List.map_cons, List.map_nil]); first | done | rfl) ?_
      refine (HR1.out _).mono ?_
      rintro e v1_ ⟨rfl, hb1⟩
      refine ⟨_, rfl, ?_⟩
      refine hK _ _ ⟨pw_cell_below hb1 hHeld.1, pw_cell_below hb1 hHeld.2.1, pw_cell_below hb1 hHeld.2.2.1, pw_cell_below hb1 hHeld.2.2.2.1, pw_cell_below hb1 hHeld.2.2.2.2⟩ (fun hHeld => ?_)
      clear hK K
      have l_ := Nat.le_of_lt (blk_lt BZ.out); have n_ := Aside0.mk (HB.out.trans (hb1.mono l_)); clear HB; have HB := n_; clear n_; have n_ := Aside0.mk (blk_below BZ.out hb1); clear BZ; have BZ := n_; clear n_ hb1 l_
      refine norm_ (a' := ?_) ?_ ?_
      rotate_left
      · show Act.put _ (some 22) _ = _
        simp only [Act.put, List.setIfInBounds_toArray, List.set_cons_zero, List.set_cons_succ, i64_w, i32_w]
        rfl
      refine one_ (i := 19) (N := some 32) #[true, true, true, true, true, true, true, true, true, true, true, true, true, true, true, true, true, true, true, true, false, true, true, true, true, false, true, true, true, true, false, false, false] rfl rfl (by kernel_rfl) (by decide) (fun K hK => ?_)
      obtain ⟨q, v2_, hrun, qc, ql, hb1⟩ := run_op (P := Try.prog) v1_ .quo 22 b (floatOfInt .f64 (s.n : Int)) (by simp)
      refine value_ (w1 := ?_) (v := ?_) (by kernel_rfl) rfl ?_ ?_
      rotate_left 2
      · go_simp
        constructor
        · rfl
        · rfl
      have R2 := rbits_calls q
      rw [show cn q = vop .quo s.sum (fi (s.n : Int)) from by rw [qc, vop_l HBB.out]] at R2
      have HR2 := Aside0.mk R2; clear R2 qc
      refine hK _ _ ⟨pw_cell_below hb1 hHeld.1, pw_cell_below hb1 hHeld.2.1, pw_cell_below hb1 hHeld.2.2.1, pw_cell_below hb1 hHeld.2.2.2.1, pw_cell_below hb1 hHeld.2.2.2.2⟩ (fun hHeld => ?_)
      clear hK K hrun
      have l_ := Nat.le_of_lt (blk_lt BZ.out); have n_ := Aside0.mk (HB.out.trans (hb1.mono l_)); clear HB; have HB := n_; clear n_; have n_ := Aside0.mk (blk_below BZ.out hb1); clear BZ; have BZ := n_; clear n_ hb1 l_
      refine norm_ (a' := ?_) ?_ ?_
      rotate_left
      · show Act.put _ (some 32) _ = _
        simp only [Act.put, List.setIfInBounds_toArray, List.set_cons_zero, List.set_cons_succ, i64_w, i32_w]
        rfl
      refine one_ (i := 20) (N := some 33) #[true, true, true, true, true, true, true, true, true, true, true, true, true, true, true, true, true, true, true, true, true, true, true, true, true, false, true, true, true, true, false, false, false] rfl rfl (by kernel_rfl) (by decide) (fun K hK => ?_)
      refine goes_ Try.func21 (by kernel_rfl) rfl #[.float .f64 q] (by rfl) rfl rfl (by (try simp only [List.map_toArray, List.map_cons, List.map_nil]); first | done | rfl) ?_
      refine (HR2.out _).mono ?_
      rintro e v3_ ⟨rfl, hb1⟩
      refine ⟨_, rfl, ?_⟩
      refine hK _ _ ⟨pw_cell_below hb1 hHeld.1, pw_cell_below hb1 hHeld.2.1, pw_cell_below hb1 hHeld.2.2.1, pw_cell_below hb1 hHeld.2.2.2.1, pw_cell_below hb1 hHeld.2.2.2.2⟩ (fun hHeld => ?_)
      clear hK K
      have l_ := Nat.le_of_lt (blk_lt BZ.out); have n_ := Aside0.mk (HB.out.trans (hb1.mono l_)); clear HB; have HB := n_; clear n_; have n_ := Aside0.mk (blk_below BZ.out hb1); clear BZ; have BZ := n_; clear n_ hb1 l_
      refine norm_ (a' := ?_) ?_ ?_
      rotate_left
      · show Act.put _ (some 33) _ = _
        simp only [Act.put, List.setIfInBounds_toArray, List.set_cons_zero, List.set_cons_succ, i64_w, i32_w]
        rfl
      refine one_ (i := 25) (N := some 38) #[true, true, true, true, true, true, true, true, true, true, true, true, true, true, true, true, true, true, true, true, true, true, true, true, true, true, true, true, true, true, false, false, false] rfl rfl (by kernel_rfl) (by decide) (fun K hK => ?_)
      refine goes_ Try.func21 (by kernel_rfl) rfl #[.float .f64 s.lo] (by rfl) rfl rfl (by (try simp only [List.map_toArray, List.map_cons, List.map_nil]); first | done | rfl) ?_
      refine (HR3.out _).mono ?_
      rintro e v4_ ⟨rfl, hb1⟩
      refine ⟨_, rfl, ?_⟩
      refine hK _ _ ⟨pw_cell_below hb1 hHeld.1, pw_cell_below hb1 hHeld.2.1, pw_cell_below hb1 hHeld.2.2.1, pw_cell_below hb1 hHeld.2.2.2.1, pw_cell_below hb1 hHeld.2.2.2.2⟩ (fun hHeld => ?_)
      clear hK K
      have l_ := Nat.le_of_lt (blk_lt BZ.out); have n_ := Aside0.mk (HB.out.trans (hb1.mono l_)); clear HB; have HB := n_; clear n_; have n_ := Aside0.mk (blk_below BZ.out hb1); clear BZ; have BZ := n_; clear n_ hb1 l_
      refine norm_ (a' := ?_) ?_ ?_
      rotate_left
      · show Act.put _ (some 38) _ = _
        simp only [Act.put, List.setIfInBounds_toArray, List.set_cons_zero, List.set_cons_succ, i64_w, i32_w]
        rfl
      refine one_ (i := 30) (N := some 43) #[true, true, true, true, true, true, true, true, true, true, true, true, true, true, true, true, true, true, true, true, true, true, true, true, true, true, true, true, true, true, true, false, false] rfl rfl (by kernel_rfl) (by decide) (fun K hK => ?_)
      refine goes_ Try.func21 (by kernel_rfl) rfl #[.float .f64 s.hi] (by rfl) rfl rfl (by (try simp only [List.map_toArray, List.map_cons, List.map_nil]); first | done | rfl) ?_
      refine (HR4.out _).mono ?_
      rintro e v5_ ⟨rfl, hb1⟩
      refine ⟨_, rfl, ?_⟩
      refine hK _ _ ⟨pw_cell_below hb1 hHeld.1, pw_cell_below hb1 hHeld.2.1, pw_cell_below hb1 hHeld.2.2.1, pw_cell_below hb1 hHeld.2.2.2.1, pw_cell_below hb1 hHeld.2.2.2.2⟩ (fun hHeld => ?_)
      clear hK K
      have l_ := Nat.le_of_lt (blk_lt BZ.out); have n_ := Aside0.mk (HB.out.trans (hb1.mono l_)); clear HB; have HB := n_; clear n_; have n_ := Aside0.mk (blk_below BZ.out hb1); clear BZ; have BZ := n_; clear n_ hb1 l_
      refine norm_ (a' := ?_) ?_ ?_
      rotate_left
      · show Act.put _ (some 43) _ = _
        simp only [Act.put, List.setIfInBounds_toArray, List.set_cons_zero, List.set_cons_succ, i64_w, i32_w]
        rfl
      refine pure_ (i := 31) (N := some 44) (v := ?_) (a' := ?_) #[true, true, true, true, true, true, true, true, true, true, true, true, true, true, true, true, true, true, true, true, true, true, true, true, true, true, true, true, true, true, true, true, false] rfl rfl (by kernel_rfl) (fun _ _ _ h => h) (Or.inl ⟨by kernel_rfl, ?_⟩) ?_ ?_
      rotate_left
      · intro w'
        go_simp
        with_reducible rfl
      rotate_left
      · simp only [Act.put, List.setIfInBounds_toArray, List.set_cons_zero, List.set_cons_succ, i64_w, i32_w]
        rfl
      refine last_ (i := 32) (N := none) #[true, true, true, true, true, true, true, true, true, true, true, true, true, true, true, true, true, true, true, true, true, true, true, true, true, true, true, true, true, true, true, true, true] rfl rfl (by kernel_rfl) (by decide) (fun K hK => ?_)
      obtain ⟨⟨y0, y1, y2, y3, y4⟩, fr_⟩ := five BZ.out; have g0 := fr_ 0; have g1 := fr_ 1; have g2 := fr_ 2; have g3 := fr_ 3; have g4 := fr_ 4; clear fr_
      refine skip_ (w1 := ?_) (by kernel_rfl) rfl ?_ ?_
      rotate_left
      · go_simp
        rfl
      refine hK _ _ ?_
      clear hK K
      refine done_ (by kernel_rfl) ?_
      clear hHeld c0 c1 c2 c3 c4
      go_wp2
      have b0_ := blk_put (cs' := #[.int .u64 (s.n : Int), .int .u64 0, .int .u64 0, .int .u64 0, .int .u64 0]) BZ.out 0 (.int .u64 (s.n : Int)) rfl
      have h0_ := HB.out.setCell (p := ⟨gA, 0, none⟩) (Nat.le_refl gA) (.int .u64 (s.n : Int))
      have b1_ := blk_put (cs' := #[.int .u64 (s.n : Int), .int .u64 ((cn s.mean : Nat) : Int), .int .u64 0, .int .u64 0, .int .u64 0]) b0_ 1 (.int .u64 ((cn s.mean : Nat) : Int)) rfl
      have h1_ := h0_.setCell (p := ⟨gA, 1, none⟩) (Nat.le_refl gA) (.int .u64 ((cn s.mean : Nat) : Int))
      have b2_ := blk_put (cs' := #[.int .u64 (s.n : Int), .int .u64 ((cn s.mean : Nat) : Int), .int .u64 ((vop .quo s.sum (fi (s.n : Int)) : Nat) : Int), .int .u64 0, .int .u64 0]) b1_ 2 (.int .u64 ((vop .quo s.sum (fi (s.n : Int)) : Nat) : Int)) rfl
      have h2_ := h1_.setCell (p := ⟨gA, 2, none⟩) (Nat.le_refl gA) (.int .u64 ((vop .quo s.sum (fi (s.n : Int)) : Nat) : Int))
      have b3_ := blk_put (cs' := #[.int .u64 (s.n : Int), .int .u64 ((cn s.mean : Nat) : Int), .int .u64 ((vop .quo s.sum (fi (s.n : Int)) : Nat) : Int), .int .u64 ((cn s.lo : Nat) : Int), .int .u64 0]) b2_ 3 (.int .u64 ((cn s.lo : Nat) : Int)) rfl
      have h3_ := h2_.setCell (p := ⟨gA, 3, none⟩) (Nat.le_refl gA) (.int .u64 ((cn s.lo : Nat) : Int))
      have b4_ := blk_put (cs' := #[.int .u64 (s.n : Int), .int .u64 ((cn s.mean : Nat) : Int), .int .u64 ((vop .quo s.sum (fi (s.n : Int)) : Nat) : Int), .int .u64 ((cn s.lo : Nat) : Int), .int .u64 ((cn s.hi : Nat) : Int)]) b3_ 4 (.int .u64 ((cn s.hi : Nat) : Int)) rfl
      have h4_ := h3_.setCell (p := ⟨gA, 4, none⟩) (Nat.le_refl gA) (.int .u64 ((cn s.hi : Nat) : Int))
      have hb_ := h4_
      have e0 : allA s = #[.int .u64 s.n, .int .u64 (cn s.mean : Nat), .int .u64 (vop .quo s.sum (fi (s.n : Int)) : Nat), .int .u64 (cn s.lo : Nat), .int .u64 (cn s.hi : Nat)] := by
        unfold allA meanV spreadV leastV mostV
        rw [if_neg N0.out, if_neg N0.out, if_neg N0.out, if_neg N0.out]
      rw [e0]
      subst hgA
      exact bodyPost_ret (results_c rfl _ _ _ 55 _ (0, 0) _ rfl b4_ Try.underlying55 rfl rfl) rfl ⟨rfl, hb_⟩
    · skip
      obtain ⟨q, v6_, hrun, qc, ql, hb1⟩ := run_op (P := Try.prog) w1.drew .quo 22 b (floatOfInt .f64 (s.n : Int)) (by simp)
      refine value_ (w1 := ?_) (v := ?_) (by kernel_rfl) rfl ?_ ?_
      rotate_left 2
      · go_simp
        constructor
        · rfl
        · rfl
      have R2 := rbits_calls q
      rw [show cn q = vop .quo s.sum (fi (s.n : Int)) from by rw [qc, vop_l HBB.out]] at R2
      have HR2 := Aside0.mk R2; clear R2 qc
      refine hK _ _ ⟨pw_cell_below hb1 hHeld.1, pw_cell_below hb1 hHeld.2.1, pw_cell_below hb1 hHeld.2.2.1, pw_cell_below hb1 hHeld.2.2.2.1, pw_cell_below hb1 hHeld.2.2.2.2⟩ (fun hHeld => ?_)
      clear hK K hrun
      have l_ := Nat.le_of_lt (blk_lt BZ.out); have n_ := Aside0.mk (HB.out.trans (hb1.mono l_)); clear HB; have HB := n_; clear n_; have n_ := Aside0.mk (blk_below BZ.out hb1); clear BZ; have BZ := n_; clear n_ hb1 l_
      refine norm_ (a' := ?_) ?_ ?_
      rotate_left
      · show Act.put _ (some 32) _ = _
        simp only [Act.put, List.setIfInBounds_toArray, List.set_cons_zero, List.set_cons_succ, i64_w, i32_w]
        rfl
      refine one_ (i := 9) (N := some 22) #[true, true, true, true, true, true, true, true, true, true, true, true, true, true, true, true, true, true, true, true, false, true, true, true, true, false, true, true, true, true, false, false, false] rfl rfl (by kernel_rfl) (by decide) (fun K hK => ?_)
      refine goes_ Try.func21 (by kernel_rfl) rfl #[.float .f64 a] (by rfl) rfl rfl (by (try simp only [List.map_toArray, List.map_cons, List.map_nil]); first | done | rfl) ?_
      refine (HR1.out _).mono ?_
      rintro e v7_ ⟨rfl, hb1⟩
      refine ⟨_, rfl, ?_⟩
      refine hK _ _ ⟨pw_cell_below hb1 hHeld.1, pw_cell_below hb1 hHeld.2.1, pw_cell_below hb1 hHeld.2.2.1, pw_cell_below hb1 hHeld.2.2.2.1, pw_cell_below hb1 hHeld.2.2.2.2⟩ (fun hHeld => ?_)
      clear hK K
      have l_ := Nat.le_of_lt (blk_lt BZ.out); have n_ := Aside0.mk (HB.out.trans (hb1.mono l_)); clear HB; have HB := n_; clear n_; have n_ := Aside0.mk (blk_below BZ.out hb1); clear BZ; have BZ := n_; clear n_ hb1 l_
      refine norm_ (a' := ?_) ?_ ?_
      rotate_left
      · show Act.put _ (some 22) _ = _
        simp only [Act.put, List.setIfInBounds_toArray, List.set_cons_zero, List.set_cons_succ, i64_w, i32_w]
        rfl
      refine one_ (i := 20) (N := some 33) #[true, true, true, true, true, true, true, true, true, true, true, true, true, true, true, true, true, true, true, true, true, true, true, true, true, false, true, true, true, true, false, false, false] rfl rfl (by kernel_rfl) (by decide) (fun K hK => ?_)
      refine goes_ Try.func21 (by kernel_rfl) rfl #[.float .f64 q] (by rfl) rfl rfl (by (try simp only [List.map_toArray, List.map_cons, List.map_nil]); first | done | rfl) ?_
      refine (HR2.out _).mono ?_
      rintro e v8_ ⟨rfl, hb1⟩
      refine ⟨_, rfl, ?_⟩
      refine hK _ _ ⟨pw_cell_below hb1 hHeld.1, pw_cell_below hb1 hHeld.2.1, pw_cell_below hb1 hHeld.2.2.1, pw_cell_below hb1 hHeld.2.2.2.1, pw_cell_below hb1 hHeld.2.2.2.2⟩ (fun hHeld => ?_)
      clear hK K
      have l_ := Nat.le_of_lt (blk_lt BZ.out); have n_ := Aside0.mk (HB.out.trans (hb1.mono l_)); clear HB; have HB := n_; clear n_; have n_ := Aside0.mk (blk_below BZ.out hb1); clear BZ; have BZ := n_; clear n_ hb1 l_
      refine norm_ (a' := ?_) ?_ ?_
      rotate_left
      · show Act.put _ (some 33) _ = _
        simp only [Act.put, List.setIfInBounds_toArray, List.set_cons_zero, List.set_cons_succ, i64_w, i32_w]
        rfl
      refine one_ (i := 25) (N := some 38) #[true, true, true, true, true, true, true, true, true, true, true, true, true, true, true, true, true, true, true, true, true, true, true, true, true, true, true, true, true, true, false, false, false] rfl rfl (by kernel_rfl) (by decide) (fun K hK => ?_)
      refine goes_ Try.func21 (by kernel_rfl) rfl #[.float .f64 s.lo] (by rfl) rfl rfl (by (try simp only [List.map_toArray, List.map_cons, List.map_nil]); first | done | rfl) ?_
      refine (HR3.out _).mono ?_
      rintro e v9_ ⟨rfl, hb1⟩
      refine ⟨_, rfl, ?_⟩
      refine hK _ _ ⟨pw_cell_below hb1 hHeld.1, pw_cell_below hb1 hHeld.2.1, pw_cell_below hb1 hHeld.2.2.1, pw_cell_below hb1 hHeld.2.2.2.1, pw_cell_below hb1 hHeld.2.2.2.2⟩ (fun hHeld => ?_)
      clear hK K
      have l_ := Nat.le_of_lt (blk_lt BZ.out); have n_ := Aside0.mk (HB.out.trans (hb1.mono l_)); clear HB; have HB := n_; clear n_; have n_ := Aside0.mk (blk_below BZ.out hb1); clear BZ; have BZ := n_; clear n_ hb1 l_
      refine norm_ (a' := ?_) ?_ ?_
      rotate_left
      · show Act.put _ (some 38) _ = _
        simp only [Act.put, List.setIfInBounds_toArray, List.set_cons_zero, List.set_cons_succ, i64_w, i32_w]
        rfl
      refine one_ (i := 30) (N := some 43) #[true, true, true, true, true, true, true, true, true, true, true, true, true, true, true, true, true, true, true, true, true, true, true, true, true, true, true, true, true, true, true, false, false] rfl rfl (by kernel_rfl) (by decide) (fun K hK => ?_)
      refine goes_ Try.func21 (by kernel_rfl) rfl #[.float .f64 s.hi] (by rfl) rfl rfl (by (try simp only [List.map_toArray, List.map_cons, List.map_nil]); first | done | rfl) ?_
      refine (HR4.out _).mono ?_
      rintro e v10_ ⟨rfl, hb1⟩
      refine ⟨_, rfl, ?_⟩
      refine hK _ _ ⟨pw_cell_below hb1 hHeld.1, pw_cell_below hb1 hHeld.2.1, pw_cell_below hb1 hHeld.2.2.1, pw_cell_below hb1 hHeld.2.2.2.1, pw_cell_below hb1 hHeld.2.2.2.2⟩ (fun hHeld => ?_)
      clear hK K
      have l_ := Nat.le_of_lt (blk_lt BZ.out); have n_ := Aside0.mk (HB.out.trans (hb1.mono l_)); clear HB; have HB := n_; clear n_; have n_ := Aside0.mk (blk_below BZ.out hb1); clear BZ; have BZ := n_; clear n_ hb1 l_
      refine norm_ (a' := ?_) ?_ ?_
      rotate_left
      · show Act.put _ (some 43) _ = _
        simp only [Act.put, List.setIfInBounds_toArray, List.set_cons_zero, List.set_cons_succ, i64_w, i32_w]
        rfl
      refine pure_ (i := 31) (N := some 44) (v := ?_) (a' := ?_) #[true, true, true, true, true, true, true, true, true, true, true, true, true, true, true, true, true, true, true, true, true, true, true, true, true, true, true, true, true, true, true, true, false] rfl rfl (by kernel_rfl) (fun _ _ _ h => h) (Or.inl ⟨by kernel_rfl, ?_⟩) ?_ ?_
      rotate_left
      · intro w'
        go_simp
        with_reducible rfl
      rotate_left
      · simp only [Act.put, List.setIfInBounds_toArray, List.set_cons_zero, List.set_cons_succ, i64_w, i32_w]
        rfl
      refine last_ (i := 32) (N := none) #[true, true, true, true, true, true, true, true, true, true, true, true, true, true, true, true, true, true, true, true, true, true, true, true, true, true, true, true, true, true, true, true, true] rfl rfl (by kernel_rfl) (by decide) (fun K hK => ?_)
      obtain ⟨⟨y0, y1, y2, y3, y4⟩, fr_⟩ := five BZ.out; have g0 := fr_ 0; have g1 := fr_ 1; have g2 := fr_ 2; have g3 := fr_ 3; have g4 := fr_ 4; clear fr_
      refine skip_ (w1 := ?_) (by kernel_rfl) rfl ?_ ?_
      rotate_left
      · go_simp
        rfl
      refine hK _ _ ?_
      clear hK K
      refine done_ (by kernel_rfl) ?_
      clear hHeld c0 c1 c2 c3 c4
      go_wp2
      have b0_ := blk_put (cs' := #[.int .u64 (s.n : Int), .int .u64 0, .int .u64 0, .int .u64 0, .int .u64 0]) BZ.out 0 (.int .u64 (s.n : Int)) rfl
      have h0_ := HB.out.setCell (p := ⟨gA, 0, none⟩) (Nat.le_refl gA) (.int .u64 (s.n : Int))
      have b1_ := blk_put (cs' := #[.int .u64 (s.n : Int), .int .u64 ((cn s.mean : Nat) : Int), .int .u64 0, .int .u64 0, .int .u64 0]) b0_ 1 (.int .u64 ((cn s.mean : Nat) : Int)) rfl
      have h1_ := h0_.setCell (p := ⟨gA, 1, none⟩) (Nat.le_refl gA) (.int .u64 ((cn s.mean : Nat) : Int))
      have b2_ := blk_put (cs' := #[.int .u64 (s.n : Int), .int .u64 ((cn s.mean : Nat) : Int), .int .u64 ((vop .quo s.sum (fi (s.n : Int)) : Nat) : Int), .int .u64 0, .int .u64 0]) b1_ 2 (.int .u64 ((vop .quo s.sum (fi (s.n : Int)) : Nat) : Int)) rfl
      have h2_ := h1_.setCell (p := ⟨gA, 2, none⟩) (Nat.le_refl gA) (.int .u64 ((vop .quo s.sum (fi (s.n : Int)) : Nat) : Int))
      have b3_ := blk_put (cs' := #[.int .u64 (s.n : Int), .int .u64 ((cn s.mean : Nat) : Int), .int .u64 ((vop .quo s.sum (fi (s.n : Int)) : Nat) : Int), .int .u64 ((cn s.lo : Nat) : Int), .int .u64 0]) b2_ 3 (.int .u64 ((cn s.lo : Nat) : Int)) rfl
      have h3_ := h2_.setCell (p := ⟨gA, 3, none⟩) (Nat.le_refl gA) (.int .u64 ((cn s.lo : Nat) : Int))
      have b4_ := blk_put (cs' := #[.int .u64 (s.n : Int), .int .u64 ((cn s.mean : Nat) : Int), .int .u64 ((vop .quo s.sum (fi (s.n : Int)) : Nat) : Int), .int .u64 ((cn s.lo : Nat) : Int), .int .u64 ((cn s.hi : Nat) : Int)]) b3_ 4 (.int .u64 ((cn s.hi : Nat) : Int)) rfl
      have h4_ := h3_.setCell (p := ⟨gA, 4, none⟩) (Nat.le_refl gA) (.int .u64 ((cn s.hi : Nat) : Int))
      have hb_ := h4_
      have e0 : allA s = #[.int .u64 s.n, .int .u64 (cn s.mean : Nat), .int .u64 (vop .quo s.sum (fi (s.n : Int)) : Nat), .int .u64 (cn s.lo : Nat), .int .u64 (cn s.hi : Nat)] := by
        unfold allA meanV spreadV leastV mostV
        rw [if_neg N0.out, if_neg N0.out, if_neg N0.out, if_neg N0.out]
      rw [e0]
      subst hgA
      exact bodyPost_ret (results_c rfl _ _ _ 55 _ (0, 0) _ rfl b4_ Try.underlying55 rfl rfl) rfl ⟨rfl, hb_⟩
end Go.Proofs.Ytnhlfafdldpdgaa.Pol
