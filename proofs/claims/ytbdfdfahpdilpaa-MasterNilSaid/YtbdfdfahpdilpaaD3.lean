import Derived.Test.YtbdfdfahpdilpaaD1
/-! Layer 3: Read, Arm, Dead, Waiting, Size. -/
namespace Go.Proofs.Ytbdfdfahpdilpaa.Dk
open Go Go.RowKit Go.ChangeMaps Go.Proofs.Ytbdfdfahpdilpaa.Arr Go.Proofs.Ytbdfdfahpdilpaa.Mp Go.Proofs.Ytbdfdfahpdilpaa.Ow Go.Proofs.YtbdfdfahpdilpaaW.PrintWords Go.Proofs.YtbdfdfahpdilpaaW.PrintLast Go.Proofs.YtbdfdfahpdilpaaW.PrintMore
set_option linter.unusedVariables false
set_option linter.unusedSimpArgs false
set_option maxHeartbeats 4000000 in
theorem read_calls (d : DS) (g : Nat) (i : Int) (S : Nat → Prop) (w : World) (h : DK w S g d) (ho : OkD d) : Calls Try.prog 19 #[.pointer (some ⟨g, 0, none⟩), .int .i64 i] w fun e w' => e = .returned (.tuple #[.string (readS d i), .int .i64 (readE d i)]) ∧ Below w.heap.size w w' := by
  obtain ⟨sv, rv, m, hv⟩ := h
  have HV := Aside0.mk hv; have HO := Aside0.mk ho; have F := Aside0.mk (Below.refl w.heap.size w); clear hv ho
  obtain ⟨⟨c0, c1, c2, c3, c4⟩, fr_⟩ := HV.out.cells; have f0 := fr_ 0; have f1 := fr_ 1; have f2 := fr_ 2; have f3 := fr_ 3; have f4 := fr_ 4; clear fr_
  cases hg : d.gone with
  | true =>
    have e1 : readE d i = 4 := by simp [readE, hg]
    have e2 : readS d i = ⟨#[]⟩ := by simp [readS, e1]
    rw [e1, e2]
    rw [hg] at c3
    clear e1 e2 hg
    go_enter Try.func19, Try.ntmps19
    go_wp2
    go_ret2
    exact ⟨rfl, F.out⟩
  | false =>
    rw [hg] at c3
    cases hT : thereD d i with
    | false =>
      have e1 : readE d i = 2 := by simp [readE, hg, hT]
      have e2 : readS d i = ⟨#[]⟩ := by simp [readS, e1]
      rw [e1, e2]
      have HG := Aside0.mk hg
      clear e1 e2 hg
      go_enter Try.func19, Try.ntmps19
      go_wp2_with (go_at_call 40; with_reducible refine (there_calls d g i S _ HV.out.dk HO.out).mono ?_; rintro e w1 ⟨rfl, hb1⟩; have v_ := HV.out.below hb1; have F_ := F.out.trans hb1; clear HV F hb1; have HV := Aside0.mk v_; have F := Aside0.mk F_; clear v_ F_ c0 c1 c2 c3 c4 f0 f1 f2 f3 f4; obtain ⟨⟨c0, c1, c2, c3, c4⟩, fr_⟩ := HV.out.cells; have f0 := fr_ 0; have f1 := fr_ 1; have f2 := fr_ 2; have f3 := fr_ 3; have f4 := fr_ 4; clear fr_)
      go_ret2
      exact ⟨rfl, F.out⟩
    | true =>
      have e1 : readE d i = 0 := by simp [readE, hg, hT]
      have hi : 0 ≤ i ∧ i < d.safe.length := by simpa [thereD] using hT
      obtain ⟨s0, hs0⟩ : ∃ s0, d.safe[i.toNat]? = some s0 := ⟨_, List.getElem?_eq_getElem (by omega)⟩
      have e2 : readS d i = (lastOf d.row i).getD s0 := by simp [readS, e1, hs0]
      rw [e1, e2]
      have HG := Aside0.mk hg
      obtain ⟨bs, c, cur, rfl, _, hb, _, _, _, htk⟩ := HV.out.safe.open (by omega)
      have HC := Aside0.mk (show ∀ W : World, W.heap[bs]? = w.heap[bs]? → W.cell? ⟨bs, i.toNat, none⟩ = some (.string s0) from fun (W : World) hW => cell_of (xs := d.safe.map .string) (n := d.safe.length * 1) (hW.trans hb) htk (by rw [List.getElem?_map, hs0]; rfl))
      have hbl := Aside0.mk (blk_lt hb)
      clear e1 e2 hg hs0 hb htk
      have i0 := hi.1; have i1 := hi.2; clear hi
      go_enter Try.func19, Try.ntmps19
      go_upto_region 7 with (go_at_call 40; with_reducible refine (there_calls d g i S _ HV.out.dk HO.out).mono ?_; rintro e w1 ⟨rfl, hb1⟩; have v_ := HV.out.below hb1; have F_ := F.out.trans hb1; clear HV F hb1; have HV := Aside0.mk v_; have F := Aside0.mk F_; clear v_ F_ c0 c1 c2 c3 c4 f0 f1 f2 f3 f4; obtain ⟨⟨c0, c1, c2, c3, c4⟩, fr_⟩ := HV.out.cells; have f0 := fr_ 0; have f1 := fr_ 1; have f2 := fr_ 2; have f3 := fr_ 3; have f4 := fr_ 4; clear fr_)
      have hl := run_lookup_mp (P := Try.prog) (t := 78) (k := 3) (e := 9) (by kernel_rfl) (by kernel_rfl) (fun w => by kernel_rfl) HV.out.map i
      have hcell := HC.out w1 (F.out.block bs hbl.out)
      cases hq : lastOf d.row i with
      | some x =>
        rw [hq] at hl
        simp only [Option.isSome_some, Option.getD_some] at hl ⊢
        have HQ := Aside0.mk hq; clear hq
        go_wp2
        go_ret2
        exact ⟨by rw [HQ.out]; rfl, F.out⟩
      | none =>
        rw [hq] at hl
        simp only [Option.isSome_none, Option.getD_none] at hl ⊢
        have HQ := Aside0.mk hq; clear hq
        go_wp2
        go_ret2
        exact ⟨by rw [HQ.out]; rfl, F.out⟩
theorem arm_calls (d : DS) (g : Nat) (k : Int) (S : Nat → Prop) (w : World) (h : DK w S g d) : Calls Try.prog 23 #[.pointer (some ⟨g, 0, none⟩), .int .i64 k] w fun e w' => e = .returned (.tuple #[]) ∧ DK w' S g { d with fuse := max k (-1) } ∧ FS S w w' := by
  obtain ⟨sv, rv, m, hv⟩ := h
  have HV := Aside0.mk hv; clear hv
  obtain ⟨⟨c0, c1, c2, c3, c4⟩, fr_⟩ := HV.out.cells; have f0 := fr_ 0; have f1 := fr_ 1; have f2 := fr_ 2; have f3 := fr_ 3; have f4 := fr_ 4; clear fr_
  go_enter Try.func23, Try.ntmps23
  go_wp2
  (try simp only [Exit.inBlock, Exit.then])
  refine bodyPost_end (results_none rfl _ _ _) rfl ?_
  exact ⟨rfl, ⟨sv, rv, m, HV.out.set_fuse _⟩, (FS.refl _ _).setCell (.inl HV.out.sg) _⟩
theorem dead_calls (d : DS) (g : Nat) (S : Nat → Prop) (w : World) (h : DK w S g d) : Calls Try.prog 22 #[.pointer (some ⟨g, 0, none⟩)] w fun e w' => e = .returned (.bool d.gone) ∧ Below w.heap.size w w' := by
  obtain ⟨sv, rv, m, hv⟩ := h
  obtain ⟨A, c, rfl, _⟩ := hv.safe.shape
  obtain ⟨A1, c1, rfl, _⟩ := hv.row.shape
  have HV := Aside0.mk hv; clear hv
  obtain ⟨⟨c0, c1, c2, c3, c4⟩, fr_⟩ := HV.out.cells; have f0 := fr_ 0; have f1 := fr_ 1; have f2 := fr_ 2; have f3 := fr_ 3; have f4 := fr_ 4; clear fr_
  go_enter Try.func22, Try.ntmps22
  go_wp2
  go_ret
  exact ⟨rfl, Below.refl _ _⟩
theorem waiting_calls (d : DS) (g : Nat) (S : Nat → Prop) (w : World) (h : DK w S g d) : Calls Try.prog 21 #[.pointer (some ⟨g, 0, none⟩)] w fun e w' => e = .returned (.int .i64 d.row.length) ∧ Below w.heap.size w w' := by
  obtain ⟨sv, rv, m, hv⟩ := h
  obtain ⟨A, c, rfl, _⟩ := hv.safe.shape
  obtain ⟨A1, c1, rfl, _⟩ := hv.row.shape
  have HV := Aside0.mk hv; clear hv
  obtain ⟨⟨c0, c1, c2, c3, c4⟩, fr_⟩ := HV.out.cells; have f0 := fr_ 0; have f1 := fr_ 1; have f2 := fr_ 2; have f3 := fr_ 3; have f4 := fr_ 4; clear fr_
  go_enter Try.func21, Try.ntmps21
  go_wp2
  go_ret
  exact ⟨rfl, Below.refl _ _⟩
theorem size_calls (d : DS) (g : Nat) (S : Nat → Prop) (w : World) (h : DK w S g d) : Calls Try.prog 31 #[.pointer (some ⟨g, 0, none⟩)] w fun e w' => e = .returned (.int .i64 d.safe.length) ∧ Below w.heap.size w w' := by
  obtain ⟨sv, rv, m, hv⟩ := h
  obtain ⟨A, c, rfl, _⟩ := hv.safe.shape
  obtain ⟨A1, c1, rfl, _⟩ := hv.row.shape
  have HV := Aside0.mk hv; clear hv
  obtain ⟨⟨c0, c1, c2, c3, c4⟩, fr_⟩ := HV.out.cells; have f0 := fr_ 0; have f1 := fr_ 1; have f2 := fr_ 2; have f3 := fr_ 3; have f4 := fr_ 4; clear fr_
  go_enter Try.func31, Try.ntmps31
  go_wp2
  go_ret
  exact ⟨rfl, Below.refl _ _⟩
theorem write_nil (i : Int) (s : ByteArray) (w : World) : Calls Try.prog 16 #[.pointer none, .int .i64 i, .string s] w fun e w' => e = .returned (.int .i64 10) ∧ Below w.heap.size w w' := by
  go_enter Try.func16, Try.ntmps16
  go_wp2
  go_ret
  exact ⟨rfl, Below.refl _ _⟩
theorem sync_nil  (w : World) : Calls Try.prog 18 #[.pointer none] w fun e w' => e = .returned (.int .i64 10) ∧ Below w.heap.size w w' := by
  go_enter Try.func18, Try.ntmps18
  go_wp2
  go_ret
  exact ⟨rfl, Below.refl _ _⟩
theorem read_nil (i : Int) (w : World) : Calls Try.prog 19 #[.pointer none, .int .i64 i] w fun e w' => e = .returned (.tuple #[.string ⟨#[]⟩, .int .i64 10]) ∧ Below w.heap.size w w' := by
  go_enter Try.func19, Try.ntmps19
  go_wp2
  go_ret2
  exact ⟨rfl, Below.refl _ _⟩
theorem crash_nil (v : Value) (w : World) : Calls Try.prog 20 #[.pointer none, v] w fun e w' => e = .returned (.tuple #[]) ∧ Below w.heap.size w w' := by
  go_enter Try.func20, Try.ntmps20
  go_wp2
  first | (refine bodyPost_ret (results_none rfl _ _ _) rfl ?_) | ((try simp only [Exit.inBlock, Exit.then]); refine bodyPost_end (results_none rfl _ _ _) rfl ?_)
  exact ⟨rfl, Below.refl _ _⟩
theorem arm_nil (i : Int) (w : World) : Calls Try.prog 23 #[.pointer none, .int .i64 i] w fun e w' => e = .returned (.tuple #[]) ∧ Below w.heap.size w w' := by
  go_enter Try.func23, Try.ntmps23
  go_wp2
  first | (refine bodyPost_ret (results_none rfl _ _ _) rfl ?_) | ((try simp only [Exit.inBlock, Exit.then]); refine bodyPost_end (results_none rfl _ _ _) rfl ?_)
  exact ⟨rfl, Below.refl _ _⟩
theorem dead_nil  (w : World) : Calls Try.prog 22 #[.pointer none] w fun e w' => e = .returned (.bool false) ∧ Below w.heap.size w w' := by
  go_enter Try.func22, Try.ntmps22
  go_wp2
  go_ret
  exact ⟨rfl, Below.refl _ _⟩
theorem waiting_nil  (w : World) : Calls Try.prog 21 #[.pointer none] w fun e w' => e = .returned (.int .i64 0) ∧ Below w.heap.size w w' := by
  go_enter Try.func21, Try.ntmps21
  go_wp2
  go_ret
  exact ⟨rfl, Below.refl _ _⟩
theorem size_nil  (w : World) : Calls Try.prog 31 #[.pointer none] w fun e w' => e = .returned (.int .i64 0) ∧ Below w.heap.size w w' := by
  go_enter Try.func31, Try.ntmps31
  go_wp2
  go_ret
  exact ⟨rfl, Below.refl _ _⟩
theorem copy_nil  (w : World) : Calls Try.prog 24 #[.pointer none] w fun e w' => e = .returned (.pointer none) ∧ Below w.heap.size w w' := by
  go_enter Try.func24, Try.ntmps24
  go_wp2
  go_ret
  exact ⟨rfl, Below.refl _ _⟩
theorem lose_nil (i : Int) (w : World) : Calls Try.prog 29 #[.pointer none, .int .i64 i] w fun e w' => e = .returned (.int .i64 10) ∧ Below w.heap.size w w' := by
  go_enter Try.func29, Try.ntmps29
  go_wp2
  go_ret
  exact ⟨rfl, (Below.refl _ _).alloc (Nat.le_refl _) _⟩
end Go.Proofs.Ytbdfdfahpdilpaa.Dk
