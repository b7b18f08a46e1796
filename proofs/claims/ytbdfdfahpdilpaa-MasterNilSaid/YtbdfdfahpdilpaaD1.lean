import Derived.Test.YtbdfdfahpdilpaaDk
/-! Layer 3: a disk's small functions. -/
namespace Go.Proofs.Ytbdfdfahpdilpaa.Dk
open Go Go.RowKit Go.ChangeMaps Go.Proofs.Ytbdfdfahpdilpaa.Arr Go.Proofs.Ytbdfdfahpdilpaa.Mp Go.Proofs.Ytbdfdfahpdilpaa.Ow Go.Proofs.YtbdfdfahpdilpaaW.PrintWords Go.Proofs.YtbdfdfahpdilpaaW.PrintLast Go.Proofs.YtbdfdfahpdilpaaW.PrintMore
set_option linter.unusedVariables false
set_option linter.unusedSimpArgs false
theorem there_calls (d : DS) (g : Nat) (i : Int) (S : Nat → Prop) (w : World) (h : DK w S g d) (ho : OkD d) : Calls Try.prog 40 #[.pointer (some ⟨g, 0, none⟩), .int .i64 i] w (fun e w' => e = .returned (.bool (thereD d i)) ∧ Below w.heap.size w w') := by
  obtain ⟨sv, rv, m, hv⟩ := h
  obtain ⟨A, c, rfl, _, _, _⟩ := hv.safe.shape
  have HV := Aside0.mk hv; clear hv
  obtain ⟨⟨c0, c1, c2, c3, c4⟩, fr_⟩ := HV.out.cells; have f0 := fr_ 0; have f1 := fr_ 1; have f2 := fr_ 2; have f3 := fr_ 3; have f4 := fr_ 4; clear fr_
  rcases Int.lt_or_le i 0 with h0 | h0
  · have e : thereD d i = false := by unfold thereD; rw [decide_eq_false (by omega)]; rfl
    rw [e]
    have t1 : decide (0 ≤ i) = false := decide_eq_false (by omega)
    clear h0 e
    go_enter Try.func40, Try.ntmps40
    go_wp2
    go_ret
    exact ⟨rfl, Below.refl _ _⟩
  · have e : thereD d i = decide (i < d.safe.length) := by unfold thereD; rw [decide_eq_true h0]; rfl
    rw [e]
    have t1 : decide (0 ≤ i) = true := decide_eq_true h0
    clear h0 e
    go_enter Try.func40, Try.ntmps40
    go_wp2
    go_ret
    exact ⟨rfl, Below.refl _ _⟩
theorem bears_calls (d : DS) (g : Nat) (S : Nat → Prop) (w : World) (h : DK w S g d) (ho : OkD d) : Calls Try.prog 41 #[.pointer (some ⟨g, 0, none⟩)] w fun e w' => e = .returned (.int .i64 (bearsE d)) ∧ DK w' S g (bearsD d) ∧ FS S w w' := by
  obtain ⟨sv, rv, m, hv⟩ := h
  have HV := Aside0.mk hv; clear hv
  obtain ⟨⟨c0, c1, c2, c3, c4⟩, fr_⟩ := HV.out.cells; have f0 := fr_ 0; have f1 := fr_ 1; have f2 := fr_ 2; have f3 := fr_ 3; have f4 := fr_ 4; clear fr_
  cases hg : d.gone with
  | true =>
    have e1 : bearsE d = 4 := by simp [bearsE, hg]
    have e2 : bearsD d = d := by simp [bearsD, hg]
    rw [e1, e2]
    rw [hg] at c3
    clear e1 e2 hg
    go_enter Try.func41, Try.ntmps41
    go_wp2
    go_ret
    exact ⟨rfl, ⟨sv, rv, m, HV.out⟩, FS.refl _ _⟩
  | false =>
    rw [hg] at c3
    by_cases h0 : d.fuse = 0
    · have e1 : bearsE d = 4 := by simp [bearsE, h0]
      have e2 : bearsD d = { d with gone := true } := by simp [bearsD, hg, h0]
      rw [e1, e2]
      have t1 : (d.fuse == 0) = true := by simp [h0]
      clear e1 e2 hg h0
      go_enter Try.func41, Try.ntmps41
      go_wp2
      go_ret
      exact ⟨rfl, ⟨sv, rv, m, HV.out.set_gone true⟩, (FS.refl _ _).setCell (.inl HV.out.sg) _⟩
    · have t1 : (d.fuse == 0) = false := by simp [h0]
      by_cases hp : 0 < d.fuse
      · have e1 : bearsE d = 0 := by simp [bearsE, hg, h0]
        have e2 : bearsD d = { d with fuse := d.fuse - 1 } := by simp [bearsD, hg, h0, hp]
        rw [e1, e2]
        have t2 : decide (0 < d.fuse) = true := decide_eq_true hp
        have hw : wrap64 (d.fuse - 1) = d.fuse - 1 := by have := ho.2.2.1; unfold wrap64; omega
        clear e1 e2 hg h0 hp ho
        go_enter Try.func41, Try.ntmps41
        go_wp2
        go_ret
        exact ⟨rfl, ⟨sv, rv, m, HV.out.set_fuse _⟩, (FS.refl _ _).setCell (.inl HV.out.sg) _⟩
      · have e1 : bearsE d = 0 := by simp [bearsE, hg, h0]
        have e2 : bearsD d = d := by simp [bearsD, hg, h0, hp]
        rw [e1, e2]
        have t2 : decide (0 < d.fuse) = false := decide_eq_false hp
        clear e1 e2 hg h0 hp ho
        go_enter Try.func41, Try.ntmps41
        go_wp2
        go_ret
        exact ⟨rfl, ⟨sv, rv, m, HV.out⟩, FS.refl _ _⟩
theorem settle_calls (d : DS) (g : Nat) (S : Nat → Prop) (w : World) (sv rv : Value) (m : Nat) (f : Int → Option ByteArray) (h : DV w S g d f sv rv m) : Calls Try.prog 42 #[.pointer (some ⟨g, 0, none⟩)] w fun e w' => e = .returned (.tuple #[]) ∧ DK w' S g (settleD d) ∧ FS S w w' := by
  have HV := Aside0.mk h; clear h
  obtain ⟨⟨c0, c1, c2, c3, c4⟩, fr_⟩ := HV.out.cells; have f0 := fr_ 0; have f1 := fr_ 1; have f2 := fr_ 2; have f3 := fr_ 3; have f4 := fr_ 4; clear fr_
  go_enter Try.func42, Try.ntmps42
  go_upto_region 1 with (fail)
  have v_ := HV.out.set_row (row' := []) (Ow.nil w S TW 2)
  have F := Aside0.mk ((FS.refl S w).setCell (p := ⟨g, 1, none⟩) (.inl HV.out.sg) (.slice none 0 0))
  clear HV c0 c1 c2 c3 c4 f0 f1 f2 f3 f4
  generalize hW : w.setCell ⟨g, 1, none⟩ (.slice none 0 0) = W at *
  clear hW
  have HV := Aside0.mk v_; clear v_
  obtain ⟨⟨c0, c1, c2, c3, c4⟩, fr_⟩ := HV.out.cells; have f0 := fr_ 0; have f1 := fr_ 1; have f2 := fr_ 2; have f3 := fr_ 3; have f4 := fr_ 4; clear fr_
  obtain ⟨o, hrun, hmp⟩ := run_clear_mp (P := Try.prog) (t := 78) (k := 3) (e := 9) (by kernel_rfl) HV.out.map 0
  have HM := Aside0.mk hmp; clear hmp
  go_wp2
  (try simp only [Exit.inBlock, Exit.then])
  refine bodyPost_end (results_none rfl _ _ _) rfl ?_
  exact ⟨rfl, ⟨sv, .slice none 0 0, m, HV.out.set_map HM.out⟩, F.out.setBlock (.inl HV.out.sm) o⟩
end Go.Proofs.Ytbdfdfahpdilpaa.Dk
