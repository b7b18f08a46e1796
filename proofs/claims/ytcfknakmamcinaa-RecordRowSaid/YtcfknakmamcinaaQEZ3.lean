import Derived.Deep.QuietTactic
import Derived.BigQuiet
import Derived.IntWalk
import Derived.Test.YtcfknakmamcinaaQEZ0
import Derived.Test.YtcfknakmamcinaaQEZ1
import Derived.Test.YtcfknakmamcinaaQEZ2
namespace Go.Proofs.Ytcfknakmamcinaa.Wr
open Go.Proofs.Ytcfknakmamcinaa.Rp Go.Proofs.Ytcfknakmamcinaa.X4
open Go Go.RowKit Go.ChangeMaps Go.Proofs.Ytcfknakmamcinaa.Arr Go.Proofs.Ytcfknakmamcinaa.Ow Go.Proofs.YtcfknakmamcinaaW.PrintWords Go.Proofs.YtcfknakmamcinaaW.PrintLast Go.Proofs.YtcfknakmamcinaaW.PrintMore
set_option linter.unusedVariables false
set_option linter.unusedSimpArgs false
/-- A reader of s, at a place. -/
def RD (w : World) (g : Nat) (s : ByteArray) (p : Nat) : Prop := w.heap[g]? = some (.cells #[.string s, .int .i64 (p : Int)] 72 (0, 0))
abbrev One (g : Nat) : Nat → Prop := fun k => k = g
theorem RD.below {w w' : World} {g : Nat} {s : ByteArray} {p : Nat} (h : RD w g s p) (hb : Below w.heap.size w w') : RD w' g s p := blk_below h hb
def takeR (s : ByteArray) (p n : Nat) : Option (ByteArray × Nat) := if p + n ≤ s.size then some (s.extract p (p + n), p + n) else none
def AfterS (g : Nat) (w : World) (s : ByteArray) (o : Option (ByteArray × Nat)) (x : Ending) (w' : World) : Prop :=
  match o with
  | some q => x = .returned (.string q.1) ∧ RD w' g s q.2 ∧ FS (One g) w w'
  | none => x = gaveUp 3 ∧ FS (One g) w w'
def AfterI (g : Nat) (w : World) (s : ByteArray) (o : Option (Int × Nat)) (x : Ending) (w' : World) : Prop :=
  match o with
  | some q => x = .returned (.int .i64 q.1) ∧ RD w' g s q.2 ∧ FS (One g) w w'
  | none => x = gaveUp 3 ∧ FS (One g) w w'
/-- A call that may give up (see Wr6). -/
theorem goesQ_ {P : Program} {ops : Array Oper} {Q : Exit → Act → World → Prop} {oi : Oper} {N : Option Tmp} {a : Act} {w : World} {K : Act → World → Prop} {f : FuncId} {fn : Func} {os : Array Operand} {ts : Array TypeId} (hf : P.funcs[f]? = some fn) (hname : (fn.name == "runtime.NumGoroutine") = false) (hb : fn.body.isSome = true) (args : Array Value)
    (hw : Region.wanted oi (yielded ops a.tmps) = true) (hN : oi.dst = N) (hop : oi.op = .call { callee := .value (.func f), args := os, argTypes := ts }) (hargs : os.map a.eval = args)
    (h : Calls P f args w fun e w' => (∃ v, e = .returned v ∧ K (a.put N v) w') ∨ (∃ c, e = .panicked c ∧ Q (.panic c) a w')) : if Region.wanted oi (yielded ops a.tmps) = true then Oper.wp P oi a w K Q else K (a.put N undef) w := by
  have he := enters_ hf hname hb args w
  have hrun : (execOp a.eval oi).run P w = .ok (.enter f args) w := by
    unfold execOp
    simp [hop, resolve, Deferred.ofValue, invoke, Act.eval, hargs, he]
  rw [if_pos hw]
  subst hN
  unfold Oper.wp
  rw [hrun, Oper.upon_enter]
  refine h.mono fun e w'' hh => ?_
  rcases hh with ⟨v, rfl, hk⟩ | ⟨c, rfl, hq⟩
  · exact hk
  · exact hq
set_option maxHeartbeats 1000000 in
theorem take_calls (g : Nat) (s : ByteArray) (p n : Nat) (w : World) (h : RD w g s p) (hp : p ≤ s.size) (hs : s.size ≤ 1000000000000) (hn : n ≤ 1000000000000) : Calls Try.prog 46 #[.pointer (some ⟨g, 0, none⟩), .int .i64 n] w fun x w' => AfterS g w s (takeR s p n) x w' := by
  have H := Aside0.mk h; have HP := Aside0.mk hp; have HS := Aside0.mk hs; have HN := Aside0.mk hn
  have z0 : w.drew.cell? ⟨g, 0, none⟩ = some (.string s) := blk_cell (w := w.drew) h 0
  have z1 : w.drew.cell? ⟨g, 1, none⟩ = some (.int .i64 p) := blk_cell (w := w.drew) h 1
  have hw1 : wrap64 ((s.size : Int) - (p : Int)) = (s.size : Int) - (p : Int) := by unfold wrap64; omega
  have hw2 : IntKind.i64.wrap ((s.size : Int) - (p : Int)) = (s.size : Int) - (p : Int) := IntWalk.i64_in _ (by omega)
  clear h hp hs hn
  go_enter Try.func46, Try.ntmps46
  go_upto_region 1 with (fail)
  by_cases hk : p + n ≤ s.size
  rotate_left
  · have E := Aside0.mk (show takeR s p n = none by unfold takeR; rw [if_neg hk])
    have t1 : decide ((n : Int) ≤ (s.size : Int) - (p : Int)) = false := decide_eq_false (by have := HP.out; omega)
    clear hk
    refine start_ (n := 13) (S := fun w' => w'.cell? ⟨g, 0, none⟩ = some (.string s) ∧ w'.cell? ⟨g, 1, none⟩ = some (.int .i64 p)) (ds := []) #[false, false, false, false, false, false, false, false, false, false, false, false, false] (by kernel_rfl) rfl rfl ⟨z0, z1⟩ (fun hHeld => ?_)
    refine pure_ (i := 0) (N := some 5) (v := ?_) (a' := ?_) #[true, false, false, false, false, false, false, false, false, false, false, false, false] rfl rfl (by kernel_rfl) (fun _ _ _ h => h) (Or.inl ⟨by kernel_rfl, ?_⟩) ?_ ?_
    rotate_left
    · intro w'
      go_simp
      with_reducible rfl
    rotate_left
    · simp only [Act.put, List.setIfInBounds_toArray, List.set_cons_zero, List.set_cons_succ, i64_w, i32_w]
      rfl
    refine pure_ (i := 1) (N := some 6) (v := ?_) (a' := ?_) #[true, true, false, false, false, false, false, false, false, false, false, false, false] rfl rfl (by kernel_rfl) (fun _ _ _ h => h) (Or.inl ⟨by kernel_rfl, ?_⟩) ?_ ?_
    rotate_left
    · intro w'
      go_simp
      with_reducible rfl
    rotate_left
    · simp only [Act.put, List.setIfInBounds_toArray, List.set_cons_zero, List.set_cons_succ, i64_w, i32_w]
      rfl
    refine pure_ (i := 2) (N := some 7) (v := ?_) (a' := ?_) #[true, true, true, false, false, false, false, false, false, false, false, false, false] rfl rfl (by kernel_rfl) (fun _ _ _ h => h) (Or.inl ⟨by kernel_rfl, ?_⟩) ?_ ?_
    rotate_left
    · intro w'
      go_simp
      with_reducible rfl
    rotate_left
    · simp only [Act.put, List.setIfInBounds_toArray, List.set_cons_zero, List.set_cons_succ, i64_w, i32_w]
      rfl
    refine pure_ (i := 3) (N := some 8) (v := ?_) (a' := ?_) #[true, true, true, true, false, false, false, false, false, false, false, false, false] rfl rfl (by kernel_rfl) (fun _ _ _ h => h) (Or.inl ⟨by kernel_rfl, ?_⟩) ?_ ?_
    rotate_left
    · intro w'
      go_simp
      with_reducible rfl
    rotate_left
    · simp only [Act.put, List.setIfInBounds_toArray, List.set_cons_zero, List.set_cons_succ, i64_w, i32_w]
      rfl
    refine pure_ (i := 6) (N := some 11) (v := ?_) (a' := ?_) #[true, true, true, true, false, false, true, false, false, false, false, false, false] rfl rfl (by kernel_rfl) (fun _ _ _ h => h) (Or.inl ⟨by kernel_rfl, ?_⟩) ?_ ?_
    rotate_left
    · intro w'
      go_simp
      with_reducible rfl
    rotate_left
    · simp only [Act.put, List.setIfInBounds_toArray, List.set_cons_zero, List.set_cons_succ, i64_w, i32_w]
      rfl
    refine pure_ (i := 7) (N := some 12) (v := ?_) (a' := ?_) #[true, true, true, true, false, false, true, true, false, false, false, false, false] rfl rfl (by kernel_rfl) (fun _ _ _ h => h) (Or.inl ⟨by kernel_rfl, ?_⟩) ?_ ?_
    rotate_left
    · intro w'
      go_simp
      with_reducible rfl
    rotate_left
    · simp only [Act.put, List.setIfInBounds_toArray, List.set_cons_zero, List.set_cons_succ, i64_w, i32_w]
      rfl
    refine pure_ (i := 8) (N := some 13) (v := ?_) (a' := ?_) #[true, true, true, true, false, false, true, true, true, false, false, false, false] rfl rfl (by kernel_rfl) (fun _ _ _ h => h) (Or.inl ⟨by kernel_rfl, ?_⟩) ?_ ?_
    rotate_left
    · intro w'
      go_simp
      with_reducible rfl
    rotate_left
    · simp only [Act.put, List.setIfInBounds_toArray, List.set_cons_zero, List.set_cons_succ, i64_w, i32_w]
      rfl
    refine take_ (i := 4) (N := some 9) (v := ?_) (a' := ?_) #[true, true, true, true, true, false, true, true, true, false, false, false, false] rfl rfl (by kernel_rfl) (fun _ _ _ h => h) (Or.inl ⟨by kernel_rfl, ?_⟩) hHeld ?_ ?_
    rotate_left
    · rintro w' ⟨s0_, s1_⟩
      go_simp
      with_reducible rfl
    rotate_left
    · simp only [Act.put, List.setIfInBounds_toArray, List.set_cons_zero, List.set_cons_succ, i64_w, i32_w]
      rfl
    refine pure_ (i := 5) (N := some 10) (v := ?_) (a' := ?_) #[true, true, true, true, true, true, true, true, true, false, false, false, false] rfl rfl (by kernel_rfl) (fun _ _ _ h => h) (Or.inl ⟨by kernel_rfl, ?_⟩) ?_ ?_
    rotate_left
    · intro w'
      go_simp
      with_reducible rfl
    rotate_left
    · simp only [Act.put, List.setIfInBounds_toArray, List.set_cons_zero, List.set_cons_succ, i64_w, i32_w]
      rfl
    refine take_ (i := 9) (N := some 14) (v := ?_) (a' := ?_) #[true, true, true, true, true, true, true, true, true, true, false, false, false] rfl rfl (by kernel_rfl) (fun _ _ _ h => h) (Or.inl ⟨by kernel_rfl, ?_⟩) hHeld ?_ ?_
    rotate_left
    · rintro w' ⟨s0_, s1_⟩
      go_simp
      with_reducible rfl
    rotate_left
    · simp only [Act.put, List.setIfInBounds_toArray, List.set_cons_zero, List.set_cons_succ, i64_w, i32_w]
      rfl
    refine pure_ (i := 10) (N := some 15) (v := ?_) (a' := ?_) #[true, true, true, true, true, true, true, true, true, true, true, false, false] rfl rfl (by kernel_rfl) (fun _ _ _ h => h) (Or.inl ⟨by kernel_rfl, ?_⟩) ?_ ?_
    rotate_left
    · intro w'
      go_simp
      with_reducible rfl
    rotate_left
    · simp only [Act.put, List.setIfInBounds_toArray, List.set_cons_zero, List.set_cons_succ, i64_w, i32_w]
      rfl
    refine pure_ (i := 11) (N := some 16) (v := ?_) (a' := ?_) #[true, true, true, true, true, true, true, true, true, true, true, true, false] rfl rfl (by kernel_rfl) (fun _ _ _ h => h) (Or.inl ⟨by kernel_rfl, ?_⟩) ?_ ?_
    rotate_left
    · intro w'
      go_simp
      with_reducible rfl
    rotate_left
    · simp only [Act.put, List.setIfInBounds_toArray, List.set_cons_zero, List.set_cons_succ, i64_w, i32_w]
      rfl
    refine one_ (i := 12) (N := some 17) #[true, true, true, true, true, true, true, true, true, true, true, true, true] rfl rfl (by kernel_rfl) (by decide) (fun K hK => ?_)
    refine goesQ_ Try.func24 (by kernel_rfl) rfl #[.bool false, .int .i64 3] (by rfl) rfl rfl (by (try simp only [List.map_toArray, List.map_cons, List.map_nil]); first | done | rfl) ?_
    refine (must_no 3 _).mono ?_
    rintro e w9 ⟨rfl, hw⟩
    replace hw := hw.symm
    subst hw
    refine Or.inr ⟨_, rfl, rfl, ?_⟩
    show AfterS g w s (takeR s p n) (gaveUp 3) _
    rw [E.out]
    exact ⟨rfl, (FS.refl _ _).drew⟩
  have E := Aside0.mk (show takeR s p n = some (s.extract p (p + n), p + n) by unfold takeR; rw [if_pos hk])
  have t1 : decide ((n : Int) ≤ (s.size : Int) - (p : Int)) = true := decide_eq_true (by have := HP.out; omega)
  have HK := Aside0.mk hk
  clear hk
  refine start_ (n := 13) (S := fun w' => w'.cell? ⟨g, 0, none⟩ = some (.string s) ∧ w'.cell? ⟨g, 1, none⟩ = some (.int .i64 p)) (ds := []) #[false, false, false, false, false, false, false, false, false, false, false, false, false] (by kernel_rfl) rfl rfl ⟨z0, z1⟩ (fun hHeld => ?_)
  refine pure_ (i := 0) (N := some 5) (v := ?_) (a' := ?_) #[true, false, false, false, false, false, false, false, false, false, false, false, false] rfl rfl (by kernel_rfl) (fun _ _ _ h => h) (Or.inl ⟨by kernel_rfl, ?_⟩) ?_ ?_
  rotate_left
  · intro w'
    go_simp
    with_reducible rfl
  rotate_left
  · simp only [Act.put, List.setIfInBounds_toArray, List.set_cons_zero, List.set_cons_succ, i64_w, i32_w]
    rfl
  refine pure_ (i := 1) (N := some 6) (v := ?_) (a' := ?_) #[true, true, false, false, false, false, false, false, false, false, false, false, false] rfl rfl (by kernel_rfl) (fun _ _ _ h => h) (Or.inl ⟨by kernel_rfl, ?_⟩) ?_ ?_
  rotate_left
  · intro w'
    go_simp
    with_reducible rfl
  rotate_left
  · simp only [Act.put, List.setIfInBounds_toArray, List.set_cons_zero, List.set_cons_succ, i64_w, i32_w]
    rfl
  refine pure_ (i := 2) (N := some 7) (v := ?_) (a' := ?_) #[true, true, true, false, false, false, false, false, false, false, false, false, false] rfl rfl (by kernel_rfl) (fun _ _ _ h => h) (Or.inl ⟨by kernel_rfl, ?_⟩) ?_ ?_
  rotate_left
  · intro w'
    go_simp
    with_reducible rfl
  rotate_left
  · simp only [Act.put, List.setIfInBounds_toArray, List.set_cons_zero, List.set_cons_succ, i64_w, i32_w]
    rfl
  refine pure_ (i := 3) (N := some 8) (v := ?_) (a' := ?_) #[true, true, true, true, false, false, false, false, false, false, false, false, false] rfl rfl (by kernel_rfl) (fun _ _ _ h => h) (Or.inl ⟨by kernel_rfl, ?_⟩) ?_ ?_
  rotate_left
  · intro w'
    go_simp
    with_reducible rfl
  rotate_left
  · simp only [Act.put, List.setIfInBounds_toArray, List.set_cons_zero, List.set_cons_succ, i64_w, i32_w]
    rfl
  refine pure_ (i := 6) (N := some 11) (v := ?_) (a' := ?_) #[true, true, true, true, false, false, true, false, false, false, false, false, false] rfl rfl (by kernel_rfl) (fun _ _ _ h => h) (Or.inl ⟨by kernel_rfl, ?_⟩) ?_ ?_
  rotate_left
  · intro w'
    go_simp
    with_reducible rfl
  rotate_left
  · simp only [Act.put, List.setIfInBounds_toArray, List.set_cons_zero, List.set_cons_succ, i64_w, i32_w]
    rfl
  refine pure_ (i := 7) (N := some 12) (v := ?_) (a' := ?_) #[true, true, true, true, false, false, true, true, false, false, false, false, false] rfl rfl (by kernel_rfl) (fun _ _ _ h => h) (Or.inl ⟨by kernel_rfl, ?_⟩) ?_ ?_
  rotate_left
  · intro w'
    go_simp
    with_reducible rfl
  rotate_left
  · simp only [Act.put, List.setIfInBounds_toArray, List.set_cons_zero, List.set_cons_succ, i64_w, i32_w]
    rfl
  refine pure_ (i := 8) (N := some 13) (v := ?_) (a' := ?_) #[true, true, true, true, false, false, true, true, true, false, false, false, false] rfl rfl (by kernel_rfl) (fun _ _ _ h => h) (Or.inl ⟨by kernel_rfl, ?_⟩) ?_ ?_
  rotate_left
  · intro w'
    go_simp
    with_reducible rfl
  rotate_left
  · simp only [Act.put, List.setIfInBounds_toArray, List.set_cons_zero, List.set_cons_succ, i64_w, i32_w]
    rfl
  refine take_ (i := 4) (N := some 9) (v := ?_) (a' := ?_) #[true, true, true, true, true, false, true, true, true, false, false, false, false] rfl rfl (by kernel_rfl) (fun _ _ _ h => h) (Or.inl ⟨by kernel_rfl, ?_⟩) hHeld ?_ ?_
  rotate_left
  · rintro w' ⟨s0_, s1_⟩
    go_simp
    with_reducible rfl
  rotate_left
  · simp only [Act.put, List.setIfInBounds_toArray, List.set_cons_zero, List.set_cons_succ, i64_w, i32_w]
    rfl
  refine pure_ (i := 5) (N := some 10) (v := ?_) (a' := ?_) #[true, true, true, true, true, true, true, true, true, false, false, false, false] rfl rfl (by kernel_rfl) (fun _ _ _ h => h) (Or.inl ⟨by kernel_rfl, ?_⟩) ?_ ?_
  rotate_left
  · intro w'
    go_simp
    with_reducible rfl
  rotate_left
  · simp only [Act.put, List.setIfInBounds_toArray, List.set_cons_zero, List.set_cons_succ, i64_w, i32_w]
    rfl
  refine take_ (i := 9) (N := some 14) (v := ?_) (a' := ?_) #[true, true, true, true, true, true, true, true, true, true, false, false, false] rfl rfl (by kernel_rfl) (fun _ _ _ h => h) (Or.inl ⟨by kernel_rfl, ?_⟩) hHeld ?_ ?_
  rotate_left
  · rintro w' ⟨s0_, s1_⟩
    go_simp
    with_reducible rfl
  rotate_left
  · simp only [Act.put, List.setIfInBounds_toArray, List.set_cons_zero, List.set_cons_succ, i64_w, i32_w]
    rfl
  refine pure_ (i := 10) (N := some 15) (v := ?_) (a' := ?_) #[true, true, true, true, true, true, true, true, true, true, true, false, false] rfl rfl (by kernel_rfl) (fun _ _ _ h => h) (Or.inl ⟨by kernel_rfl, ?_⟩) ?_ ?_
  rotate_left
  · intro w'
    go_simp
    with_reducible rfl
  rotate_left
  · simp only [Act.put, List.setIfInBounds_toArray, List.set_cons_zero, List.set_cons_succ, i64_w, i32_w]
    rfl
  refine pure_ (i := 11) (N := some 16) (v := ?_) (a' := ?_) #[true, true, true, true, true, true, true, true, true, true, true, true, false] rfl rfl (by kernel_rfl) (fun _ _ _ h => h) (Or.inl ⟨by kernel_rfl, ?_⟩) ?_ ?_
  rotate_left
  · intro w'
    go_simp
    with_reducible rfl
  rotate_left
  · simp only [Act.put, List.setIfInBounds_toArray, List.set_cons_zero, List.set_cons_succ, i64_w, i32_w]
    rfl
  refine one_ (i := 12) (N := some 17) #[true, true, true, true, true, true, true, true, true, true, true, true, true] rfl rfl (by kernel_rfl) (by decide) (fun K hK => ?_)
  refine goes_ Try.func24 (by kernel_rfl) rfl #[.bool true, .int .i64 3] (by rfl) rfl rfl (by (try simp only [List.map_toArray, List.map_cons, List.map_nil]); first | done | rfl) ?_
  refine (must_yes 3 _).mono ?_
  rintro e w9 ⟨rfl, hw⟩
  replace hw := hw.symm
  subst hw
  refine ⟨_, rfl, ?_⟩
  refine hK _ _ ⟨z0, z1⟩ (fun hHeld => ?_)
  clear hK K
  refine norm_ (a' := ?_) ?_ ?_
  rotate_left
  · show Act.put _ (some 17) _ = _
    simp only [Act.put, List.setIfInBounds_toArray, List.set_cons_zero, List.set_cons_succ, i64_w, i32_w]
    rfl
  refine done_ (by kernel_rfl) ?_
  simp only [Exit.inBlock, Exit.then]
  have F := Aside0.mk ((FS.refl (One g) w).drew)
  have H1 := Aside0.mk (show RD w.drew g s p from H.out)
  clear hHeld z0 z1 t1
  generalize w.drew = w1 at *
  have z1 : w1.cell? ⟨g, 1, none⟩ = some (.int .i64 p) := blk_cell H1.out 1
  have f1 : w1.frozen? ⟨g, 1, none⟩ = false := blk_frozen H1.out 1
  have hw3 : wrap64 ((p : Int) + (n : Int)) = ((p + n : Nat) : Int) := by have := HK.out; have := HS.out; unfold wrap64; omega
  go_upto_region 3 with (fail)
  rw [show (p : Int) + (n : Int) = ((p + n : Nat) : Int) by omega]
  have H2 := Aside0.mk (show RD (w1.setCell ⟨g, 1, none⟩ (.int .i64 ((p + n : Nat) : Int))) g s (p + n) from set_blk H1.out 1 _)
  have F2 := Aside0.mk (F.out.setCell (p := ⟨g, 1, none⟩) (.inl rfl) (.int .i64 ((p + n : Nat) : Int)))
  generalize w1.setCell ⟨g, 1, none⟩ (.int .i64 ((p + n : Nat) : Int)) = w2 at *
  clear z1 f1 F H1
  have y0 : w2.cell? ⟨g, 0, none⟩ = some (.string s) := blk_cell H2.out 0
  have y1 : w2.cell? ⟨g, 1, none⟩ = some (.int .i64 ((p + n : Nat) : Int)) := blk_cell H2.out 1
  have hw4 : wrap64 (((p + n : Nat) : Int) - (n : Int)) = (p : Int) := by have := HK.out; have := HS.out; unfold wrap64; omega
  have hw5 : IntKind.i64.wrap (((p + n : Nat) : Int) - (n : Int)) = (p : Int) := by rw [show ((p + n : Nat) : Int) - (n : Int) = (p : Int) by omega]; exact IntWalk.i64_in _ (by have := HK.out; have := HS.out; omega)
  have hw6 : IntKind.i64.wrap (p : Int) = (p : Int) := IntWalk.i64_in _ (by have := HK.out; have := HS.out; omega)
  have b1 : (0 : Int) ≤ (p : Int) := by omega
  have b4 : (p : Int) + (n : Int) ≤ (s.size : Int) := by have := HK.out; omega
  have b5 : (p : Int) ≤ (p : Int) + (n : Int) := by omega
  have b6 : ((p : Int) + (n : Int)).toNat = p + n := by omega
  have b2 : ((p + n : Nat) : Int) ≤ (s.size : Int) := by have := HK.out; omega
  have b3 : (p : Int) ≤ ((p + n : Nat) : Int) := by omega
  clear hHeld hw1 hw2 hw3
  go_quiet (fail)
  go_wp2
  go_ret
  show AfterS g w s (takeR s p n) _ _
  rw [E.out]
  exact ⟨by rfl, H2.out.below (pw_below_drewN (Below.refl _ _) _), F2.out.below (pw_below_drewN (Below.refl _ _) _)⟩
theorem take_lit (g : Nat) (s : ByteArray) (p n : Nat) (i : Int) (hi : i = (n : Int)) (w : World) (h : RD w g s p) (hp : p ≤ s.size) (hs : s.size ≤ 1000000000000) (hn : n ≤ 1000000000000) : Calls Try.prog 46 #[.pointer (some ⟨g, 0, none⟩), .int .i64 i] w fun x w' => AfterS g w s (takeR s p n) x w' := by
  subst hi
  exact take_calls g s p n w h hp hs hn
def smallR (s : ByteArray) (p : Nat) : Option (Int × Nat) := (takeR s p 1).map fun q => (bt q.1 0, q.2)
def num4 (b : ByteArray) : Int := ((bt b 0 * 256 + bt b 1) * 256 + bt b 2) * 256 + bt b 3
def numR (s : ByteArray) (p : Nat) : Option (Int × Nat) := (takeR s p 4).map fun q => (num4 q.1, q.2)
theorem take_size {s : ByteArray} {p n : Nat} {b : ByteArray} {q : Nat} (h : takeR s p n = some (b, q)) : b.size = n ∧ q = p + n ∧ q ≤ s.size := by
  unfold takeR at h
  split at h
  · cases h
    refine ⟨?_, rfl, by assumption⟩
    rw [ByteArray.size_extract]
    omega
  · cases h
theorem small_some {s : ByteArray} {p : Nat} {v : Int} {q : Nat} (h : smallR s p = some (v, q)) : q = p + 1 ∧ q ≤ s.size ∧ 0 ≤ v ∧ v ≤ 255 := by
  unfold smallR at h
  cases h1 : takeR s p 1 with
  | none => rw [h1] at h; cases h
  | some b =>
    obtain ⟨b, q'⟩ := b
    rw [h1] at h
    simp only [Option.map_some, Option.some.injEq, Prod.mk.injEq] at h
    obtain ⟨rfl, rfl⟩ := h
    have := take_size h1
    have := bt_range b 0
    exact ⟨by omega, by omega, by omega, by omega⟩
theorem rnum_some {s : ByteArray} {p : Nat} {v : Int} {q : Nat} (h : numR s p = some (v, q)) : q = p + 4 ∧ q ≤ s.size ∧ 0 ≤ v ∧ v ≤ 4294967295 := by
  unfold numR at h
  cases h1 : takeR s p 4 with
  | none => rw [h1] at h; cases h
  | some b =>
    obtain ⟨b, q'⟩ := b
    rw [h1] at h
    simp only [Option.map_some, Option.some.injEq, Prod.mk.injEq] at h
    obtain ⟨rfl, rfl⟩ := h
    have := take_size h1
    have := bt_range b 0; have := bt_range b 1; have := bt_range b 2; have := bt_range b 3
    refine ⟨by omega, by omega, ?_, ?_⟩ <;> unfold num4 <;> omega
theorem smallr_calls (g : Nat) (s : ByteArray) (p : Nat) (w : World) (h : RD w g s p) (hp : p ≤ s.size) (hs : s.size ≤ 1000000000000) : Calls Try.prog 44 #[.pointer (some ⟨g, 0, none⟩)] w fun x w' => AfterI g w s (smallR s p) x w' := by
  have H := Aside0.mk h; have HP := Aside0.mk hp; have HS := Aside0.mk hs
  clear h hp hs
  cases ht : takeR s p 1 with
  | none =>
    have HT := Aside0.mk ht; clear ht
    go_enter Try.func44, Try.ntmps44
    go_wp2_with (go_at_call 46; (with_reducible refine (take_lit g s p 1 1 rfl _ H.out HP.out HS.out (by omega)).mono ?_); rintro e w1 hx; rw [HT.out] at hx; obtain ⟨rfl, hf⟩ := hx; have F := Aside0.mk hf; clear hf)
    refine ⟨rfl, ?_⟩
    show AfterI g w s (smallR s p) (gaveUp 3) _
    rw [show smallR s p = none by unfold smallR; rw [HT.out]; rfl]
    exact ⟨rfl, F.out⟩
  | some b =>
    obtain ⟨b, q⟩ := b
    have hb := take_size ht
    have hb0 : 0 < b.size := by omega
    have HT := Aside0.mk ht; have HB := Aside0.mk hb; clear ht hb
    have HBT := Aside0.mk (show wrap64 (((b[0]'hb0).toNat : Int)) = bt b 0 by have h2 := bt_range b 0; have h1 : ((b[0]'hb0).toNat : Int) = bt b 0 := bt_at b 0 hb0; rw [h1]; unfold wrap64; omega)
    go_enter Try.func44, Try.ntmps44
    go_wp2_with (go_at_call 46; (with_reducible refine (take_lit g s p 1 1 rfl _ H.out HP.out HS.out (by omega)).mono ?_); rintro e w1 hx; rw [HT.out] at hx; obtain ⟨rfl, hk, hf⟩ := hx; have F := Aside0.mk hf; have HK := Aside0.mk hk; clear hf hk)
    go_ret
    show AfterI g w s (smallR s p) _ _
    rw [show smallR s p = some (bt b 0, q) by unfold smallR; rw [HT.out]; rfl]
    exact ⟨by show Ending.returned (.int .i64 (wrap64 ((b[0]'hb0).toNat : Int))) = _; rw [HBT.out], HK.out, F.out⟩
def nv (b : ByteArray) : Nat → Int
  | 0 => 0
  | k + 1 => nv b k * 256 + bt b k
theorem or_join (x y : Int) (h0 : 0 ≤ x) (h1 : x < 16777216) (h2 : 0 ≤ y) (h3 : y < 256) : bits .or .i64 (x * 256) y = x * 256 + y :=
  bits_join .i64 40 (by decide) (fun n a b => by rw [IntKind.wrap_i64]; omega) 8 (x * 256) y (by omega) (by omega) (by omega) h2 (by omega) (by omega)
theorem nv_range (b : ByteArray) (k : Nat) (h : k ≤ 3) : 0 ≤ nv b k ∧ nv b k ≤ 16777215 := by
  have h0 := bt_range b (0 : Nat); have h1 := bt_range b (1 : Nat); have h2 := bt_range b (2 : Nat)
  rcases (show k = 0 ∨ k = 1 ∨ k = 2 ∨ k = 3 by omega) with rfl | rfl | rfl | rfl <;> simp only [nv] <;> omega
theorem numr_calls (g : Nat) (s : ByteArray) (p : Nat) (w : World) (h : RD w g s p) (hp : p ≤ s.size) (hs : s.size ≤ 1000000000000) : Calls Try.prog 45 #[.pointer (some ⟨g, 0, none⟩)] w fun x w' => AfterI g w s (numR s p) x w' := by
  have H := Aside0.mk h; have HP := Aside0.mk hp; have HS := Aside0.mk hs
  clear h hp hs
  cases ht : takeR s p 4 with
  | none =>
    have HT := Aside0.mk ht; clear ht
    go_enter Try.func45, Try.ntmps45
    go_wp2_with (go_at_call 46; (with_reducible refine (take_lit g s p 4 4 rfl _ H.out HP.out HS.out (by omega)).mono ?_); rintro e w1 hx; rw [HT.out] at hx; obtain ⟨rfl, hf⟩ := hx; have F := Aside0.mk hf; clear hf)
    refine ⟨rfl, ?_⟩
    show AfterI g w s (numR s p) (gaveUp 3) _
    rw [show numR s p = none by unfold numR; rw [HT.out]; rfl]
    exact ⟨rfl, F.out⟩
  | some b =>
    obtain ⟨b, q⟩ := b
    have hb := take_size ht
    have hb0 : 3 < b.size := by omega
    have hsz : (b.size : Int) = 4 := by omega
    have HT := Aside0.mk ht; have HB := Aside0.mk hb; clear ht hb
    have HBT := Aside0.mk (show ∀ (i : Nat) (h : i < b.size), ((b[i]'h).toNat : Int) = bt b i from fun i h => by have := bt_at b (i : Int) (by simpa using h); simpa using this)
    go_enter Try.func45, Try.ntmps45
    go_wp2_with (first | (go_at_call 46; (with_reducible refine (take_lit g s p 4 4 rfl _ H.out HP.out HS.out (by omega)).mono ?_); rintro e w1 hx; rw [HT.out] at hx; obtain ⟨rfl, hk, hf⟩ := hx; have F := Aside0.mk hf; have HK := Aside0.mk hk; clear hf hk; obtain ⟨cc, w3, hrun, hcc, hh, hb3⟩ := Bof.made (P := Try.prog) w1 9 55 5 b rfl rfl rfl; have HH := Aside0.mk hh; have HK3 := Aside0.mk (HK.out.below hb3); have F3 := Aside0.mk (F.out.below hb3); clear hcc hh hb3))
    clear hrun
    go_loopw [2, 9, 4] (fun v i c wr => ∃ k : Nat, v = .int .i64 (nv b k) ∧ i = .int .i64 k ∧ Aside0 (k ≤ 4) ∧ Aside0 (∃ m, wr = w3.drewN m)) (fun _ i _ _ => 4 - (intOf i).toNat)
    case atStart => exact ⟨0, rfl, rfl, ⟨by omega⟩, ⟨0, rfl⟩⟩
    case round =>
      obtain ⟨k, rfl, rfl, K, HW⟩ := hrel
      by_cases hlt : k < 4
      · have h1 : (k : Int) < 4 := by omega
        have hkb : k < b.size := by omega
        have hc : wr.cell? ⟨w1.heap.size, k, none⟩ = some (.int .u8 ((b[k]'hkb).toNat : Int)) := by
          obtain ⟨m, rfl⟩ := HW.out
          exact HH.out.cell k hkb
        have hn := nv_range b k (by omega)
        have HLT := Aside0.mk hlt; clear hlt
        have HOR := Aside0.mk (show bits .or .i64 (nv b k * 256) (wrap64 ((b[k]'hkb).toNat : Int)) = nv b (k + 1) by
          have h2 := bt_range b (k : Int)
          rw [HBT.out k hkb, show wrap64 (bt b (k : Int)) = bt b (k : Int) by unfold wrap64; omega, or_join _ _ (by omega) (by omega) (by omega) (by omega)]
          rfl)
        go_wp2
        refine ⟨⟨k + 1, congrArg (Value.int .i64) HOR.out, rfl, ⟨HLT.out⟩, HW⟩, ?_⟩
        have := HLT.out
        show 4 - (intOf (.int .i64 ((k + 1 : Nat) : Int))).toNat < 4 - (intOf (.int .i64 (k : Int))).toNat
        simp only [intOf]; omega
      · obtain rfl : k = 4 := by have := K.out; omega
        obtain ⟨m, rfl⟩ := HW.out
        clear hlt HW
        go_wp2
        go_ret
        show AfterI g w s (numR s p) _ _
        rw [show numR s p = some (num4 b, q) by unfold numR; rw [HT.out]; rfl]
        refine ⟨?_, HK3.out.below (pw_below_drewN (Below.refl _ _) _), F3.out.below (pw_below_drewN (Below.refl _ _) _)⟩
        show Ending.returned (.int .i64 (nv b 4)) = _
        have e : nv b 4 = num4 b := by unfold num4; simp only [nv]; simp
        rw [e]
end Go.Proofs.Ytcfknakmamcinaa.Wr
