import Derived.Test.YtcelfhoomhmioaaPEZ0
import Derived.Test.YtcelfhoomhmioaaPEZ1
import Derived.Test.YtcelfhoomhmioaaPEZ2
import Derived.Test.YtcelfhoomhmioaaPEZ3
import Derived.Test.YtcelfhoomhmioaaPEZ6
set_option maxRecDepth 8192
namespace Go.Proofs.Ytcelfhoomhmioaa.Wr
open Go.Proofs.Ytcelfhoomhmioaa.Rgn
open Go.Proofs.Ytcelfhoomhmioaa.Rp Go.Proofs.Ytcelfhoomhmioaa.X4
open Go Go.RowKit Go.ChangeMaps Go.Proofs.Ytcelfhoomhmioaa.Arr Go.Proofs.Ytcelfhoomhmioaa.Ow Go.Proofs.YtcelfhoomhmioaaW.PrintWords Go.Proofs.YtcelfhoomhmioaaW.PrintLast Go.Proofs.YtcelfhoomhmioaaW.PrintMore
set_option linter.unusedVariables false
set_option linter.unusedSimpArgs false
section
variable {P : Program} {ops : Array Oper} {Q : Exit → Act → World → Prop}
/-- A call that may give up. -/
theorem goesP_ {oi : Oper} {N : Option Tmp} {a : Act} {w : World} {K : Act → World → Prop} {f : FuncId} {fn : Func} {os : Array Operand} {ts : Array TypeId} (hf : P.funcs[f]? = some fn) (hname : (fn.name == "runtime.NumGoroutine") = false) (hb : fn.body.isSome = true) (args : Array Value)
    (hw : Region.wanted oi (yielded ops a.tmps) = true) (hN : oi.dst = N) (hop : oi.op = .call { callee := .value (.func f), args := os, argTypes := ts }) (hargs : os.map a.eval = args)
    (h : Calls P f args w fun e w' => (∃ v, e = .returned v ∧ K (a.put N v) w') ∨ (∃ c, e = .panicked c ∧ Q (.panic c) a w')) : if Region.wanted oi (yielded ops a.tmps) = true then Oper.wp P oi a w K Q else K (a.put N undef) w := by
  have he := enters_ hf hname hb args w
  have hrun : (execOp a.eval oi).run P w = .ok (.enter f args) w := by
    unfold execOp
    simp [hop, resolve, Deferred.ofValue, invoke, Act.eval, hargs, he]
  rw [if_pos hw]
  subst hN
  unfold Oper.wp
  rw [hrun, Oper.upon_enter]
  refine h.mono fun e w'' hh => ?_
  rcases hh with ⟨v, rfl, hk⟩ | ⟨c, rfl, hq⟩
  · exact hk
  · exact hq
end
abbrev aggR (r : S39) (B9 : Option Addr) (d9 : Nat) (B10 : Option Addr) (d10 : Nat) : Value := .agg #[.int .i64 r.f0, .int .i64 r.f1, .int .i64 r.f2, .int .i64 r.f3, .int .i64 r.f4, .int .i64 r.f5, .int .i64 r.f6, .string r.f7, .string r.f8, .slice B9 r.f9.length d9, .slice B10 r.f10.length d10]
/-- What 'rec' does. -/
def AfterR (S : Nat → Prop) (g : Nat) (w : World) (l : List UInt8) (r : S39) (A9 : Option Addr) (c9 : Nat) (A10 : Option Addr) (c10 : Nat) (x : Ending) (w' : World) : Prop :=
  match recP r with
  | some bs => (∃ B9 d9 B10 d10, x = .returned (aggR (ownR r) B9 d9 B10 d10) ∧ ((r.f0 = 6 ∧ B9 = A9 ∧ d9 = c9 ∧ B10 = A10 ∧ d10 = c10) ∨ (r.f0 ≠ 6 ∧ B9 = none ∧ d9 = 0 ∧ B10 = none ∧ d10 = 0))) ∧ WK w' S g (l ++ bs) ∧ FS S w w'
  | none => x = gaveUp 1 ∧ FS S w w'
theorem FS.set1 {a b : World} {o : Nat} (h : FS (fun k => k = o) a b) (j : Nat) (v : Value) : FS (fun k => k = o) a (b.setCell ⟨o, j, none⟩ v) := h.setCell (p := ⟨o, j, none⟩) (.inl rfl) v
theorem FS.setS {S : Nat → Prop} {a b : World} {o : Nat} (h : FS S a b) (hs : S o) (j : Nat) (v : Value) : FS S a (b.setCell ⟨o, j, none⟩ v) := h.setCell (p := ⟨o, j, none⟩) (.inl hs) v
theorem RB.at {w : World} {b : Nat} {r : S39} {A9 : Option Addr} {c9 : Nat} {A10 : Option Addr} {c10 : Nat} (h : RB w b r A9 c9 A10 c10) : w.heap[b]? = some (.cells #[.int .i64 r.f0, .int .i64 r.f1, .int .i64 r.f2, .int .i64 r.f3, .int .i64 r.f4, .int .i64 r.f5, .int .i64 r.f6, .string r.f7, .string r.f8, .slice A9 r.f9.length c9, .slice A10 r.f10.length c10] 39 (0, 0)) := h
set_option maxHeartbeats 4000000 in
set_option maxRecDepth 100000 in
theorem rec_three (g : Nat) (l : List UInt8) (b : Nat) (r : S39) (A9 : Option Addr) (c9 : Nat) (A10 : Option Addr) (c10 : Nat) (S : Nat → Prop) (w : World) (hS : Top S w) (h : WK w S g l) (hb : RB w b r A9 c9 A10 c10) (hSb : ¬ S b) (hl : l.length ≤ 800000) (hz : r.f8.size ≤ 1000000) (hk : r.f0 = 3) : Calls Try.prog 52 #[.pointer (some ⟨g, 0, none⟩), .pointer (some ⟨b, 0, none⟩)] w fun x w' => AfterR S g w l r A9 c9 A10 c10 x w' := by
  have HS := Aside0.mk hS; have HW := Aside0.mk h; have HL := Aside0.mk hl; have HZ := Aside0.mk hz; have HB := Aside0.mk hb; have HSB := Aside0.mk hSb; have HK_ := Aside0.mk hk
  clear hS h hl hb hSb hz
  have HSM := Aside0.mk (show smallP r.f0 6 = some [b8 r.f0] by unfold smallP; rw [if_pos (by rw [hk]; omega)])
  have HS1 := Aside0.mk (top_less HS.out (.cells #[.int .i64 0, .int .i64 0, .int .i64 0, .int .i64 0, .int .i64 0, .int .i64 0, .int .i64 0, .string ⟨#[]⟩, .string ⟨#[]⟩, .slice none 0 0, .slice none 0 0] 39))
  have HW1 := Aside0.mk (wk_less HW.out (.cells #[.int .i64 0, .int .i64 0, .int .i64 0, .int .i64 0, .int .i64 0, .int .i64 0, .int .i64 0, .string ⟨#[]⟩, .string ⟨#[]⟩, .slice none 0 0, .slice none 0 0] 39))
  have F := Aside0.mk ((FS.refl S w).alloc (.cells #[.int .i64 0, .int .i64 0, .int .i64 0, .int .i64 0, .int .i64 0, .int .i64 0, .int .i64 0, .string ⟨#[]⟩, .string ⟨#[]⟩, .slice none 0 0, .slice none 0 0] 39))
  have B4 := Aside0.mk (heap_alloc_new w (.cells #[.int .i64 0, .int .i64 0, .int .i64 0, .int .i64 0, .int .i64 0, .int .i64 0, .int .i64 0, .string ⟨#[]⟩, .string ⟨#[]⟩, .slice none 0 0, .slice none 0 0] 39))
  have R1 := Aside0.mk (show RB (w.alloc (.cells #[.int .i64 0, .int .i64 0, .int .i64 0, .int .i64 0, .int .i64 0, .int .i64 0, .int .i64 0, .string ⟨#[]⟩, .string ⟨#[]⟩, .slice none 0 0, .slice none 0 0] 39)) b r A9 c9 A10 c10 from F.out.old HB.out HSB.out)
  have q0 : (w.alloc (.cells #[.int .i64 0, .int .i64 0, .int .i64 0, .int .i64 0, .int .i64 0, .int .i64 0, .int .i64 0, .string ⟨#[]⟩, .string ⟨#[]⟩, .slice none 0 0, .slice none 0 0] 39)).cell? ⟨b, 0, none⟩ = some (.int .i64 3) := (blk_cell R1.out 0).trans (by rw [← hk]; rfl)
  go_enter Try.func52, Try.ntmps52
  go_upto_region 1 with (fail)
  generalize w.alloc (.cells #[.int .i64 0, .int .i64 0, .int .i64 0, .int .i64 0, .int .i64 0, .int .i64 0, .int .i64 0, .string ⟨#[]⟩, .string ⟨#[]⟩, .slice none 0 0, .slice none 0 0] 39) = W1 at *
  have F1 := Aside0.mk (FS.refl (Less S w.heap.size) W1)
  clear hk
  go_upto_region 2 with (go_at_call 67; refine (small_calls g l 3 6 (Less S w.heap.size) _ HS1.out HW1.out (by have := HL.out; omega)).mono ?_; rintro e w1 hx; rw [show smallP 3 6 = some [b8 3] from rfl] at hx; obtain ⟨rfl, hk1, hf1⟩ := hx; have HW1_n := Aside0.mk hk1; have F1_n := Aside0.mk (F1.out.trans hf1); clear HW1 F1 hk1 hf1 HW; have HW1 := HW1_n; have F1 := F1_n; clear HW1_n F1_n)
  have R2 := Aside0.mk (show RB w1 b r A9 c9 A10 c10 from F1.out.old R1.out (fun e => HSB.out e.1))
  have B4b := Aside0.mk (F1.out.old B4.out (not_less _ _))
  clear q0 R1 B4
  have q0 : w1.cell? ⟨b, 0, none⟩ = some (.int .i64 3) := (blk_cell R2.out 0).trans (by rw [← HK_.out]; rfl)
  have HS2 := Aside0.mk (top_less (HS1.out.next F1.out.size) (.cells #[.int .i64 3, .int .i64 0, .int .i64 0, .int .i64 0, .int .i64 0, .int .i64 0, .int .i64 0, .string ⟨#[]⟩, .string ⟨#[]⟩, .slice none 0 0, .slice none 0 0] 39))
  have HW2 := Aside0.mk (wk_less HW1.out (.cells #[.int .i64 3, .int .i64 0, .int .i64 0, .int .i64 0, .int .i64 0, .int .i64 0, .int .i64 0, .string ⟨#[]⟩, .string ⟨#[]⟩, .slice none 0 0, .slice none 0 0] 39))
  have B5 := Aside0.mk (heap_alloc_new w1 (.cells #[.int .i64 3, .int .i64 0, .int .i64 0, .int .i64 0, .int .i64 0, .int .i64 0, .int .i64 0, .string ⟨#[]⟩, .string ⟨#[]⟩, .slice none 0 0, .slice none 0 0] 39))
  have F2_n := Aside0.mk ((FS.refl (Less S w.heap.size) w1).alloc (.cells #[.int .i64 3, .int .i64 0, .int .i64 0, .int .i64 0, .int .i64 0, .int .i64 0, .int .i64 0, .string ⟨#[]⟩, .string ⟨#[]⟩, .slice none 0 0, .slice none 0 0] 39))
  have F_n := Aside0.mk (F.out.trans (FS.more (F1.out.trans F2_n.out)))
  have R3 := Aside0.mk (show RB _ b r A9 c9 A10 c10 from F2_n.out.old R2.out (fun e => HSB.out e.1))
  have B4c := Aside0.mk (F2_n.out.old B4b.out (not_less _ _))
  have HN1 := Aside0.mk (Nat.ne_of_lt (blk_lt B4b.out)); have HSZ := Aside0.mk (show w.heap.size ≤ w1.heap.size from Nat.le_of_lt (blk_lt B4b.out))
  clear F F1 F2_n R2 B4b HS1 HW1
  go_upto_region 3 with (fail)
  generalize w1.alloc (.cells #[.int .i64 3, .int .i64 0, .int .i64 0, .int .i64 0, .int .i64 0, .int .i64 0, .int .i64 0, .string ⟨#[]⟩, .string ⟨#[]⟩, .slice none 0 0, .slice none 0 0] 39) = W2 at *
  clear q0
  have q0 : W2.cell? ⟨b, 0, none⟩ = some (.int .i64 3) := (blk_cell R3.out 0).trans (by rw [← HK_.out]; rfl)
  have FW := Aside0.mk (FS.refl (Less (Less S w.heap.size) w1.heap.size) W2)
  have HW := HW2; clear HW2
  have HE := Aside0.mk (show recP r = cat (some [b8 r.f0]) (cat (txnP r.f1) (numP [r.f4])) by unfold recP bodyP; rw [HSM.out, if_neg (by have := HK_.out; omega), if_neg (by have := HK_.out; omega), if_pos (by have := HK_.out; omega)])
  have HO := Aside0.mk (show ownR r = (⟨3, r.f1, 0, 0, r.f4, 0, 0, ⟨#[]⟩, ⟨#[]⟩, [], []⟩ : S39) by unfold ownR; rw [if_neg (by have := HK_.out; omega), if_neg (by have := HK_.out; omega), if_pos (by have := HK_.out; omega)]; rw [HK_.out])
  have HS5 := Aside0.mk (show S w1.heap.size from HS.out _ HSZ.out)
  have HSB5 := Aside0.mk (show b ≠ w1.heap.size from fun e => HSB.out (by rw [e]; exact HS5.out))
  go_upto_region 20 with (fail)
  have q1 : W2.cell? ⟨b, 1, none⟩ = some (.int .i64 r.f1) := blk_cell R3.out.at 1
  cases hp1 : txnP r.f1 with
  | none =>
    have HP1 := Aside0.mk hp1; clear hp1
    go_wp2_with (go_at_call 68; refine (txn_calls g (l ++ [b8 3]) r.f1 (Less (Less S w.heap.size) w1.heap.size) _ (HS2.out.next FW.out.size) HW.out (by simp only [List.length_append, List.length_cons, List.length_nil]; have := HL.out;  omega)).mono ?_; rintro e w9 hx; rw [HP1.out] at hx; obtain ⟨rfl, hf⟩ := hx; have FW_n := Aside0.mk (FW.out.trans hf); clear FW; have FW := FW_n; clear FW_n; clear hf)
    refine ⟨rfl, ?_⟩
    show AfterR S g w l r A9 c9 A10 c10 (gaveUp 1) _
    unfold AfterR
    rw [show recP r = none by rw [HE.out, HP1.out]; rfl]
    exact ⟨rfl, F_n.out.trans (FS.more (FS.more FW.out))⟩
  | some t1 =>
  have HP1 := Aside0.mk hp1; have HT1 := Aside0.mk (txn_len hp1); clear hp1
  go_upto_region 21 with (go_at_call 68; refine (txn_calls g (l ++ [b8 3]) r.f1 (Less (Less S w.heap.size) w1.heap.size) _ (HS2.out.next FW.out.size) HW.out (by simp only [List.length_append, List.length_cons, List.length_nil]; have := HL.out;  omega)).mono ?_; rintro e w3 hx; rw [HP1.out] at hx; obtain ⟨rfl, hk, hf⟩ := hx; have HW_n := Aside0.mk (hk); have FW_n := Aside0.mk (FW.out.trans hf); clear HW FW; have HW := HW_n; have FW := FW_n; clear HW_n FW_n; clear hk hf)
  have q4 : w3.cell? ⟨b, 4, none⟩ = some (.int .i64 r.f4) := blk_cell (FW.out.old R3.out (fun e => HSB.out e.1.1)) 4
  cases hp2 : numP [r.f4] with
  | none =>
    have HP2 := Aside0.mk hp2; clear hp2
    go_wp2_with (go_at_call 69; refine (num_fresh1 g (l ++ [b8 3] ++ t1) r.f4 (Less (Less S w.heap.size) w1.heap.size) _ (HS2.out.next FW.out.size) HW.out (by simp only [List.length_append, HT1.out, List.length_cons, List.length_nil]; have := HL.out;  omega)).mono ?_; rintro e w9 hx; rw [HP2.out] at hx; obtain ⟨rfl, hf⟩ := hx; have FW_n := Aside0.mk (FW.out.trans hf); clear FW; have FW := FW_n; clear FW_n; clear hf)
    refine ⟨rfl, ?_⟩
    show AfterR S g w l r A9 c9 A10 c10 (gaveUp 1) _
    unfold AfterR
    rw [show recP r = none by rw [HE.out, HP1.out, HP2.out]; rfl]
    exact ⟨rfl, F_n.out.trans (FS.more (FS.more FW.out))⟩
  | some t2 =>
  have HP2 := Aside0.mk hp2; have HT2 := Aside0.mk (num_len hp2); clear hp2
  go_upto_region 22 with (go_at_call 69; refine (num_fresh1 g (l ++ [b8 3] ++ t1) r.f4 (Less (Less S w.heap.size) w1.heap.size) _ (HS2.out.next FW.out.size) HW.out (by simp only [List.length_append, HT1.out, List.length_cons, List.length_nil]; have := HL.out;  omega)).mono ?_; rintro e w4 hx; rw [HP2.out] at hx; obtain ⟨rfl, hk, hf⟩ := hx; have HW_n := Aside0.mk (hk); have FW_n := Aside0.mk (FW.out.trans hf); clear HW FW; have HW := HW_n; have FW := FW_n; clear HW_n FW_n; clear hk hf)
  clear q4
  have RX := Aside0.mk (show RB w4.drew b r A9 c9 A10 c10 from FW.out.old R3.out (fun e => HSB.out e.1.1))
  have BO := Aside0.mk (show w4.drew.heap[w1.heap.size]? = some (.cells #[.int .i64 3, .int .i64 0, .int .i64 0, .int .i64 0, .int .i64 0, .int .i64 0, .int .i64 0, .string ⟨#[]⟩, .string ⟨#[]⟩, .slice none 0 0, .slice none 0 0] 39 (0, 0)) from FW.out.old B5.out (not_less _ _))
  have B4d := Aside0.mk (show w4.drew.heap[w.heap.size]? = some (.cells #[.int .i64 0, .int .i64 0, .int .i64 0, .int .i64 0, .int .i64 0, .int .i64 0, .int .i64 0, .string ⟨#[]⟩, .string ⟨#[]⟩, .slice none 0 0, .slice none 0 0] 39 (0, 0)) from FW.out.old B4c.out (fun e => e.1.2 rfl))
  have FA := Aside0.mk (F_n.out.trans (FS.more (FS.more FW.out))).drew
  have HWA := Aside0.mk HW.out.drew
  have FO := Aside0.mk (FS.refl (fun k => k = w1.heap.size) w4.drew)
  clear HW FW
  have z1 : w4.drew.cell? ⟨b, 1, none⟩ = some (.int .i64 r.f1) := blk_cell (w := w4.drew) RX.out.at 1
  have z4 : w4.drew.cell? ⟨b, 4, none⟩ = some (.int .i64 r.f4) := blk_cell (w := w4.drew) RX.out.at 4
  refine start_ (n := 12) (S := fun w' => w'.cell? ⟨b, 1, none⟩ = some (.int .i64 r.f1) ∧ w'.cell? ⟨b, 4, none⟩ = some (.int .i64 r.f4)) (ds := []) #[false, false, false, false, false, false, false, false, false, false, false, false] (by kernel_rfl) rfl rfl ⟨z1, z4⟩ (fun hHeld => ?_)
  refine rgp 0 171 ?_
  refine rgp 1 172 ?_
  refine rgp 2 173 ?_
  refine rgp 4 175 ?_
  refine rgp 5 176 ?_
  refine rgp 6 177 ?_
  refine rgt 3 174 hHeld ?_
  refine rgp 8 179 ?_
  refine rgt 7 178 hHeld ?_
  refine one_ (i := 9) (N := none) #[true, true, true, true, true, true, true, true, true, true, false, false] rfl rfl (by kernel_rfl) (by decide) (fun K hK => ?_)
  generalize w4.drew = X0_ at *
  have cz : X0_.cell? ⟨w1.heap.size, 1, none⟩ = some _ := blk_cell BO.out 1
  have fz : X0_.frozen? ⟨w1.heap.size, 1, none⟩ = false := blk_frozen BO.out 1
  refine skip_ (w1 := ?_) (by kernel_rfl) rfl ?_ ?_
  rotate_left
  · go_simp
    rfl
  have BO_n := Aside0.mk (show (X0_.setCell ⟨w1.heap.size, 1, none⟩ (.int .i64 r.f1)).heap[w1.heap.size]? = some (.cells #[.int .i64 3, .int .i64 r.f1, .int .i64 0, .int .i64 0, .int .i64 0, .int .i64 0, .int .i64 0, .string ⟨#[]⟩, .string ⟨#[]⟩, .slice none 0 0, .slice none 0 0] 39 (0, 0)) from set_blk BO.out 1 (.int .i64 r.f1))
  have FO_n := Aside0.mk (FO.out.setCell (p := ⟨w1.heap.size, 1, none⟩) (.inl rfl) (.int .i64 r.f1))
  clear BO FO cz fz
  generalize X0_.setCell ⟨w1.heap.size, 1, none⟩ (.int .i64 r.f1) = v1_ at *
  have BO := BO_n; have FO := FO_n; clear BO_n FO_n
  have RV := FO.out.old RX.out (fun e => HSB5.out (e : b = w1.heap.size))
  refine hK _ _ ⟨blk_cell (w := v1_) RV 1, blk_cell (w := v1_) RV 4⟩ (fun hHeld => ?_)
  clear hK K RV
  refine rgp 10 180 ?_
  refine one_ (i := 11) (N := none) #[true, true, true, true, true, true, true, true, true, true, true, true] rfl rfl (by kernel_rfl) (by decide) (fun K hK => ?_)
  have cz : v1_.cell? ⟨w1.heap.size, 4, none⟩ = some _ := blk_cell BO.out 4
  have fz : v1_.frozen? ⟨w1.heap.size, 4, none⟩ = false := blk_frozen BO.out 4
  refine skip_ (w1 := ?_) (by kernel_rfl) rfl ?_ ?_
  rotate_left
  · go_simp
    rfl
  have BO_n := Aside0.mk (show (v1_.setCell ⟨w1.heap.size, 4, none⟩ (.int .i64 r.f4)).heap[w1.heap.size]? = some (.cells #[.int .i64 3, .int .i64 r.f1, .int .i64 0, .int .i64 0, .int .i64 r.f4, .int .i64 0, .int .i64 0, .string ⟨#[]⟩, .string ⟨#[]⟩, .slice none 0 0, .slice none 0 0] 39 (0, 0)) from set_blk BO.out 4 (.int .i64 r.f4))
  have FO_n := Aside0.mk (FO.out.setCell (p := ⟨w1.heap.size, 4, none⟩) (.inl rfl) (.int .i64 r.f4))
  clear BO FO cz fz
  generalize v1_.setCell ⟨w1.heap.size, 4, none⟩ (.int .i64 r.f4) = v2_ at *
  have BO := BO_n; have FO := FO_n; clear BO_n FO_n
  have RV := FO.out.old RX.out (fun e => HSB5.out (e : b = w1.heap.size))
  refine hK _ _ ⟨blk_cell (w := v2_) RV 1, blk_cell (w := v2_) RV 4⟩ (fun hHeld => ?_)
  clear hK K RV
  refine done_ (by kernel_rfl) ?_
  have HWV := Aside0.mk (HWA.out.kept FO.out (fun k hk e => hk.2 e))
  have FV := Aside0.mk (FA.out.trans (FO.out.mono (S2 := S) (fun k _ e => by rw [e]; exact HS5.out)))
  have B4 := Aside0.mk (FO.out.old B4d.out (fun e => HN1.out (e : w.heap.size = w1.heap.size)))
  have y0 := blk_cell (w := v2_) B4.out 0; have x0 := blk_cell (w := v2_) BO.out 0; have f0 := blk_frozen (w := v2_) B4.out 0
  have y1 := blk_cell (w := v2_) B4.out 1; have x1 := blk_cell (w := v2_) BO.out 1; have f1 := blk_frozen (w := v2_) B4.out 1
  have y2 := blk_cell (w := v2_) B4.out 2; have x2 := blk_cell (w := v2_) BO.out 2; have f2 := blk_frozen (w := v2_) B4.out 2
  have y3 := blk_cell (w := v2_) B4.out 3; have x3 := blk_cell (w := v2_) BO.out 3; have f3 := blk_frozen (w := v2_) B4.out 3
  have y4 := blk_cell (w := v2_) B4.out 4; have x4 := blk_cell (w := v2_) BO.out 4; have f4 := blk_frozen (w := v2_) B4.out 4
  have y5 := blk_cell (w := v2_) B4.out 5; have x5 := blk_cell (w := v2_) BO.out 5; have f5 := blk_frozen (w := v2_) B4.out 5
  have y6 := blk_cell (w := v2_) B4.out 6; have x6 := blk_cell (w := v2_) BO.out 6; have f6 := blk_frozen (w := v2_) B4.out 6
  have y7 := blk_cell (w := v2_) B4.out 7; have x7 := blk_cell (w := v2_) BO.out 7; have f7 := blk_frozen (w := v2_) B4.out 7
  have y8 := blk_cell (w := v2_) B4.out 8; have x8 := blk_cell (w := v2_) BO.out 8; have f8 := blk_frozen (w := v2_) B4.out 8
  have y9 := blk_cell (w := v2_) B4.out 9; have x9 := blk_cell (w := v2_) BO.out 9; have f9 := blk_frozen (w := v2_) B4.out 9
  have y10 := blk_cell (w := v2_) B4.out 10; have x10 := blk_cell (w := v2_) BO.out 10; have f10 := blk_frozen (w := v2_) B4.out 10
  clear FA HWA FO B4d BO B4
  simp only [Exit.inBlock, Exit.then]
  go_wp2
  have HS4 := Aside0.mk (show S w.heap.size from HS.out _ (Nat.le_refl _))
  refine bodyPost_ret (v := .agg #[.int .i64 3, .int .i64 r.f1, .int .i64 0, .int .i64 0, .int .i64 r.f4, .int .i64 0, .int .i64 0, .string ⟨#[]⟩, .string ⟨#[]⟩, .slice none 0 0, .slice none 0 0]) (by simp [results, Try.results52, go_sem, y0, y1, y2, y3, y4, y5, y6, y7, y8, y9, y10]) rfl ?_
  show AfterR S g w l r A9 c9 A10 c10 _ _
  unfold AfterR
  rw [show recP r = some ([b8 r.f0] ++ (t1 ++ t2)) by rw [HE.out, HP1.out, HP2.out]; rfl, HO.out, HK_.out]
  refine ⟨⟨none, 0, none, 0, rfl, .inr ⟨by decide, rfl, rfl, rfl, rfl⟩⟩, ?_, ?_⟩
  · rw [show l ++ ([b8 3] ++ (t1 ++ t2)) = l ++ [b8 3] ++ t1 ++ t2 by simp only [List.append_assoc, List.append_nil]]
    refine WK.more (b := w.heap.size) (WK.more (b := w1.heap.size) (HWV.out.kept (S2 := fun k => k = w.heap.size) ?_ (fun k hk e => hk.1.2 e)))
    repeat (first | (with_reducible refine FS.set1 ?_ _ _) | (with_reducible exact FS.refl _ _))
  · repeat (first | (with_reducible refine FS.setS ?_ HS4.out _ _) | (with_reducible exact FV.out))
set_option maxHeartbeats 4000000 in
set_option maxRecDepth 100000 in
theorem rec_four (g : Nat) (l : List UInt8) (b : Nat) (r : S39) (A9 : Option Addr) (c9 : Nat) (A10 : Option Addr) (c10 : Nat) (S : Nat → Prop) (w : World) (hS : Top S w) (h : WK w S g l) (hb : RB w b r A9 c9 A10 c10) (hSb : ¬ S b) (hl : l.length ≤ 800000) (hz : r.f8.size ≤ 1000000) (hk : r.f0 = 4) : Calls Try.prog 52 #[.pointer (some ⟨g, 0, none⟩), .pointer (some ⟨b, 0, none⟩)] w fun x w' => AfterR S g w l r A9 c9 A10 c10 x w' := by
  have HS := Aside0.mk hS; have HW := Aside0.mk h; have HL := Aside0.mk hl; have HZ := Aside0.mk hz; have HB := Aside0.mk hb; have HSB := Aside0.mk hSb; have HK_ := Aside0.mk hk
  clear hS h hl hb hSb hz
  have HSM := Aside0.mk (show smallP r.f0 6 = some [b8 r.f0] by unfold smallP; rw [if_pos (by rw [hk]; omega)])
  have HS1 := Aside0.mk (top_less HS.out (.cells #[.int .i64 0, .int .i64 0, .int .i64 0, .int .i64 0, .int .i64 0, .int .i64 0, .int .i64 0, .string ⟨#[]⟩, .string ⟨#[]⟩, .slice none 0 0, .slice none 0 0] 39))
  have HW1 := Aside0.mk (wk_less HW.out (.cells #[.int .i64 0, .int .i64 0, .int .i64 0, .int .i64 0, .int .i64 0, .int .i64 0, .int .i64 0, .string ⟨#[]⟩, .string ⟨#[]⟩, .slice none 0 0, .slice none 0 0] 39))
  have F := Aside0.mk ((FS.refl S w).alloc (.cells #[.int .i64 0, .int .i64 0, .int .i64 0, .int .i64 0, .int .i64 0, .int .i64 0, .int .i64 0, .string ⟨#[]⟩, .string ⟨#[]⟩, .slice none 0 0, .slice none 0 0] 39))
  have B4 := Aside0.mk (heap_alloc_new w (.cells #[.int .i64 0, .int .i64 0, .int .i64 0, .int .i64 0, .int .i64 0, .int .i64 0, .int .i64 0, .string ⟨#[]⟩, .string ⟨#[]⟩, .slice none 0 0, .slice none 0 0] 39))
  have R1 := Aside0.mk (show RB (w.alloc (.cells #[.int .i64 0, .int .i64 0, .int .i64 0, .int .i64 0, .int .i64 0, .int .i64 0, .int .i64 0, .string ⟨#[]⟩, .string ⟨#[]⟩, .slice none 0 0, .slice none 0 0] 39)) b r A9 c9 A10 c10 from F.out.old HB.out HSB.out)
  have q0 : (w.alloc (.cells #[.int .i64 0, .int .i64 0, .int .i64 0, .int .i64 0, .int .i64 0, .int .i64 0, .int .i64 0, .string ⟨#[]⟩, .string ⟨#[]⟩, .slice none 0 0, .slice none 0 0] 39)).cell? ⟨b, 0, none⟩ = some (.int .i64 4) := (blk_cell R1.out 0).trans (by rw [← hk]; rfl)
  go_enter Try.func52, Try.ntmps52
  go_upto_region 1 with (fail)
  generalize w.alloc (.cells #[.int .i64 0, .int .i64 0, .int .i64 0, .int .i64 0, .int .i64 0, .int .i64 0, .int .i64 0, .string ⟨#[]⟩, .string ⟨#[]⟩, .slice none 0 0, .slice none 0 0] 39) = W1 at *
  have F1 := Aside0.mk (FS.refl (Less S w.heap.size) W1)
  clear hk
  go_upto_region 2 with (go_at_call 67; refine (small_calls g l 4 6 (Less S w.heap.size) _ HS1.out HW1.out (by have := HL.out; omega)).mono ?_; rintro e w1 hx; rw [show smallP 4 6 = some [b8 4] from rfl] at hx; obtain ⟨rfl, hk1, hf1⟩ := hx; have HW1_n := Aside0.mk hk1; have F1_n := Aside0.mk (F1.out.trans hf1); clear HW1 F1 hk1 hf1 HW; have HW1 := HW1_n; have F1 := F1_n; clear HW1_n F1_n)
  have R2 := Aside0.mk (show RB w1 b r A9 c9 A10 c10 from F1.out.old R1.out (fun e => HSB.out e.1))
  have B4b := Aside0.mk (F1.out.old B4.out (not_less _ _))
  clear q0 R1 B4
  have q0 : w1.cell? ⟨b, 0, none⟩ = some (.int .i64 4) := (blk_cell R2.out 0).trans (by rw [← HK_.out]; rfl)
  have HS2 := Aside0.mk (top_less (HS1.out.next F1.out.size) (.cells #[.int .i64 4, .int .i64 0, .int .i64 0, .int .i64 0, .int .i64 0, .int .i64 0, .int .i64 0, .string ⟨#[]⟩, .string ⟨#[]⟩, .slice none 0 0, .slice none 0 0] 39))
  have HW2 := Aside0.mk (wk_less HW1.out (.cells #[.int .i64 4, .int .i64 0, .int .i64 0, .int .i64 0, .int .i64 0, .int .i64 0, .int .i64 0, .string ⟨#[]⟩, .string ⟨#[]⟩, .slice none 0 0, .slice none 0 0] 39))
  have B5 := Aside0.mk (heap_alloc_new w1 (.cells #[.int .i64 4, .int .i64 0, .int .i64 0, .int .i64 0, .int .i64 0, .int .i64 0, .int .i64 0, .string ⟨#[]⟩, .string ⟨#[]⟩, .slice none 0 0, .slice none 0 0] 39))
  have F2_n := Aside0.mk ((FS.refl (Less S w.heap.size) w1).alloc (.cells #[.int .i64 4, .int .i64 0, .int .i64 0, .int .i64 0, .int .i64 0, .int .i64 0, .int .i64 0, .string ⟨#[]⟩, .string ⟨#[]⟩, .slice none 0 0, .slice none 0 0] 39))
  have F_n := Aside0.mk (F.out.trans (FS.more (F1.out.trans F2_n.out)))
  have R3 := Aside0.mk (show RB _ b r A9 c9 A10 c10 from F2_n.out.old R2.out (fun e => HSB.out e.1))
  have B4c := Aside0.mk (F2_n.out.old B4b.out (not_less _ _))
  have HN1 := Aside0.mk (Nat.ne_of_lt (blk_lt B4b.out)); have HSZ := Aside0.mk (show w.heap.size ≤ w1.heap.size from Nat.le_of_lt (blk_lt B4b.out))
  clear F F1 F2_n R2 B4b HS1 HW1
  go_upto_region 3 with (fail)
  generalize w1.alloc (.cells #[.int .i64 4, .int .i64 0, .int .i64 0, .int .i64 0, .int .i64 0, .int .i64 0, .int .i64 0, .string ⟨#[]⟩, .string ⟨#[]⟩, .slice none 0 0, .slice none 0 0] 39) = W2 at *
  clear q0
  have q0 : W2.cell? ⟨b, 0, none⟩ = some (.int .i64 4) := (blk_cell R3.out 0).trans (by rw [← HK_.out]; rfl)
  have FW := Aside0.mk (FS.refl (Less (Less S w.heap.size) w1.heap.size) W2)
  have HW := HW2; clear HW2
  have HE := Aside0.mk (show recP r = cat (some [b8 r.f0]) (cat (txnP r.f1) (numP [r.f4])) by unfold recP bodyP; rw [HSM.out, if_neg (by have := HK_.out; omega), if_neg (by have := HK_.out; omega), if_pos (by have := HK_.out; omega)])
  have HO := Aside0.mk (show ownR r = (⟨4, r.f1, 0, 0, r.f4, 0, 0, ⟨#[]⟩, ⟨#[]⟩, [], []⟩ : S39) by unfold ownR; rw [if_neg (by have := HK_.out; omega), if_neg (by have := HK_.out; omega), if_pos (by have := HK_.out; omega)]; rw [HK_.out])
  have HS5 := Aside0.mk (show S w1.heap.size from HS.out _ HSZ.out)
  have HSB5 := Aside0.mk (show b ≠ w1.heap.size from fun e => HSB.out (by rw [e]; exact HS5.out))
  go_upto_region 20 with (fail)
  have q1 : W2.cell? ⟨b, 1, none⟩ = some (.int .i64 r.f1) := blk_cell R3.out.at 1
  cases hp1 : txnP r.f1 with
  | none =>
    have HP1 := Aside0.mk hp1; clear hp1
    go_wp2_with (go_at_call 68; refine (txn_calls g (l ++ [b8 4]) r.f1 (Less (Less S w.heap.size) w1.heap.size) _ (HS2.out.next FW.out.size) HW.out (by simp only [List.length_append, List.length_cons, List.length_nil]; have := HL.out;  omega)).mono ?_; rintro e w9 hx; rw [HP1.out] at hx; obtain ⟨rfl, hf⟩ := hx; have FW_n := Aside0.mk (FW.out.trans hf); clear FW; have FW := FW_n; clear FW_n; clear hf)
    refine ⟨rfl, ?_⟩
    show AfterR S g w l r A9 c9 A10 c10 (gaveUp 1) _
    unfold AfterR
    rw [show recP r = none by rw [HE.out, HP1.out]; rfl]
    exact ⟨rfl, F_n.out.trans (FS.more (FS.more FW.out))⟩
  | some t1 =>
  have HP1 := Aside0.mk hp1; have HT1 := Aside0.mk (txn_len hp1); clear hp1
  go_upto_region 21 with (go_at_call 68; refine (txn_calls g (l ++ [b8 4]) r.f1 (Less (Less S w.heap.size) w1.heap.size) _ (HS2.out.next FW.out.size) HW.out (by simp only [List.length_append, List.length_cons, List.length_nil]; have := HL.out;  omega)).mono ?_; rintro e w3 hx; rw [HP1.out] at hx; obtain ⟨rfl, hk, hf⟩ := hx; have HW_n := Aside0.mk (hk); have FW_n := Aside0.mk (FW.out.trans hf); clear HW FW; have HW := HW_n; have FW := FW_n; clear HW_n FW_n; clear hk hf)
  have q4 : w3.cell? ⟨b, 4, none⟩ = some (.int .i64 r.f4) := blk_cell (FW.out.old R3.out (fun e => HSB.out e.1.1)) 4
  cases hp2 : numP [r.f4] with
  | none =>
    have HP2 := Aside0.mk hp2; clear hp2
    go_wp2_with (go_at_call 69; refine (num_fresh1 g (l ++ [b8 4] ++ t1) r.f4 (Less (Less S w.heap.size) w1.heap.size) _ (HS2.out.next FW.out.size) HW.out (by simp only [List.length_append, HT1.out, List.length_cons, List.length_nil]; have := HL.out;  omega)).mono ?_; rintro e w9 hx; rw [HP2.out] at hx; obtain ⟨rfl, hf⟩ := hx; have FW_n := Aside0.mk (FW.out.trans hf); clear FW; have FW := FW_n; clear FW_n; clear hf)
    refine ⟨rfl, ?_⟩
    show AfterR S g w l r A9 c9 A10 c10 (gaveUp 1) _
    unfold AfterR
    rw [show recP r = none by rw [HE.out, HP1.out, HP2.out]; rfl]
    exact ⟨rfl, F_n.out.trans (FS.more (FS.more FW.out))⟩
  | some t2 =>
  have HP2 := Aside0.mk hp2; have HT2 := Aside0.mk (num_len hp2); clear hp2
  go_upto_region 22 with (go_at_call 69; refine (num_fresh1 g (l ++ [b8 4] ++ t1) r.f4 (Less (Less S w.heap.size) w1.heap.size) _ (HS2.out.next FW.out.size) HW.out (by simp only [List.length_append, HT1.out, List.length_cons, List.length_nil]; have := HL.out;  omega)).mono ?_; rintro e w4 hx; rw [HP2.out] at hx; obtain ⟨rfl, hk, hf⟩ := hx; have HW_n := Aside0.mk (hk); have FW_n := Aside0.mk (FW.out.trans hf); clear HW FW; have HW := HW_n; have FW := FW_n; clear HW_n FW_n; clear hk hf)
  clear q4
  have RX := Aside0.mk (show RB w4.drew b r A9 c9 A10 c10 from FW.out.old R3.out (fun e => HSB.out e.1.1))
  have BO := Aside0.mk (show w4.drew.heap[w1.heap.size]? = some (.cells #[.int .i64 4, .int .i64 0, .int .i64 0, .int .i64 0, .int .i64 0, .int .i64 0, .int .i64 0, .string ⟨#[]⟩, .string ⟨#[]⟩, .slice none 0 0, .slice none 0 0] 39 (0, 0)) from FW.out.old B5.out (not_less _ _))
  have B4d := Aside0.mk (show w4.drew.heap[w.heap.size]? = some (.cells #[.int .i64 0, .int .i64 0, .int .i64 0, .int .i64 0, .int .i64 0, .int .i64 0, .int .i64 0, .string ⟨#[]⟩, .string ⟨#[]⟩, .slice none 0 0, .slice none 0 0] 39 (0, 0)) from FW.out.old B4c.out (fun e => e.1.2 rfl))
  have FA := Aside0.mk (F_n.out.trans (FS.more (FS.more FW.out))).drew
  have HWA := Aside0.mk HW.out.drew
  have FO := Aside0.mk (FS.refl (fun k => k = w1.heap.size) w4.drew)
  clear HW FW
  have z1 : w4.drew.cell? ⟨b, 1, none⟩ = some (.int .i64 r.f1) := blk_cell (w := w4.drew) RX.out.at 1
  have z4 : w4.drew.cell? ⟨b, 4, none⟩ = some (.int .i64 r.f4) := blk_cell (w := w4.drew) RX.out.at 4
  refine start_ (n := 12) (S := fun w' => w'.cell? ⟨b, 1, none⟩ = some (.int .i64 r.f1) ∧ w'.cell? ⟨b, 4, none⟩ = some (.int .i64 r.f4)) (ds := []) #[false, false, false, false, false, false, false, false, false, false, false, false] (by kernel_rfl) rfl rfl ⟨z1, z4⟩ (fun hHeld => ?_)
  refine rgp 0 171 ?_
  refine rgp 1 172 ?_
  refine rgp 2 173 ?_
  refine rgp 4 175 ?_
  refine rgp 5 176 ?_
  refine rgp 6 177 ?_
  refine rgt 3 174 hHeld ?_
  refine rgp 8 179 ?_
  refine rgt 7 178 hHeld ?_
  refine one_ (i := 9) (N := none) #[true, true, true, true, true, true, true, true, true, true, false, false] rfl rfl (by kernel_rfl) (by decide) (fun K hK => ?_)
  generalize w4.drew = X0_ at *
  have cz : X0_.cell? ⟨w1.heap.size, 1, none⟩ = some _ := blk_cell BO.out 1
  have fz : X0_.frozen? ⟨w1.heap.size, 1, none⟩ = false := blk_frozen BO.out 1
  refine skip_ (w1 := ?_) (by kernel_rfl) rfl ?_ ?_
  rotate_left
  · go_simp
    rfl
  have BO_n := Aside0.mk (show (X0_.setCell ⟨w1.heap.size, 1, none⟩ (.int .i64 r.f1)).heap[w1.heap.size]? = some (.cells #[.int .i64 4, .int .i64 r.f1, .int .i64 0, .int .i64 0, .int .i64 0, .int .i64 0, .int .i64 0, .string ⟨#[]⟩, .string ⟨#[]⟩, .slice none 0 0, .slice none 0 0] 39 (0, 0)) from set_blk BO.out 1 (.int .i64 r.f1))
  have FO_n := Aside0.mk (FO.out.setCell (p := ⟨w1.heap.size, 1, none⟩) (.inl rfl) (.int .i64 r.f1))
  clear BO FO cz fz
  generalize X0_.setCell ⟨w1.heap.size, 1, none⟩ (.int .i64 r.f1) = v1_ at *
  have BO := BO_n; have FO := FO_n; clear BO_n FO_n
  have RV := FO.out.old RX.out (fun e => HSB5.out (e : b = w1.heap.size))
  refine hK _ _ ⟨blk_cell (w := v1_) RV 1, blk_cell (w := v1_) RV 4⟩ (fun hHeld => ?_)
  clear hK K RV
  refine rgp 10 180 ?_
  refine one_ (i := 11) (N := none) #[true, true, true, true, true, true, true, true, true, true, true, true] rfl rfl (by kernel_rfl) (by decide) (fun K hK => ?_)
  have cz : v1_.cell? ⟨w1.heap.size, 4, none⟩ = some _ := blk_cell BO.out 4
  have fz : v1_.frozen? ⟨w1.heap.size, 4, none⟩ = false := blk_frozen BO.out 4
  refine skip_ (w1 := ?_) (by kernel_rfl) rfl ?_ ?_
  rotate_left
  · go_simp
    rfl
  have BO_n := Aside0.mk (show (v1_.setCell ⟨w1.heap.size, 4, none⟩ (.int .i64 r.f4)).heap[w1.heap.size]? = some (.cells #[.int .i64 4, .int .i64 r.f1, .int .i64 0, .int .i64 0, .int .i64 r.f4, .int .i64 0, .int .i64 0, .string ⟨#[]⟩, .string ⟨#[]⟩, .slice none 0 0, .slice none 0 0] 39 (0, 0)) from set_blk BO.out 4 (.int .i64 r.f4))
  have FO_n := Aside0.mk (FO.out.setCell (p := ⟨w1.heap.size, 4, none⟩) (.inl rfl) (.int .i64 r.f4))
  clear BO FO cz fz
  generalize v1_.setCell ⟨w1.heap.size, 4, none⟩ (.int .i64 r.f4) = v2_ at *
  have BO := BO_n; have FO := FO_n; clear BO_n FO_n
  have RV := FO.out.old RX.out (fun e => HSB5.out (e : b = w1.heap.size))
  refine hK _ _ ⟨blk_cell (w := v2_) RV 1, blk_cell (w := v2_) RV 4⟩ (fun hHeld => ?_)
  clear hK K RV
  refine done_ (by kernel_rfl) ?_
  have HWV := Aside0.mk (HWA.out.kept FO.out (fun k hk e => hk.2 e))
  have FV := Aside0.mk (FA.out.trans (FO.out.mono (S2 := S) (fun k _ e => by rw [e]; exact HS5.out)))
  have B4 := Aside0.mk (FO.out.old B4d.out (fun e => HN1.out (e : w.heap.size = w1.heap.size)))
  have y0 := blk_cell (w := v2_) B4.out 0; have x0 := blk_cell (w := v2_) BO.out 0; have f0 := blk_frozen (w := v2_) B4.out 0
  have y1 := blk_cell (w := v2_) B4.out 1; have x1 := blk_cell (w := v2_) BO.out 1; have f1 := blk_frozen (w := v2_) B4.out 1
  have y2 := blk_cell (w := v2_) B4.out 2; have x2 := blk_cell (w := v2_) BO.out 2; have f2 := blk_frozen (w := v2_) B4.out 2
  have y3 := blk_cell (w := v2_) B4.out 3; have x3 := blk_cell (w := v2_) BO.out 3; have f3 := blk_frozen (w := v2_) B4.out 3
  have y4 := blk_cell (w := v2_) B4.out 4; have x4 := blk_cell (w := v2_) BO.out 4; have f4 := blk_frozen (w := v2_) B4.out 4
  have y5 := blk_cell (w := v2_) B4.out 5; have x5 := blk_cell (w := v2_) BO.out 5; have f5 := blk_frozen (w := v2_) B4.out 5
  have y6 := blk_cell (w := v2_) B4.out 6; have x6 := blk_cell (w := v2_) BO.out 6; have f6 := blk_frozen (w := v2_) B4.out 6
  have y7 := blk_cell (w := v2_) B4.out 7; have x7 := blk_cell (w := v2_) BO.out 7; have f7 := blk_frozen (w := v2_) B4.out 7
  have y8 := blk_cell (w := v2_) B4.out 8; have x8 := blk_cell (w := v2_) BO.out 8; have f8 := blk_frozen (w := v2_) B4.out 8
  have y9 := blk_cell (w := v2_) B4.out 9; have x9 := blk_cell (w := v2_) BO.out 9; have f9 := blk_frozen (w := v2_) B4.out 9
  have y10 := blk_cell (w := v2_) B4.out 10; have x10 := blk_cell (w := v2_) BO.out 10; have f10 := blk_frozen (w := v2_) B4.out 10
  clear FA HWA FO B4d BO B4
  simp only [Exit.inBlock, Exit.then]
  go_wp2
  have HS4 := Aside0.mk (show S w.heap.size from HS.out _ (Nat.le_refl _))
  refine bodyPost_ret (v := .agg #[.int .i64 4, .int .i64 r.f1, .int .i64 0, .int .i64 0, .int .i64 r.f4, .int .i64 0, .int .i64 0, .string ⟨#[]⟩, .string ⟨#[]⟩, .slice none 0 0, .slice none 0 0]) (by simp [results, Try.results52, go_sem, y0, y1, y2, y3, y4, y5, y6, y7, y8, y9, y10]) rfl ?_
  show AfterR S g w l r A9 c9 A10 c10 _ _
  unfold AfterR
  rw [show recP r = some ([b8 r.f0] ++ (t1 ++ t2)) by rw [HE.out, HP1.out, HP2.out]; rfl, HO.out, HK_.out]
  refine ⟨⟨none, 0, none, 0, rfl, .inr ⟨by decide, rfl, rfl, rfl, rfl⟩⟩, ?_, ?_⟩
  · rw [show l ++ ([b8 4] ++ (t1 ++ t2)) = l ++ [b8 4] ++ t1 ++ t2 by simp only [List.append_assoc, List.append_nil]]
    refine WK.more (b := w.heap.size) (WK.more (b := w1.heap.size) (HWV.out.kept (S2 := fun k => k = w.heap.size) ?_ (fun k hk e => hk.1.2 e)))
    repeat (first | (with_reducible refine FS.set1 ?_ _ _) | (with_reducible exact FS.refl _ _))
  · repeat (first | (with_reducible refine FS.setS ?_ HS4.out _ _) | (with_reducible exact FV.out))
set_option maxHeartbeats 4000000 in
set_option maxRecDepth 100000 in
theorem rec_five (g : Nat) (l : List UInt8) (b : Nat) (r : S39) (A9 : Option Addr) (c9 : Nat) (A10 : Option Addr) (c10 : Nat) (S : Nat → Prop) (w : World) (hS : Top S w) (h : WK w S g l) (hb : RB w b r A9 c9 A10 c10) (hSb : ¬ S b) (hl : l.length ≤ 800000) (hz : r.f8.size ≤ 1000000) (hk : r.f0 = 5) : Calls Try.prog 52 #[.pointer (some ⟨g, 0, none⟩), .pointer (some ⟨b, 0, none⟩)] w fun x w' => AfterR S g w l r A9 c9 A10 c10 x w' := by
  have HS := Aside0.mk hS; have HW := Aside0.mk h; have HL := Aside0.mk hl; have HZ := Aside0.mk hz; have HB := Aside0.mk hb; have HSB := Aside0.mk hSb; have HK_ := Aside0.mk hk
  clear hS h hl hb hSb hz
  have HSM := Aside0.mk (show smallP r.f0 6 = some [b8 r.f0] by unfold smallP; rw [if_pos (by rw [hk]; omega)])
  have HS1 := Aside0.mk (top_less HS.out (.cells #[.int .i64 0, .int .i64 0, .int .i64 0, .int .i64 0, .int .i64 0, .int .i64 0, .int .i64 0, .string ⟨#[]⟩, .string ⟨#[]⟩, .slice none 0 0, .slice none 0 0] 39))
  have HW1 := Aside0.mk (wk_less HW.out (.cells #[.int .i64 0, .int .i64 0, .int .i64 0, .int .i64 0, .int .i64 0, .int .i64 0, .int .i64 0, .string ⟨#[]⟩, .string ⟨#[]⟩, .slice none 0 0, .slice none 0 0] 39))
  have F := Aside0.mk ((FS.refl S w).alloc (.cells #[.int .i64 0, .int .i64 0, .int .i64 0, .int .i64 0, .int .i64 0, .int .i64 0, .int .i64 0, .string ⟨#[]⟩, .string ⟨#[]⟩, .slice none 0 0, .slice none 0 0] 39))
  have B4 := Aside0.mk (heap_alloc_new w (.cells #[.int .i64 0, .int .i64 0, .int .i64 0, .int .i64 0, .int .i64 0, .int .i64 0, .int .i64 0, .string ⟨#[]⟩, .string ⟨#[]⟩, .slice none 0 0, .slice none 0 0] 39))
  have R1 := Aside0.mk (show RB (w.alloc (.cells #[.int .i64 0, .int .i64 0, .int .i64 0, .int .i64 0, .int .i64 0, .int .i64 0, .int .i64 0, .string ⟨#[]⟩, .string ⟨#[]⟩, .slice none 0 0, .slice none 0 0] 39)) b r A9 c9 A10 c10 from F.out.old HB.out HSB.out)
  have q0 : (w.alloc (.cells #[.int .i64 0, .int .i64 0, .int .i64 0, .int .i64 0, .int .i64 0, .int .i64 0, .int .i64 0, .string ⟨#[]⟩, .string ⟨#[]⟩, .slice none 0 0, .slice none 0 0] 39)).cell? ⟨b, 0, none⟩ = some (.int .i64 5) := (blk_cell R1.out 0).trans (by rw [← hk]; rfl)
  go_enter Try.func52, Try.ntmps52
  go_upto_region 1 with (fail)
  generalize w.alloc (.cells #[.int .i64 0, .int .i64 0, .int .i64 0, .int .i64 0, .int .i64 0, .int .i64 0, .int .i64 0, .string ⟨#[]⟩, .string ⟨#[]⟩, .slice none 0 0, .slice none 0 0] 39) = W1 at *
  have F1 := Aside0.mk (FS.refl (Less S w.heap.size) W1)
  clear hk
  go_upto_region 2 with (go_at_call 67; refine (small_calls g l 5 6 (Less S w.heap.size) _ HS1.out HW1.out (by have := HL.out; omega)).mono ?_; rintro e w1 hx; rw [show smallP 5 6 = some [b8 5] from rfl] at hx; obtain ⟨rfl, hk1, hf1⟩ := hx; have HW1_n := Aside0.mk hk1; have F1_n := Aside0.mk (F1.out.trans hf1); clear HW1 F1 hk1 hf1 HW; have HW1 := HW1_n; have F1 := F1_n; clear HW1_n F1_n)
  have R2 := Aside0.mk (show RB w1 b r A9 c9 A10 c10 from F1.out.old R1.out (fun e => HSB.out e.1))
  have B4b := Aside0.mk (F1.out.old B4.out (not_less _ _))
  clear q0 R1 B4
  have q0 : w1.cell? ⟨b, 0, none⟩ = some (.int .i64 5) := (blk_cell R2.out 0).trans (by rw [← HK_.out]; rfl)
  have HS2 := Aside0.mk (top_less (HS1.out.next F1.out.size) (.cells #[.int .i64 5, .int .i64 0, .int .i64 0, .int .i64 0, .int .i64 0, .int .i64 0, .int .i64 0, .string ⟨#[]⟩, .string ⟨#[]⟩, .slice none 0 0, .slice none 0 0] 39))
  have HW2 := Aside0.mk (wk_less HW1.out (.cells #[.int .i64 5, .int .i64 0, .int .i64 0, .int .i64 0, .int .i64 0, .int .i64 0, .int .i64 0, .string ⟨#[]⟩, .string ⟨#[]⟩, .slice none 0 0, .slice none 0 0] 39))
  have B5 := Aside0.mk (heap_alloc_new w1 (.cells #[.int .i64 5, .int .i64 0, .int .i64 0, .int .i64 0, .int .i64 0, .int .i64 0, .int .i64 0, .string ⟨#[]⟩, .string ⟨#[]⟩, .slice none 0 0, .slice none 0 0] 39))
  have F2_n := Aside0.mk ((FS.refl (Less S w.heap.size) w1).alloc (.cells #[.int .i64 5, .int .i64 0, .int .i64 0, .int .i64 0, .int .i64 0, .int .i64 0, .int .i64 0, .string ⟨#[]⟩, .string ⟨#[]⟩, .slice none 0 0, .slice none 0 0] 39))
  have F_n := Aside0.mk (F.out.trans (FS.more (F1.out.trans F2_n.out)))
  have R3 := Aside0.mk (show RB _ b r A9 c9 A10 c10 from F2_n.out.old R2.out (fun e => HSB.out e.1))
  have B4c := Aside0.mk (F2_n.out.old B4b.out (not_less _ _))
  have HN1 := Aside0.mk (Nat.ne_of_lt (blk_lt B4b.out)); have HSZ := Aside0.mk (show w.heap.size ≤ w1.heap.size from Nat.le_of_lt (blk_lt B4b.out))
  clear F F1 F2_n R2 B4b HS1 HW1
  go_upto_region 3 with (fail)
  generalize w1.alloc (.cells #[.int .i64 5, .int .i64 0, .int .i64 0, .int .i64 0, .int .i64 0, .int .i64 0, .int .i64 0, .string ⟨#[]⟩, .string ⟨#[]⟩, .slice none 0 0, .slice none 0 0] 39) = W2 at *
  clear q0
  have q0 : W2.cell? ⟨b, 0, none⟩ = some (.int .i64 5) := (blk_cell R3.out 0).trans (by rw [← HK_.out]; rfl)
  have FW := Aside0.mk (FS.refl (Less (Less S w.heap.size) w1.heap.size) W2)
  have HW := HW2; clear HW2
  have HE := Aside0.mk (show recP r = cat (some [b8 r.f0]) (some []) by unfold recP bodyP; rw [HSM.out, if_neg (by have := HK_.out; omega), if_neg (by have := HK_.out; omega), if_neg (by have := HK_.out; omega), if_pos HK_.out])
  have HO := Aside0.mk (show ownR r = (⟨5, 0, 0, 0, 0, 0, 0, ⟨#[]⟩, ⟨#[]⟩, [], []⟩ : S39) by unfold ownR; rw [if_neg (by have := HK_.out; omega), if_neg (by have := HK_.out; omega), if_neg (by have := HK_.out; omega), if_neg (by have := HK_.out; omega)]; rw [HK_.out])
  have HS5 := Aside0.mk (show S w1.heap.size from HS.out _ HSZ.out)
  have HSB5 := Aside0.mk (show b ≠ w1.heap.size from fun e => HSB.out (by rw [e]; exact HS5.out))
  go_upto_region 27 with (fail)
  have HWA := Aside0.mk HW.out
  have FA := Aside0.mk (F_n.out.trans (FS.more (FS.more FW.out)))
  have FO := Aside0.mk (FS.refl (fun k => k = w1.heap.size) W2)
  have BO := Aside0.mk (FW.out.old B5.out (not_less _ _))
  have B4d := Aside0.mk (FW.out.old B4c.out (fun e => e.1.2 rfl))
  clear HW FW
  have HWV := Aside0.mk (HWA.out.kept FO.out (fun k hk e => hk.2 e))
  have FV := Aside0.mk (FA.out.trans (FO.out.mono (S2 := S) (fun k _ e => by rw [e]; exact HS5.out)))
  have B4 := Aside0.mk (FO.out.old B4d.out (fun e => HN1.out (e : w.heap.size = w1.heap.size)))
  have y0 := blk_cell (w := W2) B4.out 0; have x0 := blk_cell (w := W2) BO.out 0; have f0 := blk_frozen (w := W2) B4.out 0
  have y1 := blk_cell (w := W2) B4.out 1; have x1 := blk_cell (w := W2) BO.out 1; have f1 := blk_frozen (w := W2) B4.out 1
  have y2 := blk_cell (w := W2) B4.out 2; have x2 := blk_cell (w := W2) BO.out 2; have f2 := blk_frozen (w := W2) B4.out 2
  have y3 := blk_cell (w := W2) B4.out 3; have x3 := blk_cell (w := W2) BO.out 3; have f3 := blk_frozen (w := W2) B4.out 3
  have y4 := blk_cell (w := W2) B4.out 4; have x4 := blk_cell (w := W2) BO.out 4; have f4 := blk_frozen (w := W2) B4.out 4
  have y5 := blk_cell (w := W2) B4.out 5; have x5 := blk_cell (w := W2) BO.out 5; have f5 := blk_frozen (w := W2) B4.out 5
  have y6 := blk_cell (w := W2) B4.out 6; have x6 := blk_cell (w := W2) BO.out 6; have f6 := blk_frozen (w := W2) B4.out 6
  have y7 := blk_cell (w := W2) B4.out 7; have x7 := blk_cell (w := W2) BO.out 7; have f7 := blk_frozen (w := W2) B4.out 7
  have y8 := blk_cell (w := W2) B4.out 8; have x8 := blk_cell (w := W2) BO.out 8; have f8 := blk_frozen (w := W2) B4.out 8
  have y9 := blk_cell (w := W2) B4.out 9; have x9 := blk_cell (w := W2) BO.out 9; have f9 := blk_frozen (w := W2) B4.out 9
  have y10 := blk_cell (w := W2) B4.out 10; have x10 := blk_cell (w := W2) BO.out 10; have f10 := blk_frozen (w := W2) B4.out 10
  clear FA HWA FO B4d BO B4
  go_wp2
  have HS4 := Aside0.mk (show S w.heap.size from HS.out _ (Nat.le_refl _))
  refine bodyPost_ret (v := .agg #[.int .i64 5, .int .i64 0, .int .i64 0, .int .i64 0, .int .i64 0, .int .i64 0, .int .i64 0, .string ⟨#[]⟩, .string ⟨#[]⟩, .slice none 0 0, .slice none 0 0]) (by simp [results, Try.results52, go_sem, y0, y1, y2, y3, y4, y5, y6, y7, y8, y9, y10]) rfl ?_
  show AfterR S g w l r A9 c9 A10 c10 _ _
  unfold AfterR
  rw [show recP r = some ([b8 r.f0] ++ (([] : List UInt8))) by rw [HE.out]; rfl, HO.out, HK_.out]
  refine ⟨⟨none, 0, none, 0, rfl, .inr ⟨by decide, rfl, rfl, rfl, rfl⟩⟩, ?_, ?_⟩
  · rw [show l ++ ([b8 5] ++ (([] : List UInt8))) = l ++ [b8 5] by simp only [List.append_assoc, List.append_nil]]
    refine WK.more (b := w.heap.size) (WK.more (b := w1.heap.size) (HWV.out.kept (S2 := fun k => k = w.heap.size) ?_ (fun k hk e => hk.1.2 e)))
    repeat (first | (with_reducible refine FS.set1 ?_ _ _) | (with_reducible exact FS.refl _ _))
  · repeat (first | (with_reducible refine FS.setS ?_ HS4.out _ _) | (with_reducible exact FV.out))
end Go.Proofs.Ytcelfhoomhmioaa.Wr
