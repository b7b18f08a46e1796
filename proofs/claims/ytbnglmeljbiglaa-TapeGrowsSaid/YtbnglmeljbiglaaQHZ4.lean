import Derived.Deep.QuietTactic
import Derived.BigQuiet
import Derived.IntWalk
import Derived.WalkKit
import Derived.ProofKit
import Derived.OpenShut
import Derived.ChangeOld
import Derived.Below
import Derived.SizedLaws
import Derived.Deep.Slices
import Derived.Deep.Fields
import Derived.ChangeSame
import Derived.Test.YtbnglmeljbiglaaQHZ0
import Derived.Test.YtbnglmeljbiglaaQHZ1
import Derived.Test.YtbnglmeljbiglaaQHZ2
import Derived.Test.YtbnglmeljbiglaaQHZ3
set_option maxRecDepth 8192
namespace Go.Proofs.Ytbnglmeljbiglaa.Wr
open Go.Proofs.Ytbnglmeljbiglaa.Rgn
open Go.Proofs.Ytbnglmeljbiglaa.Rp Go.Proofs.Ytbnglmeljbiglaa.X4
open Go Go.RowKit Go.ChangeMaps Go.Proofs.Ytbnglmeljbiglaa.Arr Go.Proofs.Ytbnglmeljbiglaa.Ow Go.Proofs.YtbnglmeljbiglaaW.PrintWords Go.Proofs.YtbnglmeljbiglaaW.PrintLast Go.Proofs.YtbnglmeljbiglaaW.PrintMore
set_option linter.unusedVariables false
set_option linter.unusedSimpArgs false
/-- A reader of s, at a place. -/
def RD (w : World) (g : Nat) (s : ByteArray) (p : Nat) : Prop := w.heap[g]? = some (.cells #[.string s, .int .i64 (p : Int)] 162 (0, 0))
abbrev One (g : Nat) : Nat → Prop := fun k => k = g
theorem RD.below {w w' : World} {g : Nat} {s : ByteArray} {p : Nat} (h : RD w g s p) (hb : Below w.heap.size w w') : RD w' g s p := blk_below h hb
def takeR (s : ByteArray) (p n : Nat) : Option (ByteArray × Nat) := if p + n ≤ s.size then some (s.extract p (p + n), p + n) else none
def AfterS (g : Nat) (w : World) (s : ByteArray) (o : Option (ByteArray × Nat)) (x : Ending) (w' : World) : Prop :=
  match o with
  | some q => x = .returned (.string q.1) ∧ RD w' g s q.2 ∧ FS (One g) w w'
  | none => x = gaveUp 3 ∧ FS (One g) w w'
def AfterI (g : Nat) (w : World) (s : ByteArray) (o : Option (Int × Nat)) (x : Ending) (w' : World) : Prop :=
  match o with
  | some q => x = .returned (.int .i64 q.1) ∧ RD w' g s q.2 ∧ FS (One g) w w'
  | none => x = gaveUp 3 ∧ FS (One g) w w'
/-- A call that may give up (see Wr6). -/
theorem goesQ_ {P : Program} {ops : Array Oper} {Q : Exit → Act → World → Prop} {oi : Oper} {N : Option Tmp} {a : Act} {w : World} {K : Act → World → Prop} {f : FuncId} {fn : Func} {os : Array Operand} {ts : Array TypeId} (hf : P.funcs[f]? = some fn) (hname : (fn.name == "runtime.NumGoroutine") = false) (hb : fn.body.isSome = true) (args : Array Value)
    (hw : Region.wanted oi (yielded ops a.tmps) = true) (hN : oi.dst = N) (hop : oi.op = .call { callee := .value (.func f), args := os, argTypes := ts }) (hargs : os.map a.eval = args)
    (h : Calls P f args w fun e w' => (∃ v, e = .returned v ∧ K (a.put N v) w') ∨ (∃ c, e = .panicked c ∧ Q (.panic c) a w')) : if Region.wanted oi (yielded ops a.tmps) = true then Oper.wp P oi a w K Q else K (a.put N undef) w := by
  have he := enters_ hf hname hb args w
  have hrun : (execOp a.eval oi).run P w = .ok (.enter f args) w := by
    unfold execOp
    simp [hop, resolve, Deferred.ofValue, invoke, Act.eval, hargs, he]
  rw [if_pos hw]
  subst hN
  unfold Oper.wp
  rw [hrun, Oper.upon_enter]
  refine h.mono fun e w'' hh => ?_
  rcases hh with ⟨v, rfl, hk⟩ | ⟨c, rfl, hq⟩
  · exact hk
  · exact hq
set_option maxHeartbeats 1000000 in
theorem take_calls (g : Nat) (s : ByteArray) (p n : Nat) (w : World) (h : RD w g s p) (hp : p ≤ s.size) (hs : s.size ≤ 1000000000000) (hn : n ≤ 1000000000000) : Calls Try.prog 97 #[.pointer (some ⟨g, 0, none⟩), .int .i64 n] w fun x w' => AfterS g w s (takeR s p n) x w' := by
  have H := Aside0.mk h; have HP := Aside0.mk hp; have HS := Aside0.mk hs; have HN := Aside0.mk hn
  have z0 : w.drew.cell? ⟨g, 0, none⟩ = some (.string s) := blk_cell (w := w.drew) h 0
  have z1 : w.drew.cell? ⟨g, 1, none⟩ = some (.int .i64 p) := blk_cell (w := w.drew) h 1
  have hw1 : wrap64 ((s.size : Int) - (p : Int)) = (s.size : Int) - (p : Int) := by unfold wrap64; omega
  have hw2 : IntKind.i64.wrap ((s.size : Int) - (p : Int)) = (s.size : Int) - (p : Int) := IntWalk.i64_in _ (by omega)
  clear h hp hs hn
  go_enter Try.func97, Try.ntmps97
  go_upto_region 1 with (fail)
  by_cases hk : p + n ≤ s.size
  rotate_left
  · have E := Aside0.mk (show takeR s p n = none by unfold takeR; rw [if_neg hk])
    have t1 : decide ((n : Int) ≤ (s.size : Int) - (p : Int)) = false := decide_eq_false (by have := HP.out; omega)
    clear hk
    refine start_ (n := 13) (S := fun w' => w'.cell? ⟨g, 0, none⟩ = some (.string s) ∧ w'.cell? ⟨g, 1, none⟩ = some (.int .i64 p)) (ds := []) #[false, false, false, false, false, false, false, false, false, false, false, false, false] (by kernel_rfl) rfl rfl ⟨z0, z1⟩ (fun hHeld => ?_)
    refine rgp 0 5 ?_
    refine rgp 1 6 ?_
    refine rgp 2 7 ?_
    refine rgp 3 8 ?_
    refine rgp 6 11 ?_
    refine rgp 7 12 ?_
    refine rgp 8 13 ?_
    refine rgt 4 9 hHeld ?_
    refine rgp 5 10 ?_
    refine rgt 9 14 hHeld ?_
    refine rgp 10 15 ?_
    refine rgp 11 16 ?_
    refine one_ (i := 12) (N := some 17) #[true, true, true, true, true, true, true, true, true, true, true, true, true] rfl rfl (by kernel_rfl) (by decide) (fun K hK => ?_)
    refine goesQ_ Try.func63 (by kernel_rfl) rfl #[.bool false, .int .i64 3] (by rfl) rfl rfl (by (try simp only [List.map_toArray, List.map_cons, List.map_nil]); first | done | rfl) ?_
    refine (must_no 3 _).mono ?_
    rintro e w9 ⟨rfl, hw⟩
    replace hw := hw.symm
    subst hw
    refine Or.inr ⟨_, rfl, rfl, ?_⟩
    show AfterS g w s (takeR s p n) (gaveUp 3) _
    rw [E.out]
    exact ⟨rfl, (FS.refl _ _).drew⟩
  have E := Aside0.mk (show takeR s p n = some (s.extract p (p + n), p + n) by unfold takeR; rw [if_pos hk])
  have t1 : decide ((n : Int) ≤ (s.size : Int) - (p : Int)) = true := decide_eq_true (by have := HP.out; omega)
  have HK := Aside0.mk hk
  clear hk
  refine start_ (n := 13) (S := fun w' => w'.cell? ⟨g, 0, none⟩ = some (.string s) ∧ w'.cell? ⟨g, 1, none⟩ = some (.int .i64 p)) (ds := []) #[false, false, false, false, false, false, false, false, false, false, false, false, false] (by kernel_rfl) rfl rfl ⟨z0, z1⟩ (fun hHeld => ?_)
  refine rgp 0 5 ?_
  refine rgp 1 6 ?_
  refine rgp 2 7 ?_
  refine rgp 3 8 ?_
  refine rgp 6 11 ?_
  refine rgp 7 12 ?_
  refine rgp 8 13 ?_
  refine rgt 4 9 hHeld ?_
  refine rgp 5 10 ?_
  refine rgt 9 14 hHeld ?_
  refine rgp 10 15 ?_
  refine rgp 11 16 ?_
  refine one_ (i := 12) (N := some 17) #[true, true, true, true, true, true, true, true, true, true, true, true, true] rfl rfl (by kernel_rfl) (by decide) (fun K hK => ?_)
  refine goes_ Try.func63 (by kernel_rfl) rfl #[.bool true, .int .i64 3] (by rfl) rfl rfl (by (try simp only [List.map_toArray, List.map_cons, List.map_nil]); first | done | rfl) ?_
  refine (must_yes 3 _).mono ?_
  rintro e w9 ⟨rfl, hw⟩
  replace hw := hw.symm
  subst hw
  refine ⟨_, rfl, ?_⟩
  refine hK _ _ ⟨z0, z1⟩ (fun hHeld => ?_)
  clear hK K
  refine norm_ (a' := ?_) ?_ ?_
  rotate_left
  · show Act.put _ (some 17) _ = _
    simp only [Act.put, List.setIfInBounds_toArray, List.set_cons_zero, List.set_cons_succ, i64_w, i32_w]
    rfl
  refine done_ (by kernel_rfl) ?_
  simp only [Exit.inBlock, Exit.then]
  have F := Aside0.mk ((FS.refl (One g) w).drew)
  have H1 := Aside0.mk (show RD w.drew g s p from H.out)
  clear hHeld z0 z1 t1
  generalize w.drew = w1 at *
  have z1 : w1.cell? ⟨g, 1, none⟩ = some (.int .i64 p) := blk_cell H1.out 1
  have f1 : w1.frozen? ⟨g, 1, none⟩ = false := blk_frozen H1.out 1
  have hw3 : wrap64 ((p : Int) + (n : Int)) = ((p + n : Nat) : Int) := by have := HK.out; have := HS.out; unfold wrap64; omega
  go_upto_region 3 with (fail)
  rw [show (p : Int) + (n : Int) = ((p + n : Nat) : Int) by omega]
  have H2 := Aside0.mk (show RD (w1.setCell ⟨g, 1, none⟩ (.int .i64 ((p + n : Nat) : Int))) g s (p + n) from set_blk H1.out 1 _)
  have F2 := Aside0.mk (F.out.setCell (p := ⟨g, 1, none⟩) (.inl rfl) (.int .i64 ((p + n : Nat) : Int)))
  generalize w1.setCell ⟨g, 1, none⟩ (.int .i64 ((p + n : Nat) : Int)) = w2 at *
  clear z1 f1 F H1
  have y0 : w2.cell? ⟨g, 0, none⟩ = some (.string s) := blk_cell H2.out 0
  have y1 : w2.cell? ⟨g, 1, none⟩ = some (.int .i64 ((p + n : Nat) : Int)) := blk_cell H2.out 1
  have hw4 : wrap64 (((p + n : Nat) : Int) - (n : Int)) = (p : Int) := by have := HK.out; have := HS.out; unfold wrap64; omega
  have hw5 : IntKind.i64.wrap (((p + n : Nat) : Int) - (n : Int)) = (p : Int) := by rw [show ((p + n : Nat) : Int) - (n : Int) = (p : Int) by omega]; exact IntWalk.i64_in _ (by have := HK.out; have := HS.out; omega)
  have hw6 : IntKind.i64.wrap (p : Int) = (p : Int) := IntWalk.i64_in _ (by have := HK.out; have := HS.out; omega)
  have b1 : (0 : Int) ≤ (p : Int) := by omega
  have b4 : (p : Int) + (n : Int) ≤ (s.size : Int) := by have := HK.out; omega
  have b5 : (p : Int) ≤ (p : Int) + (n : Int) := by omega
  have b6 : ((p : Int) + (n : Int)).toNat = p + n := by omega
  have b2 : ((p + n : Nat) : Int) ≤ (s.size : Int) := by have := HK.out; omega
  have b3 : (p : Int) ≤ ((p + n : Nat) : Int) := by omega
  clear hHeld hw1 hw2 hw3
  go_quiet (fail)
  go_wp2
  go_ret
  show AfterS g w s (takeR s p n) _ _
  rw [E.out]
  exact ⟨by rfl, H2.out.below (pw_below_drewN (Below.refl _ _) _), F2.out.below (pw_below_drewN (Below.refl _ _) _)⟩
theorem take_lit (g : Nat) (s : ByteArray) (p n : Nat) (i : Int) (hi : i = (n : Int)) (w : World) (h : RD w g s p) (hp : p ≤ s.size) (hs : s.size ≤ 1000000000000) (hn : n ≤ 1000000000000) : Calls Try.prog 97 #[.pointer (some ⟨g, 0, none⟩), .int .i64 i] w fun x w' => AfterS g w s (takeR s p n) x w' := by
  subst hi
  exact take_calls g s p n w h hp hs hn
def smallR (s : ByteArray) (p : Nat) : Option (Int × Nat) := (takeR s p 1).map fun q => (bt q.1 0, q.2)
def num4 (b : ByteArray) : Int := ((bt b 0 * 256 + bt b 1) * 256 + bt b 2) * 256 + bt b 3
def numR (s : ByteArray) (p : Nat) : Option (Int × Nat) := (takeR s p 4).map fun q => (num4 q.1, q.2)
theorem take_size {s : ByteArray} {p n : Nat} {b : ByteArray} {q : Nat} (h : takeR s p n = some (b, q)) : b.size = n ∧ q = p + n ∧ q ≤ s.size := by
  unfold takeR at h
  split at h
  · cases h
    refine ⟨?_, rfl, by assumption⟩
    rw [ByteArray.size_extract]
    omega
  · cases h
theorem small_some {s : ByteArray} {p : Nat} {v : Int} {q : Nat} (h : smallR s p = some (v, q)) : q = p + 1 ∧ q ≤ s.size ∧ 0 ≤ v ∧ v ≤ 255 := by
  unfold smallR at h
  cases h1 : takeR s p 1 with
  | none => rw [h1] at h; cases h
  | some b =>
    obtain ⟨b, q'⟩ := b
    rw [h1] at h
    simp only [Option.map_some, Option.some.injEq, Prod.mk.injEq] at h
    obtain ⟨rfl, rfl⟩ := h
    have := take_size h1
    have := bt_range b 0
    exact ⟨by omega, by omega, by omega, by omega⟩
theorem rnum_some {s : ByteArray} {p : Nat} {v : Int} {q : Nat} (h : numR s p = some (v, q)) : q = p + 4 ∧ q ≤ s.size ∧ 0 ≤ v ∧ v ≤ 4294967295 := by
  unfold numR at h
  cases h1 : takeR s p 4 with
  | none => rw [h1] at h; cases h
  | some b =>
    obtain ⟨b, q'⟩ := b
    rw [h1] at h
    simp only [Option.map_some, Option.some.injEq, Prod.mk.injEq] at h
    obtain ⟨rfl, rfl⟩ := h
    have := take_size h1
    have := bt_range b 0; have := bt_range b 1; have := bt_range b 2; have := bt_range b 3
    refine ⟨by omega, by omega, ?_, ?_⟩ <;> unfold num4 <;> omega
theorem smallr_calls (g : Nat) (s : ByteArray) (p : Nat) (w : World) (h : RD w g s p) (hp : p ≤ s.size) (hs : s.size ≤ 1000000000000) : Calls Try.prog 95 #[.pointer (some ⟨g, 0, none⟩)] w fun x w' => AfterI g w s (smallR s p) x w' := by
  have H := Aside0.mk h; have HP := Aside0.mk hp; have HS := Aside0.mk hs
  clear h hp hs
  cases ht : takeR s p 1 with
  | none =>
    have HT := Aside0.mk ht; clear ht
    go_enter Try.func95, Try.ntmps95
    go_wp2_with (go_at_call 97; (with_reducible refine (take_lit g s p 1 1 rfl _ H.out HP.out HS.out (by omega)).mono ?_); rintro e w1 hx; rw [HT.out] at hx; obtain ⟨rfl, hf⟩ := hx; have F := Aside0.mk hf; clear hf)
    refine ⟨rfl, ?_⟩
    show AfterI g w s (smallR s p) (gaveUp 3) _
    rw [show smallR s p = none by unfold smallR; rw [HT.out]; rfl]
    exact ⟨rfl, F.out⟩
  | some b =>
    obtain ⟨b, q⟩ := b
    have hb := take_size ht
    have hb0 : 0 < b.size := by omega
    have HT := Aside0.mk ht; have HB := Aside0.mk hb; clear ht hb
    have HBT := Aside0.mk (show wrap64 (((b[0]'hb0).toNat : Int)) = bt b 0 by have h2 := bt_range b 0; have h1 : ((b[0]'hb0).toNat : Int) = bt b 0 := bt_at b 0 hb0; rw [h1]; unfold wrap64; omega)
    go_enter Try.func95, Try.ntmps95
    go_wp2_with (go_at_call 97; (with_reducible refine (take_lit g s p 1 1 rfl _ H.out HP.out HS.out (by omega)).mono ?_); rintro e w1 hx; rw [HT.out] at hx; obtain ⟨rfl, hk, hf⟩ := hx; have F := Aside0.mk hf; have HK := Aside0.mk hk; clear hf hk)
    go_ret
    show AfterI g w s (smallR s p) _ _
    rw [show smallR s p = some (bt b 0, q) by unfold smallR; rw [HT.out]; rfl]
    exact ⟨by show Ending.returned (.int .i64 (wrap64 ((b[0]'hb0).toNat : Int))) = _; rw [HBT.out], HK.out, F.out⟩
def nv (b : ByteArray) : Nat → Int
  | 0 => 0
  | k + 1 => nv b k * 256 + bt b k
theorem or_join (x y : Int) (h0 : 0 ≤ x) (h1 : x < 16777216) (h2 : 0 ≤ y) (h3 : y < 256) : bits .or .i64 (x * 256) y = x * 256 + y :=
  bits_join .i64 40 (by decide) (fun n a b => by rw [IntKind.wrap_i64]; omega) 8 (x * 256) y (by omega) (by omega) (by omega) h2 (by omega) (by omega)
theorem nv_range (b : ByteArray) (k : Nat) (h : k ≤ 3) : 0 ≤ nv b k ∧ nv b k ≤ 16777215 := by
  have h0 := bt_range b (0 : Nat); have h1 := bt_range b (1 : Nat); have h2 := bt_range b (2 : Nat)
  rcases (show k = 0 ∨ k = 1 ∨ k = 2 ∨ k = 3 by omega) with rfl | rfl | rfl | rfl <;> simp only [nv] <;> omega
theorem numr_calls (g : Nat) (s : ByteArray) (p : Nat) (w : World) (h : RD w g s p) (hp : p ≤ s.size) (hs : s.size ≤ 1000000000000) : Calls Try.prog 96 #[.pointer (some ⟨g, 0, none⟩)] w fun x w' => AfterI g w s (numR s p) x w' := by
  have H := Aside0.mk h; have HP := Aside0.mk hp; have HS := Aside0.mk hs
  clear h hp hs
  cases ht : takeR s p 4 with
  | none =>
    have HT := Aside0.mk ht; clear ht
    go_enter Try.func96, Try.ntmps96
    go_wp2_with (go_at_call 97; (with_reducible refine (take_lit g s p 4 4 rfl _ H.out HP.out HS.out (by omega)).mono ?_); rintro e w1 hx; rw [HT.out] at hx; obtain ⟨rfl, hf⟩ := hx; have F := Aside0.mk hf; clear hf)
    refine ⟨rfl, ?_⟩
    show AfterI g w s (numR s p) (gaveUp 3) _
    rw [show numR s p = none by unfold numR; rw [HT.out]; rfl]
    exact ⟨rfl, F.out⟩
  | some b =>
    obtain ⟨b, q⟩ := b
    have hb := take_size ht
    have hb0 : 3 < b.size := by omega
    have hsz : (b.size : Int) = 4 := by omega
    have HT := Aside0.mk ht; have HB := Aside0.mk hb; clear ht hb
    have HBT := Aside0.mk (show ∀ (i : Nat) (h : i < b.size), ((b[i]'h).toNat : Int) = bt b i from fun i h => by have := bt_at b (i : Int) (by simpa using h); simpa using this)
    go_enter Try.func96, Try.ntmps96
    go_wp2_with (first | (go_at_call 97; (with_reducible refine (take_lit g s p 4 4 rfl _ H.out HP.out HS.out (by omega)).mono ?_); rintro e w1 hx; rw [HT.out] at hx; obtain ⟨rfl, hk, hf⟩ := hx; have F := Aside0.mk hf; have HK := Aside0.mk hk; clear hf hk; obtain ⟨cc, w3, hrun, hcc, hh, hb3⟩ := Bof.made (P := Try.prog) w1 9 38 5 b rfl rfl rfl; have HH := Aside0.mk hh; have HK3 := Aside0.mk (HK.out.below hb3); have F3 := Aside0.mk (F.out.below hb3); clear hcc hh hb3))
    clear hrun
    go_loopw [2, 9, 4] (fun v i c wr => ∃ k : Nat, v = .int .i64 (nv b k) ∧ i = .int .i64 k ∧ Aside0 (k ≤ 4) ∧ Aside0 (∃ m, wr = w3.drewN m)) (fun _ i _ _ => 4 - (intOf i).toNat)
    case atStart => exact ⟨0, rfl, rfl, ⟨by omega⟩, ⟨0, rfl⟩⟩
    case round =>
      obtain ⟨k, rfl, rfl, K, HW⟩ := hrel
      by_cases hlt : k < 4
      · have h1 : (k : Int) < 4 := by omega
        have hkb : k < b.size := by omega
        have hc : wr.cell? ⟨w1.heap.size, k, none⟩ = some (.int .u8 ((b[k]'hkb).toNat : Int)) := by
          obtain ⟨m, rfl⟩ := HW.out
          exact HH.out.cell k hkb
        have hn := nv_range b k (by omega)
        have HLT := Aside0.mk hlt; clear hlt
        have HOR := Aside0.mk (show bits .or .i64 (nv b k * 256) (wrap64 ((b[k]'hkb).toNat : Int)) = nv b (k + 1) by
          have h2 := bt_range b (k : Int)
          rw [HBT.out k hkb, show wrap64 (bt b (k : Int)) = bt b (k : Int) by unfold wrap64; omega, or_join _ _ (by omega) (by omega) (by omega) (by omega)]
          rfl)
        go_wp2
        refine ⟨⟨k + 1, congrArg (Value.int .i64) HOR.out, rfl, ⟨HLT.out⟩, HW⟩, ?_⟩
        have := HLT.out
        show 4 - (intOf (.int .i64 ((k + 1 : Nat) : Int))).toNat < 4 - (intOf (.int .i64 (k : Int))).toNat
        simp only [intOf]; omega
      · obtain rfl : k = 4 := by have := K.out; omega
        obtain ⟨m, rfl⟩ := HW.out
        clear hlt HW
        go_wp2
        go_ret
        show AfterI g w s (numR s p) _ _
        rw [show numR s p = some (num4 b, q) by unfold numR; rw [HT.out]; rfl]
        refine ⟨?_, HK3.out.below (pw_below_drewN (Below.refl _ _) _), F3.out.below (pw_below_drewN (Below.refl _ _) _)⟩
        show Ending.returned (.int .i64 (nv b 4)) = _
        have e : nv b 4 = num4 b := by unfold num4; simp only [nv]; simp
        rw [e]
end Go.Proofs.Ytbnglmeljbiglaa.Wr
set_option maxRecDepth 8192
namespace Go.Proofs.Ytbnglmeljbiglaa.Wr
open Go.Proofs.Ytbnglmeljbiglaa.Rgn
open Go.Proofs.Ytbnglmeljbiglaa.Rp Go.Proofs.Ytbnglmeljbiglaa.X4
open Go Go.RowKit Go.ChangeMaps Go.Proofs.Ytbnglmeljbiglaa.Arr Go.Proofs.Ytbnglmeljbiglaa.Ow Go.Proofs.YtbnglmeljbiglaaW.PrintWords Go.Proofs.YtbnglmeljbiglaaW.PrintLast Go.Proofs.YtbnglmeljbiglaaW.PrintMore
set_option linter.unusedVariables false
set_option linter.unusedSimpArgs false
theorem keep_set {w : World} {o g : Nat} {x : Obj} (h : w.heap[g]? = some x) (hn : g ≠ o) (j : Nat) (v : Value) : (w.setCell ⟨o, j, none⟩ v).heap[g]? = some x := (Below.heap_setCell w ⟨o, j, none⟩ v g hn).trans h
theorem RD.keep {w : World} {o g p : Nat} {s : ByteArray} (h : RD w g s p) (hn : g ≠ o) (j : Nat) (v : Value) : RD (w.setCell ⟨o, j, none⟩ v) g s p := keep_set h hn j v
theorem FS.fresh {S : Nat → Prop} {a b : World} (h : FS S a b) (j : Nat) (v : Value) : FS S a (b.setCell ⟨a.heap.size, j, none⟩ v) := h.setCell (p := ⟨a.heap.size, j, none⟩) (.inr (Nat.le_refl _)) v
def rowT1 (s : ByteArray) (p : Nat) : Option (S107 × Nat) := (numR s p).bind fun a => (numR s a.2).bind fun b => (numR s b.2).bind fun c => some (⟨a.1, b.1, c.1⟩, c.2)
def rowQ1 (s : ByteArray) (p : Nat) : Option (S109 × Nat) := (smallR s p).bind fun a => (numR s a.2).bind fun b => some (⟨a.1, b.1⟩, b.2)
def rowsT (s : ByteArray) : Nat → Nat → Option (List S107 × Nat)
  | 0, p => some ([], p)
  | n + 1, p => (rowsT s n p).bind fun x => (rowT1 s x.2).bind fun r => some (x.1 ++ [r.1], r.2)
def rowsQ (s : ByteArray) : Nat → Nat → Option (List S109 × Nat)
  | 0, p => some ([], p)
  | n + 1, p => (rowsQ s n p).bind fun x => (rowQ1 s x.2).bind fun r => some (x.1 ++ [r.1], r.2)
def recR (s : ByteArray) (p : Nat) : Option (S37 × Nat) := (smallR s p).bind fun a =>
  if a.1 = 1 then (numR s a.2).bind fun t => (numR s t.2).bind fun v => (smallR s v.2).bind fun pg => (smallR s pg.2).bind fun o => (smallR s o.2).bind fun n => (takeR s n.2 n.1.toNat).bind fun b => (takeR s b.2 n.1.toNat).bind fun f => some (⟨1, t.1, pg.1, o.1, v.1, 0, 0, b.1, f.1, [], []⟩, f.2)
  else if a.1 = 2 then (numR s a.2).bind fun t => (numR s t.2).bind fun v => (numR s v.2).bind fun x => (smallR s x.2).bind fun pg => (smallR s pg.2).bind fun o => (smallR s o.2).bind fun n => (takeR s n.2 n.1.toNat).bind fun f => some (⟨2, t.1, pg.1, o.1, v.1, x.1, 0, ⟨#[]⟩, f.1, [], []⟩, f.2)
  else if a.1 = 3 ∨ a.1 = 4 then (numR s a.2).bind fun t => (numR s t.2).bind fun v => some (⟨a.1, t.1, 0, 0, v.1, 0, 0, ⟨#[]⟩, ⟨#[]⟩, [], []⟩, v.2)
  else if a.1 = 6 then (numR s a.2).bind fun b => (smallR s b.2).bind fun n => (rowsT s n.1.toNat n.2).bind fun x => (smallR s x.2).bind fun m => (rowsQ s m.1.toNat m.2).bind fun y => some (⟨6, 0, 0, 0, 0, 0, b.1, ⟨#[]⟩, ⟨#[]⟩, x.1, y.1⟩, y.2)
  else some (⟨a.1, 0, 0, 0, 0, 0, 0, ⟨#[]⟩, ⟨#[]⟩, [], []⟩, a.2)
/-- What the reader's 'rec' does. -/
def AfterX (g : Nat) (w : World) (s : ByteArray) (p : Nat) (x : Ending) (w' : World) : Prop :=
  match recR s p with
  | some q => ∃ v9 v10 : Value, x = .returned (.agg #[.int .i64 q.1.f0, .int .i64 q.1.f1, .int .i64 q.1.f2, .int .i64 q.1.f3, .int .i64 q.1.f4, .int .i64 q.1.f5, .int .i64 q.1.f6, .string q.1.f7, .string q.1.f8, v9, v10]) ∧ Kd.R k107 107 w' w.heap.size (fun _ => True) v9 q.1.f9 ∧ Kd.R k109 109 w' w.heap.size (fun _ => True) v10 q.1.f10 ∧ RD w' g s q.2 ∧ FS (One g) w w'
  | none => x = gaveUp 3 ∧ FS (One g) w w'
set_option maxHeartbeats 4000000 in
theorem rrec_three (g : Nat) (s : ByteArray) (p p1 : Nat) (w : World) (h : RD w g s p) (hp : p ≤ s.size) (hs : s.size ≤ 1000000000) (h0 : smallR s p = some (3, p1)) : Calls Try.prog 92 #[.pointer (some ⟨g, 0, none⟩)] w fun x w' => AfterX g w s p x w' := by
  have HS := Aside0.mk (show s.size ≤ 1000000000000 by omega); have HL := Aside0.mk hp
  have HE := Aside0.mk (show recR s p = (numR s p1).bind fun t => (numR s t.2).bind fun v => some (⟨3, t.1, 0, 0, v.1, 0, 0, ⟨#[]⟩, ⟨#[]⟩, [], []⟩, v.2) by unfold recR; rw [h0, Option.bind_some]; simp only; rw [if_neg (by decide), if_neg (by decide), if_pos (by decide)])
  have HL1 := Aside0.mk (show p1 ≤ s.size from (small_some h0).2.1)
  have HP1 := Aside0.mk h0
  have HGN := Aside0.mk (show g ≠ w.heap.size from Nat.ne_of_lt (blk_lt h))
  have HGO := Aside0.mk (show ¬ One g w.heap.size from fun e => HGN.out (e : w.heap.size = g).symm)
  have HR0 := Aside0.mk (h.below ((Below.refl _ _).alloc (Nat.le_refl _) (.cells #[.int .i64 0, .int .i64 0, .int .i64 0, .int .i64 0, .int .i64 0, .int .i64 0, .int .i64 0, .string ⟨#[]⟩, .string ⟨#[]⟩, .slice none 0 0, .slice none 0 0] 37)))
  have F0 := Aside0.mk ((FS.refl (One g) w).alloc (.cells #[.int .i64 0, .int .i64 0, .int .i64 0, .int .i64 0, .int .i64 0, .int .i64 0, .int .i64 0, .string ⟨#[]⟩, .string ⟨#[]⟩, .slice none 0 0, .slice none 0 0] 37))
  have HO0 := Aside0.mk (heap_alloc_new w (.cells #[.int .i64 0, .int .i64 0, .int .i64 0, .int .i64 0, .int .i64 0, .int .i64 0, .int .i64 0, .string ⟨#[]⟩, .string ⟨#[]⟩, .slice none 0 0, .slice none 0 0] 37))
  clear h hp hs h0
  go_enter Try.func92, Try.ntmps92
  go_upto_region 1 with (fail)
  generalize w.alloc (.cells #[.int .i64 0, .int .i64 0, .int .i64 0, .int .i64 0, .int .i64 0, .int .i64 0, .int .i64 0, .string ⟨#[]⟩, .string ⟨#[]⟩, .slice none 0 0, .slice none 0 0] 37) = W1 at *
  go_upto_region 2 with (go_at_call 95; (with_reducible refine (smallr_calls g s p _ HR0.out HL.out HS.out).mono ?_); rintro e w1 hx; rw [HP1.out] at hx; obtain ⟨rfl, hk_, hf_⟩ := hx; have HR1 := Aside0.mk hk_; have F1 := Aside0.mk (F0.out.trans hf_); have HO1 := Aside0.mk (hf_.old HO0.out HGO.out); clear hk_ hf_ HR0 F0 HO0; have y0 : w1.cell? ⟨w.heap.size, 0, none⟩ = some _ := blk_cell HO1.out 0; have f0 := blk_frozen HO1.out 0)
  have HO1x := Aside0.mk (show (w1.setCell ⟨w.heap.size, 0, none⟩ (.int .i64 3)).heap[w.heap.size]? = some (.cells #[.int .i64 3, .int .i64 0, .int .i64 0, .int .i64 0, .int .i64 0, .int .i64 0, .int .i64 0, .string ⟨#[]⟩, .string ⟨#[]⟩, .slice none 0 0, .slice none 0 0] 37 (0, 0)) from set_blk HO1.out 0 (.int .i64 3))
  have HR1x := Aside0.mk (show RD (w1.setCell ⟨w.heap.size, 0, none⟩ (.int .i64 3)) g s p1 from keep_set HR1.out HGN.out 0 _)
  have F1x := Aside0.mk (FS.fresh F1.out 0 (.int .i64 3))
  have HL1x := HL1
  clear HO1 HR1 F1 y0 f0
  generalize w1.setCell ⟨w.heap.size, 0, none⟩ (.int .i64 3) = u1 at *
  have k0 : u1.cell? ⟨w.heap.size, 0, none⟩ = some (.int .i64 3) := blk_cell HO1x.out 0
  go_upto_region 7 with (fail)
  cases hp2 : numR s p1 with
  | none =>
    have HP2 := Aside0.mk hp2; clear hp2
    go_wp2_with (first | (go_at_call 96; (with_reducible refine (numr_calls g s p1 _ HR1x.out HL1x.out HS.out).mono ?_); rintro e w2 hx; rw [HP2.out] at hx; obtain ⟨rfl, hf_⟩ := hx; have F2 := Aside0.mk (F1x.out.trans hf_); clear hf_))
    refine ⟨rfl, ?_⟩
    show AfterX g w s p (gaveUp 3) _
    unfold AfterX
    rw [show recR s p = none by rw [HE.out]; simp only [HP2.out, Option.bind_some, Option.bind_none]]
    exact ⟨rfl, F2.out⟩
  | some q_ =>
  obtain ⟨t_, p2⟩ := q_
  have HL2 := Aside0.mk (show p2 ≤ s.size from (rnum_some hp2).2.1)
  have HP2 := Aside0.mk hp2; clear hp2
  cases hp3 : numR s p2 with
  | none =>
    have HP3 := Aside0.mk hp3; clear hp3
    go_wp2_with (first | (go_at_call 96; (with_reducible refine (numr_calls g s p1 _ HR1x.out HL1x.out HS.out).mono ?_); rintro e w2 hx; rw [HP2.out] at hx; obtain ⟨rfl, hk_, hf_⟩ := hx; have HR2 := Aside0.mk hk_; have F2 := Aside0.mk (F1x.out.trans hf_); have HO2 := Aside0.mk (hf_.old HO1x.out HGO.out); clear hk_ hf_ HR1x F1x HO1x) | (go_at_call 96; (with_reducible refine (numr_calls g s p2 _ HR2.out HL2.out HS.out).mono ?_); rintro e w3 hx; rw [HP3.out] at hx; obtain ⟨rfl, hf_⟩ := hx; have F3 := Aside0.mk (F2.out.trans hf_); clear hf_))
    refine ⟨rfl, ?_⟩
    show AfterX g w s p (gaveUp 3) _
    unfold AfterX
    rw [show recR s p = none by rw [HE.out]; simp only [HP2.out, HP3.out, Option.bind_some, Option.bind_none]]
    exact ⟨rfl, F3.out⟩
  | some q_ =>
  obtain ⟨v_, p3⟩ := q_
  have HL3 := Aside0.mk (show p3 ≤ s.size from (rnum_some hp3).2.1)
  have HP3 := Aside0.mk hp3; clear hp3
  go_upto_region 8 with (first | (go_at_call 96; (with_reducible refine (numr_calls g s p1 _ HR1x.out HL1x.out HS.out).mono ?_); rintro e w2 hx; rw [HP2.out] at hx; obtain ⟨rfl, hk_, hf_⟩ := hx; have HR2 := Aside0.mk hk_; have F2 := Aside0.mk (F1x.out.trans hf_); have HO2 := Aside0.mk (hf_.old HO1x.out HGO.out); clear hk_ hf_ HR1x F1x HO1x) | (go_at_call 96; (with_reducible refine (numr_calls g s p2 _ HR2.out HL2.out HS.out).mono ?_); rintro e w3 hx; rw [HP3.out] at hx; obtain ⟨rfl, hk_, hf_⟩ := hx; have HR3 := Aside0.mk hk_; have F3 := Aside0.mk (F2.out.trans hf_); have HO3 := Aside0.mk (hf_.old HO2.out HGO.out); clear hk_ hf_ HR2 F2 HO2; have y1 : w3.cell? ⟨w.heap.size, 1, none⟩ = some _ := blk_cell HO3.out 1; have f1 := blk_frozen HO3.out 1; have y4 : w3.cell? ⟨w.heap.size, 4, none⟩ = some _ := blk_cell HO3.out 4; have f4 := blk_frozen HO3.out 4))
  have HO3x := Aside0.mk (show ((w3.setCell ⟨w.heap.size, 1, none⟩ (.int .i64 t_)).setCell ⟨w.heap.size, 4, none⟩ (.int .i64 v_)).heap[w.heap.size]? = some (.cells #[.int .i64 3, .int .i64 t_, .int .i64 0, .int .i64 0, .int .i64 v_, .int .i64 0, .int .i64 0, .string ⟨#[]⟩, .string ⟨#[]⟩, .slice none 0 0, .slice none 0 0] 37 (0, 0)) from (set_blk (set_blk HO3.out 1 (.int .i64 t_)) 4 (.int .i64 v_)))
  have HR3x := Aside0.mk (show RD ((w3.setCell ⟨w.heap.size, 1, none⟩ (.int .i64 t_)).setCell ⟨w.heap.size, 4, none⟩ (.int .i64 v_)) g s p3 from (keep_set (keep_set HR3.out HGN.out 1 (.int .i64 t_)) HGN.out 4 (.int .i64 v_)))
  have F3x := Aside0.mk (FS.fresh (FS.fresh F3.out 1 (.int .i64 t_)) 4 (.int .i64 v_))
  have HL3x := HL3
  clear HO3 HR3 F3 y1 f1 y4 f4
  generalize (w3.setCell ⟨w.heap.size, 1, none⟩ (.int .i64 t_)).setCell ⟨w.heap.size, 4, none⟩ (.int .i64 v_) = u3 at *
  (try clear k0)
  have k0 : u3.cell? ⟨w.heap.size, 0, none⟩ = some (.int .i64 3) := blk_cell HO3x.out 0
  go_upto_region 11 with (fail)
  clear k0
  obtain ⟨x0, f0, x1, f1, x2, f2, x3, f3, x4, f4, x5, f5, x6, f6, x7, f7, x8, f8, x9, f9, x10, f10⟩ := cellsF11 u3 (w.heap.size) HO3x.out
  have HB_ := HO3x; have HRR := HR3x; have FFF := F3x
  go_wp2
  refine bodyPost_ret (v := .agg #[.int .i64 3, .int .i64 t_, .int .i64 0, .int .i64 0, .int .i64 v_, .int .i64 0, .int .i64 0, .string ⟨#[]⟩, .string ⟨#[]⟩, .slice none 0 0, .slice none 0 0]) (by simp [results, Try.results92, go_sem, x0, x1, x2, x3, x4, x5, x6, x7, x8, x9, x10]) rfl ?_
  show AfterX g w s p _ _
  unfold AfterX
  rw [show recR s p = some ((⟨3, t_, 0, 0, v_, 0, 0, ⟨#[]⟩, ⟨#[]⟩, [], []⟩ : S37), p3) by rw [HE.out]; (try simp only [HP2.out, HP3.out, Option.bind_some])]
  refine ⟨_, _, rfl, Kd.R_nil _ _ _ _ _, Kd.R_nil _ _ _ _ _, ?_, ?_⟩
  · show RD _ g s p3
    repeat (first | (with_reducible refine RD.keep ?_ HGN.out _ _) | (with_reducible exact HRR.out))
  · repeat (first | (with_reducible refine FS.fresh ?_ _ _) | (with_reducible exact FFF.out))
set_option maxHeartbeats 4000000 in
theorem rrec_four (g : Nat) (s : ByteArray) (p p1 : Nat) (w : World) (h : RD w g s p) (hp : p ≤ s.size) (hs : s.size ≤ 1000000000) (h0 : smallR s p = some (4, p1)) : Calls Try.prog 92 #[.pointer (some ⟨g, 0, none⟩)] w fun x w' => AfterX g w s p x w' := by
  have HS := Aside0.mk (show s.size ≤ 1000000000000 by omega); have HL := Aside0.mk hp
  have HE := Aside0.mk (show recR s p = (numR s p1).bind fun t => (numR s t.2).bind fun v => some (⟨4, t.1, 0, 0, v.1, 0, 0, ⟨#[]⟩, ⟨#[]⟩, [], []⟩, v.2) by unfold recR; rw [h0, Option.bind_some]; simp only; rw [if_neg (by decide), if_neg (by decide), if_pos (by decide)])
  have HL1 := Aside0.mk (show p1 ≤ s.size from (small_some h0).2.1)
  have HP1 := Aside0.mk h0
  have HGN := Aside0.mk (show g ≠ w.heap.size from Nat.ne_of_lt (blk_lt h))
  have HGO := Aside0.mk (show ¬ One g w.heap.size from fun e => HGN.out (e : w.heap.size = g).symm)
  have HR0 := Aside0.mk (h.below ((Below.refl _ _).alloc (Nat.le_refl _) (.cells #[.int .i64 0, .int .i64 0, .int .i64 0, .int .i64 0, .int .i64 0, .int .i64 0, .int .i64 0, .string ⟨#[]⟩, .string ⟨#[]⟩, .slice none 0 0, .slice none 0 0] 37)))
  have F0 := Aside0.mk ((FS.refl (One g) w).alloc (.cells #[.int .i64 0, .int .i64 0, .int .i64 0, .int .i64 0, .int .i64 0, .int .i64 0, .int .i64 0, .string ⟨#[]⟩, .string ⟨#[]⟩, .slice none 0 0, .slice none 0 0] 37))
  have HO0 := Aside0.mk (heap_alloc_new w (.cells #[.int .i64 0, .int .i64 0, .int .i64 0, .int .i64 0, .int .i64 0, .int .i64 0, .int .i64 0, .string ⟨#[]⟩, .string ⟨#[]⟩, .slice none 0 0, .slice none 0 0] 37))
  clear h hp hs h0
  go_enter Try.func92, Try.ntmps92
  go_upto_region 1 with (fail)
  generalize w.alloc (.cells #[.int .i64 0, .int .i64 0, .int .i64 0, .int .i64 0, .int .i64 0, .int .i64 0, .int .i64 0, .string ⟨#[]⟩, .string ⟨#[]⟩, .slice none 0 0, .slice none 0 0] 37) = W1 at *
  go_upto_region 2 with (go_at_call 95; (with_reducible refine (smallr_calls g s p _ HR0.out HL.out HS.out).mono ?_); rintro e w1 hx; rw [HP1.out] at hx; obtain ⟨rfl, hk_, hf_⟩ := hx; have HR1 := Aside0.mk hk_; have F1 := Aside0.mk (F0.out.trans hf_); have HO1 := Aside0.mk (hf_.old HO0.out HGO.out); clear hk_ hf_ HR0 F0 HO0; have y0 : w1.cell? ⟨w.heap.size, 0, none⟩ = some _ := blk_cell HO1.out 0; have f0 := blk_frozen HO1.out 0)
  have HO1x := Aside0.mk (show (w1.setCell ⟨w.heap.size, 0, none⟩ (.int .i64 4)).heap[w.heap.size]? = some (.cells #[.int .i64 4, .int .i64 0, .int .i64 0, .int .i64 0, .int .i64 0, .int .i64 0, .int .i64 0, .string ⟨#[]⟩, .string ⟨#[]⟩, .slice none 0 0, .slice none 0 0] 37 (0, 0)) from set_blk HO1.out 0 (.int .i64 4))
  have HR1x := Aside0.mk (show RD (w1.setCell ⟨w.heap.size, 0, none⟩ (.int .i64 4)) g s p1 from keep_set HR1.out HGN.out 0 _)
  have F1x := Aside0.mk (FS.fresh F1.out 0 (.int .i64 4))
  have HL1x := HL1
  clear HO1 HR1 F1 y0 f0
  generalize w1.setCell ⟨w.heap.size, 0, none⟩ (.int .i64 4) = u1 at *
  have k0 : u1.cell? ⟨w.heap.size, 0, none⟩ = some (.int .i64 4) := blk_cell HO1x.out 0
  go_upto_region 7 with (fail)
  cases hp2 : numR s p1 with
  | none =>
    have HP2 := Aside0.mk hp2; clear hp2
    go_wp2_with (first | (go_at_call 96; (with_reducible refine (numr_calls g s p1 _ HR1x.out HL1x.out HS.out).mono ?_); rintro e w2 hx; rw [HP2.out] at hx; obtain ⟨rfl, hf_⟩ := hx; have F2 := Aside0.mk (F1x.out.trans hf_); clear hf_))
    refine ⟨rfl, ?_⟩
    show AfterX g w s p (gaveUp 3) _
    unfold AfterX
    rw [show recR s p = none by rw [HE.out]; simp only [HP2.out, Option.bind_some, Option.bind_none]]
    exact ⟨rfl, F2.out⟩
  | some q_ =>
  obtain ⟨t_, p2⟩ := q_
  have HL2 := Aside0.mk (show p2 ≤ s.size from (rnum_some hp2).2.1)
  have HP2 := Aside0.mk hp2; clear hp2
  cases hp3 : numR s p2 with
  | none =>
    have HP3 := Aside0.mk hp3; clear hp3
    go_wp2_with (first | (go_at_call 96; (with_reducible refine (numr_calls g s p1 _ HR1x.out HL1x.out HS.out).mono ?_); rintro e w2 hx; rw [HP2.out] at hx; obtain ⟨rfl, hk_, hf_⟩ := hx; have HR2 := Aside0.mk hk_; have F2 := Aside0.mk (F1x.out.trans hf_); have HO2 := Aside0.mk (hf_.old HO1x.out HGO.out); clear hk_ hf_ HR1x F1x HO1x) | (go_at_call 96; (with_reducible refine (numr_calls g s p2 _ HR2.out HL2.out HS.out).mono ?_); rintro e w3 hx; rw [HP3.out] at hx; obtain ⟨rfl, hf_⟩ := hx; have F3 := Aside0.mk (F2.out.trans hf_); clear hf_))
    refine ⟨rfl, ?_⟩
    show AfterX g w s p (gaveUp 3) _
    unfold AfterX
    rw [show recR s p = none by rw [HE.out]; simp only [HP2.out, HP3.out, Option.bind_some, Option.bind_none]]
    exact ⟨rfl, F3.out⟩
  | some q_ =>
  obtain ⟨v_, p3⟩ := q_
  have HL3 := Aside0.mk (show p3 ≤ s.size from (rnum_some hp3).2.1)
  have HP3 := Aside0.mk hp3; clear hp3
  go_upto_region 8 with (first | (go_at_call 96; (with_reducible refine (numr_calls g s p1 _ HR1x.out HL1x.out HS.out).mono ?_); rintro e w2 hx; rw [HP2.out] at hx; obtain ⟨rfl, hk_, hf_⟩ := hx; have HR2 := Aside0.mk hk_; have F2 := Aside0.mk (F1x.out.trans hf_); have HO2 := Aside0.mk (hf_.old HO1x.out HGO.out); clear hk_ hf_ HR1x F1x HO1x) | (go_at_call 96; (with_reducible refine (numr_calls g s p2 _ HR2.out HL2.out HS.out).mono ?_); rintro e w3 hx; rw [HP3.out] at hx; obtain ⟨rfl, hk_, hf_⟩ := hx; have HR3 := Aside0.mk hk_; have F3 := Aside0.mk (F2.out.trans hf_); have HO3 := Aside0.mk (hf_.old HO2.out HGO.out); clear hk_ hf_ HR2 F2 HO2; have y1 : w3.cell? ⟨w.heap.size, 1, none⟩ = some _ := blk_cell HO3.out 1; have f1 := blk_frozen HO3.out 1; have y4 : w3.cell? ⟨w.heap.size, 4, none⟩ = some _ := blk_cell HO3.out 4; have f4 := blk_frozen HO3.out 4))
  have HO3x := Aside0.mk (show ((w3.setCell ⟨w.heap.size, 1, none⟩ (.int .i64 t_)).setCell ⟨w.heap.size, 4, none⟩ (.int .i64 v_)).heap[w.heap.size]? = some (.cells #[.int .i64 4, .int .i64 t_, .int .i64 0, .int .i64 0, .int .i64 v_, .int .i64 0, .int .i64 0, .string ⟨#[]⟩, .string ⟨#[]⟩, .slice none 0 0, .slice none 0 0] 37 (0, 0)) from (set_blk (set_blk HO3.out 1 (.int .i64 t_)) 4 (.int .i64 v_)))
  have HR3x := Aside0.mk (show RD ((w3.setCell ⟨w.heap.size, 1, none⟩ (.int .i64 t_)).setCell ⟨w.heap.size, 4, none⟩ (.int .i64 v_)) g s p3 from (keep_set (keep_set HR3.out HGN.out 1 (.int .i64 t_)) HGN.out 4 (.int .i64 v_)))
  have F3x := Aside0.mk (FS.fresh (FS.fresh F3.out 1 (.int .i64 t_)) 4 (.int .i64 v_))
  have HL3x := HL3
  clear HO3 HR3 F3 y1 f1 y4 f4
  generalize (w3.setCell ⟨w.heap.size, 1, none⟩ (.int .i64 t_)).setCell ⟨w.heap.size, 4, none⟩ (.int .i64 v_) = u3 at *
  (try clear k0)
  have k0 : u3.cell? ⟨w.heap.size, 0, none⟩ = some (.int .i64 4) := blk_cell HO3x.out 0
  go_upto_region 11 with (fail)
  clear k0
  obtain ⟨x0, f0, x1, f1, x2, f2, x3, f3, x4, f4, x5, f5, x6, f6, x7, f7, x8, f8, x9, f9, x10, f10⟩ := cellsF11 u3 (w.heap.size) HO3x.out
  have HB_ := HO3x; have HRR := HR3x; have FFF := F3x
  go_wp2
  refine bodyPost_ret (v := .agg #[.int .i64 4, .int .i64 t_, .int .i64 0, .int .i64 0, .int .i64 v_, .int .i64 0, .int .i64 0, .string ⟨#[]⟩, .string ⟨#[]⟩, .slice none 0 0, .slice none 0 0]) (by simp [results, Try.results92, go_sem, x0, x1, x2, x3, x4, x5, x6, x7, x8, x9, x10]) rfl ?_
  show AfterX g w s p _ _
  unfold AfterX
  rw [show recR s p = some ((⟨4, t_, 0, 0, v_, 0, 0, ⟨#[]⟩, ⟨#[]⟩, [], []⟩ : S37), p3) by rw [HE.out]; (try simp only [HP2.out, HP3.out, Option.bind_some])]
  refine ⟨_, _, rfl, Kd.R_nil _ _ _ _ _, Kd.R_nil _ _ _ _ _, ?_, ?_⟩
  · show RD _ g s p3
    repeat (first | (with_reducible refine RD.keep ?_ HGN.out _ _) | (with_reducible exact HRR.out))
  · repeat (first | (with_reducible refine FS.fresh ?_ _ _) | (with_reducible exact FFF.out))
end Go.Proofs.Ytbnglmeljbiglaa.Wr
set_option maxRecDepth 8192
namespace Go.Proofs.Ytbnglmeljbiglaa.Pt
open Go Go.RowKit Go.Proofs.YtbnglmeljbiglaaW.PrintWords Go.Proofs.Ytbnglmeljbiglaa.X4 Go.Proofs.Ytbnglmeljbiglaa.Rp Go.Proofs.Ytbnglmeljbiglaa.Wr
set_option linter.unusedVariables false
set_option linter.unusedSimpArgs false
theorem cat_eq {a b : Option (List UInt8)} {c : List UInt8} (h : cat a b = some c) : ∃ x y, a = some x ∧ b = some y ∧ c = x ++ y := by
  cases a with
  | none => cases h
  | some x =>
    cases b with
    | none => cases h
    | some y => exact ⟨x, y, rfl, rfl, (Option.some.inj h).symm⟩
theorem small_eq2 {n m : Int} {bs : List UInt8} (h : smallP n m = some bs) : 0 ≤ n ∧ n ≤ m ∧ bs = [b8 n] := by
  unfold smallP at h
  split at h
  · rename_i c; exact ⟨c.1, c.2, (Option.some.inj h).symm⟩
  · cases h
theorem num_eq2 {n : Int} {bs : List UInt8} (h : numP [n] = some bs) : isNum n = true ∧ bs = four n := by
  unfold numP at h
  split at h
  · rename_i c
    simp at c
    exact ⟨c, by simpa using (Option.some.inj h).symm⟩
  · cases h
theorem num_eq3 {n m : Int} {bs : List UInt8} (h : numP [n, m] = some bs) : isNum n = true ∧ isNum m = true ∧ bs = four n ++ four m := by
  unfold numP at h
  split at h
  · rename_i c
    simp at c
    exact ⟨c.1, c.2, by simpa using (Option.some.inj h).symm⟩
  · cases h
theorem txn_eq2 {n : Int} {bs : List UInt8} (h : txnP n = some bs) : 1 ≤ n ∧ isNum n = true ∧ bs = four n := by
  unfold txnP at h
  split at h
  · rename_i c; exact ⟨c, num_eq2 h⟩
  · cases h
/-- At place p of s stand these bytes. -/
def At (s : ByteArray) (p : Nat) (l : List UInt8) : Prop := p + l.length ≤ s.size ∧ (s.data.toList.drop p).take l.length = l
theorem at_append {s : ByteArray} {p : Nat} {a b : List UInt8} : At s p (a ++ b) ↔ At s p a ∧ At s (p + a.length) b := by
  unfold At
  rw [List.length_append]
  constructor
  · rintro ⟨h1, h2⟩
    have h3 := congrArg (List.take a.length) h2
    have h4 := congrArg (List.drop a.length) h2
    rw [List.take_take, Nat.min_eq_left (by omega), List.take_left] at h3
    rw [List.drop_take, List.drop_drop, List.drop_left, Nat.add_sub_cancel_left] at h4
    exact ⟨⟨by omega, h3⟩, by omega, h4⟩
  · rintro ⟨⟨h1, h2⟩, h3, h4⟩
    refine ⟨by omega, ?_⟩
    rw [List.take_add, h2, List.drop_drop, h4]
theorem len_eq (s : ByteArray) : s.data.toList.length = s.size := by rw [Array.length_toList]; rfl
theorem bt_at2 {s : ByteArray} {i : Nat} {x : UInt8} (h : s.data.toList[i]? = some x) : bt s (i : Int) = (x.toNat : Int) := by
  have hi : i < s.size := by
    rw [← len_eq]
    exact (List.getElem?_eq_some_iff.1 h).1
  have := bt_at s (i : Int) (by simpa using hi)
  rw [← this]
  have h2 : s.data.toList[i]? = some (s[i]'hi) := by
    rw [List.getElem?_eq_getElem (by rw [len_eq]; exact hi)]
    rfl
  rw [h] at h2
  simp only [Int.toNat_natCast]
  rw [Option.some.inj h2]
theorem ext_list (s : ByteArray) (a b : Nat) : (s.extract a b).data.toList = (s.data.toList.drop a).take (b - a) := by simp
theorem take_of_at {s : ByteArray} {p : Nat} {l : List UInt8} (h : At s p l) : takeR s p l.length = some (⟨l.toArray⟩, p + l.length) := by
  unfold takeR
  rw [if_pos h.1]
  have e : s.extract p (p + l.length) = ⟨l.toArray⟩ := by
    apply ByteArray.ext
    apply Array.toList_inj.1
    rw [ext_list, Nat.add_sub_cancel_left, h.2]
  rw [e]
theorem at_of_take {s : ByteArray} {p n : Nat} {b : ByteArray} {q : Nat} (h : takeR s p n = some (b, q)) : At s p b.data.toList ∧ q = p + n ∧ b.size = n := by
  have hs := take_size h
  unfold takeR at h
  split at h
  · rename_i c
    simp only [Option.some.injEq, Prod.mk.injEq] at h
    obtain ⟨h1, h2⟩ := h
    subst h1
    refine ⟨⟨by rw [len_eq]; omega, ?_⟩, by omega, hs.1⟩
    rw [len_eq, ext_list, Nat.add_sub_cancel_left, hs.1]
  · cases h
theorem b8_id (v : Int) (x : UInt8) (h : v = (x.toNat : Int)) : b8 v = x := by
  subst h
  unfold b8
  have := x.toNat_lt
  rw [show ((x.toNat : Int) % 256).toNat = x.toNat by omega]
  exact UInt8.ofNat_toNat
theorem small_of_at {s : ByteArray} {p : Nat} {n : Int} (h0 : 0 ≤ n) (h1 : n ≤ 255) (h : At s p [b8 n]) : smallR s p = some (n, p + 1) := by
  unfold smallR
  have ht := take_of_at h
  simp only [List.length_cons, List.length_nil, Nat.zero_add] at ht
  rw [ht]
  have hb : bt (⟨[b8 n].toArray⟩ : ByteArray) 0 = n := by
    have := bt_at2 (s := ⟨[b8 n].toArray⟩) (i := 0) (x := b8 n) rfl
    rw [show ((0 : Nat) : Int) = 0 from rfl] at this
    rw [this, b8_nat]
    omega
  simp only [Option.map_some, hb]
theorem at_of_small {s : ByteArray} {p : Nat} {v : Int} {q : Nat} (h : smallR s p = some (v, q)) : 0 ≤ v ∧ v ≤ 255 ∧ At s p [b8 v] ∧ q = p + 1 := by
  have h2 := small_some h
  unfold smallR at h
  cases h1 : takeR s p 1 with
  | none => rw [h1] at h; cases h
  | some b =>
    obtain ⟨b, q'⟩ := b
    rw [h1] at h
    simp only [Option.map_some, Option.some.injEq, Prod.mk.injEq] at h
    obtain ⟨rfl, rfl⟩ := h
    obtain ⟨ha, hq, hb⟩ := at_of_take h1
    refine ⟨h2.2.2.1, h2.2.2.2, ?_, hq⟩
    have hl : b.data.toList.length = 1 := by rw [len_eq, hb]
    obtain ⟨x, hx⟩ := List.length_eq_one_iff.1 hl
    have := bt_at2 (s := b) (i := 0) (x := x) (by rw [hx]; rfl)
    rw [show ((0 : Nat) : Int) = 0 from rfl] at this
    rw [hx] at ha
    rwa [b8_id _ x this]
theorem four_len (n : Int) : (four n).length = 4 := rfl
theorem num_of_at {s : ByteArray} {p : Nat} {n : Int} (hn : isNum n = true) (h : At s p (four n)) : numR s p = some (n, p + 4) := by
  have hn := (isNum_iff n).1 hn
  unfold numR
  have ht := take_of_at h
  rw [four_len] at ht
  rw [ht]
  have e : ∀ (i : Nat) (x : UInt8), (four n)[i]? = some x → bt (⟨(four n).toArray⟩ : ByteArray) (i : Int) = (x.toNat : Int) := fun i x hx => bt_at2 (by simpa using hx)
  have e0 := e 0 _ rfl; have e1 := e 1 _ rfl; have e2 := e 2 _ rfl; have e3 := e 3 _ rfl
  rw [b8_nat] at e0 e1 e2 e3
  have e0 : bt (⟨(four n).toArray⟩ : ByteArray) 0 = n / 16777216 % 256 := e0
  have e1 : bt (⟨(four n).toArray⟩ : ByteArray) 1 = n / 65536 % 256 := e1
  have e2 : bt (⟨(four n).toArray⟩ : ByteArray) 2 = n / 256 % 256 := e2
  have e3 : bt (⟨(four n).toArray⟩ : ByteArray) 3 = n % 256 := e3
  simp only [Option.map_some]
  unfold num4
  rw [e0, e1, e2, e3]
  congr 2
  omega
theorem at_of_num {s : ByteArray} {p : Nat} {v : Int} {q : Nat} (h : numR s p = some (v, q)) : At s p (four v) ∧ q = p + 4 ∧ 0 ≤ v := by
  unfold numR at h
  cases h1 : takeR s p 4 with
  | none => rw [h1] at h; cases h
  | some b =>
    obtain ⟨b, q'⟩ := b
    rw [h1] at h
    simp only [Option.map_some, Option.some.injEq, Prod.mk.injEq] at h
    obtain ⟨rfl, rfl⟩ := h
    obtain ⟨ha, hq, hb⟩ := at_of_take h1
    have hl : b.data.toList.length = 4 := by rw [len_eq, hb]
    obtain ⟨x, y, z, u, hx⟩ : ∃ x y z u, b.data.toList = [x, y, z, u] := by
      match hh : b.data.toList, hl with
      | [x, y, z, u], _ => exact ⟨x, y, z, u, rfl⟩
    have e : ∀ (i : Nat) (x : UInt8), b.data.toList[i]? = some x → bt b (i : Int) = (x.toNat : Int) := fun i x hx => bt_at2 hx
    have e0 : bt b 0 = (x.toNat : Int) := e 0 x (by rw [hx]; rfl)
    have e1 : bt b 1 = (y.toNat : Int) := e 1 y (by rw [hx]; rfl)
    have e2 : bt b 2 = (z.toNat : Int) := e 2 z (by rw [hx]; rfl)
    have e3 : bt b 3 = (u.toNat : Int) := e 3 u (by rw [hx]; rfl)
    have hx0 := x.toNat_lt; have hy0 := y.toNat_lt; have hz0 := z.toNat_lt; have hu0 := u.toNat_lt
    refine ⟨?_, hq, by unfold num4; omega⟩
    rw [hx] at ha
    have key : four (num4 b) = [x, y, z, u] := by
      unfold four num4
      rw [e0, e1, e2, e3]
      have b8m : ∀ (v : Int) (c : UInt8), v % 256 = (c.toNat : Int) → b8 v = c := fun v c hv => by
        rw [show b8 v = b8 (v % 256) by unfold b8; rw [Int.emod_emod_of_dvd v (by decide)]]
        exact b8_id _ c hv
      rw [b8m _ x (by omega), b8m _ y (by omega), b8m _ z (by omega), b8m _ u (by omega)]
    rwa [key]
theorem at_nil (s : ByteArray) (p : Nat) (h : p ≤ s.size) : At s p [] := ⟨by simpa using h, by simp⟩
/-- A row of the tables. -/
theorem rowT_of_at {s : ByteArray} {p : Nat} {x : S107} {bs : List UInt8} (hb : rowT x = some bs) (h : At s p bs) : rowT1 s p = some (x, p + 12) ∧ bs.length = 12 := by
  unfold rowT at hb
  obtain ⟨a, b, ha, hb', rfl⟩ := cat_eq hb
  obtain ⟨h1, h2, rfl⟩ := txn_eq2 ha
  obtain ⟨h3, h4, rfl⟩ := num_eq3 hb'
  rw [at_append, at_append] at h
  obtain ⟨k1, k2, k3⟩ := h
  have n1 := num_of_at h2 k1
  have n2 := num_of_at h3 k2
  have n3 := num_of_at h4 k3
  rw [four_len] at n2 n3
  rw [four_len] at n3
  refine ⟨?_, by simp [four_len]⟩
  unfold rowT1
  simp only [n1, n2, n3, Option.bind_some]
theorem rowQ_of_at {s : ByteArray} {p : Nat} {x : S109} {bs : List UInt8} (hb : rowQ x = some bs) (h : At s p bs) : rowQ1 s p = some (x, p + 5) ∧ bs.length = 5 := by
  unfold rowQ at hb
  obtain ⟨a, b, ha, hb', rfl⟩ := cat_eq hb
  obtain ⟨h1, h2, rfl⟩ := small_eq2 ha
  obtain ⟨h3, rfl⟩ := num_eq2 hb'
  rw [at_append] at h
  obtain ⟨k1, k2⟩ := h
  have n1 := small_of_at h1 (by omega) k1
  have n2 := num_of_at h3 k2
  simp only [List.length_cons, List.length_nil, Nat.zero_add] at n2
  refine ⟨?_, by simp [four_len]⟩
  unfold rowQ1
  simp only [n1, n2, Option.bind_some]
theorem rowT_to_at {s : ByteArray} {p : Nat} {x : S107} {q : Nat} {bs : List UInt8} (h : rowT1 s p = some (x, q)) (hb : rowT x = some bs) : At s p bs ∧ q = p + 12 := by
  unfold rowT1 at h
  simp only [Option.bind_eq_some_iff] at h
  obtain ⟨⟨a, pa⟩, ha, ⟨b, pb⟩, hb2, ⟨c, pc⟩, hc, h⟩ := h
  simp only [Option.some.injEq, Prod.mk.injEq] at h
  obtain ⟨rfl, rfl⟩ := h
  unfold rowT at hb
  obtain ⟨u, v, hu, hv, rfl⟩ := cat_eq hb
  obtain ⟨-, -, rfl⟩ := txn_eq2 hu
  obtain ⟨-, -, rfl⟩ := num_eq3 hv
  obtain ⟨k1, e1, -⟩ := at_of_num ha
  obtain ⟨k2, e2, -⟩ := at_of_num hb2
  obtain ⟨k3, e3, -⟩ := at_of_num hc
  simp only at e1 e2 e3 k1 k2 k3 ⊢
  subst e1; subst e2
  exact ⟨at_append.2 ⟨k1, at_append.2 ⟨k2, k3⟩⟩, e3⟩
theorem rowQ_to_at {s : ByteArray} {p : Nat} {x : S109} {q : Nat} {bs : List UInt8} (h : rowQ1 s p = some (x, q)) (hb : rowQ x = some bs) : At s p bs ∧ q = p + 5 := by
  unfold rowQ1 at h
  simp only [Option.bind_eq_some_iff] at h
  obtain ⟨⟨a, pa⟩, ha, ⟨b, pb⟩, hb2, h⟩ := h
  simp only [Option.some.injEq, Prod.mk.injEq] at h
  obtain ⟨rfl, rfl⟩ := h
  unfold rowQ at hb
  obtain ⟨u, v, hu, hv, rfl⟩ := cat_eq hb
  obtain ⟨-, -, rfl⟩ := small_eq2 hu
  obtain ⟨-, rfl⟩ := num_eq2 hv
  obtain ⟨-, -, k1, e1⟩ := at_of_small ha
  obtain ⟨k2, e2, -⟩ := at_of_num hb2
  simp only at e1 e2 k1 k2 ⊢
  subst e1
  exact ⟨at_append.2 ⟨k1, k2⟩, e2⟩
theorem join_snoc {α : Type} {f : α → Option (List UInt8)} {t : List α} {x : α} {bs : List UInt8} (h : joinP ((t ++ [x]).map f) = some bs) : ∃ u v, joinP (t.map f) = some u ∧ f x = some v ∧ bs = u ++ v := by
  rw [List.map_append, join_append] at h
  obtain ⟨u, v, hu, hv, rfl⟩ := cat_eq h
  simp only [List.map_cons, List.map_nil, joinP] at hv
  obtain ⟨y, z, hy, hz, rfl⟩ := cat_eq hv
  injection hz with hz
  subst hz
  exact ⟨u, y, hu, hy, by simp⟩
theorem rowsT_of_at {s : ByteArray} {p : Nat} (l : List S107) : ∀ {bs : List UInt8}, joinP (l.map rowT) = some bs → At s p bs → rowsT s l.length p = some (l, p + 12 * l.length) ∧ bs.length = 12 * l.length := by
  have key : ∀ (m : List S107) {bs : List UInt8}, joinP (m.reverse.map rowT) = some bs → At s p bs → rowsT s m.reverse.length p = some (m.reverse, p + 12 * m.reverse.length) ∧ bs.length = 12 * m.reverse.length := fun m => by
    induction m with
    | nil =>
      intro bs h _
      injection h with h
      subst h
      exact ⟨rfl, rfl⟩
    | cons x t ih =>
      intro bs h hat
      rw [List.reverse_cons] at h ⊢
      obtain ⟨u, v, hu, hv, rfl⟩ := join_snoc h
      obtain ⟨k1, k2⟩ := at_append.1 hat
      obtain ⟨i1, i2⟩ := ih hu k1
      rw [i2] at k2
      obtain ⟨r1, r2⟩ := rowT_of_at hv k2
      refine ⟨?_, by rw [List.length_append, List.length_append, i2, r2]; simp; omega⟩
      rw [List.length_append]
      simp only [List.length_cons, List.length_nil, rowsT, i1, Option.bind_some, r1, Option.some.injEq, Prod.mk.injEq, true_and]
      omega
  intro bs h hat
  have := key l.reverse (bs := bs) (by rwa [List.reverse_reverse]) hat
  rwa [List.reverse_reverse] at this
theorem rowsQ_of_at {s : ByteArray} {p : Nat} (l : List S109) : ∀ {bs : List UInt8}, joinP (l.map rowQ) = some bs → At s p bs → rowsQ s l.length p = some (l, p + 5 * l.length) ∧ bs.length = 5 * l.length := by
  have key : ∀ (m : List S109) {bs : List UInt8}, joinP (m.reverse.map rowQ) = some bs → At s p bs → rowsQ s m.reverse.length p = some (m.reverse, p + 5 * m.reverse.length) ∧ bs.length = 5 * m.reverse.length := fun m => by
    induction m with
    | nil =>
      intro bs h _
      injection h with h
      subst h
      exact ⟨rfl, rfl⟩
    | cons x t ih =>
      intro bs h hat
      rw [List.reverse_cons] at h ⊢
      obtain ⟨u, v, hu, hv, rfl⟩ := join_snoc h
      obtain ⟨k1, k2⟩ := at_append.1 hat
      obtain ⟨i1, i2⟩ := ih hu k1
      rw [i2] at k2
      obtain ⟨r1, r2⟩ := rowQ_of_at hv k2
      refine ⟨?_, by rw [List.length_append, List.length_append, i2, r2]; simp; omega⟩
      rw [List.length_append]
      simp only [List.length_cons, List.length_nil, rowsQ, i1, Option.bind_some, r1, Option.some.injEq, Prod.mk.injEq, true_and]
      omega
  intro bs h hat
  have := key l.reverse (bs := bs) (by rwa [List.reverse_reverse]) hat
  rwa [List.reverse_reverse] at this
theorem rowsT_to_at {s : ByteArray} {p : Nat} (n : Nat) : ∀ {l : List S107} {q : Nat} {bs : List UInt8}, p ≤ s.size → rowsT s n p = some (l, q) → joinP (l.map rowT) = some bs → At s p bs ∧ q = p + 12 * n ∧ l.length = n ∧ bs.length = 12 * n := by
  induction n with
  | zero =>
    intro l q bs hp h hj
    simp only [rowsT, Option.some.injEq, Prod.mk.injEq] at h
    obtain ⟨rfl, rfl⟩ := h
    injection hj with hj
    subst hj
    exact ⟨at_nil s p hp, rfl, rfl, rfl⟩
  | succ n ih =>
    intro l q bs hp h hj
    simp only [rowsT, Option.bind_eq_some_iff] at h
    obtain ⟨⟨l0, q0⟩, h0, ⟨x, q1⟩, h1, h⟩ := h
    simp only [Option.some.injEq, Prod.mk.injEq] at h h1
    obtain ⟨rfl, rfl⟩ := h
    obtain ⟨u, v, hu, hv, rfl⟩ := join_snoc hj
    obtain ⟨k1, k2, k3, k4⟩ := ih hp h0 hu
    subst k2
    obtain ⟨r1, r2⟩ := rowT_to_at h1 hv
    have r3 : v.length = 12 := (rowT_of_at hv r1).2
    refine ⟨at_append.2 ⟨k1, by rw [k4]; exact r1⟩, by omega, by rw [List.length_append, k3]; rfl, by rw [List.length_append, k4, r3]; omega⟩
theorem rowsQ_to_at {s : ByteArray} {p : Nat} (n : Nat) : ∀ {l : List S109} {q : Nat} {bs : List UInt8}, p ≤ s.size → rowsQ s n p = some (l, q) → joinP (l.map rowQ) = some bs → At s p bs ∧ q = p + 5 * n ∧ l.length = n ∧ bs.length = 5 * n := by
  induction n with
  | zero =>
    intro l q bs hp h hj
    simp only [rowsQ, Option.some.injEq, Prod.mk.injEq] at h
    obtain ⟨rfl, rfl⟩ := h
    injection hj with hj
    subst hj
    exact ⟨at_nil s p hp, rfl, rfl, rfl⟩
  | succ n ih =>
    intro l q bs hp h hj
    simp only [rowsQ, Option.bind_eq_some_iff] at h
    obtain ⟨⟨l0, q0⟩, h0, ⟨x, q1⟩, h1, h⟩ := h
    simp only [Option.some.injEq, Prod.mk.injEq] at h h1
    obtain ⟨rfl, rfl⟩ := h
    obtain ⟨u, v, hu, hv, rfl⟩ := join_snoc hj
    obtain ⟨k1, k2, k3, k4⟩ := ih hp h0 hu
    subst k2
    obtain ⟨r1, r2⟩ := rowQ_to_at h1 hv
    have r3 : v.length = 5 := (rowQ_of_at hv r1).2
    refine ⟨at_append.2 ⟨k1, by rw [k4]; exact r1⟩, by omega, by rw [List.length_append, k3]; rfl, by rw [List.length_append, k4, r3]; omega⟩
end Go.Proofs.Ytbnglmeljbiglaa.Pt
set_option maxRecDepth 8192
namespace Go.Proofs.Ytbnglmeljbiglaa.Pt
open Go Go.RowKit Go.Proofs.YtbnglmeljbiglaaW.PrintWords Go.Proofs.Ytbnglmeljbiglaa.X4 Go.Proofs.Ytbnglmeljbiglaa.Rp Go.Proofs.Ytbnglmeljbiglaa.Wr
set_option linter.unusedVariables false
set_option linter.unusedSimpArgs false
theorem rec_cut {r : S37} {bs : List UInt8} (h : recP r = some bs) : 0 ≤ r.f0 ∧ r.f0 ≤ 6 ∧ ∃ b, bodyP r = some b ∧ bs = b8 r.f0 :: b := by
  unfold recP at h
  obtain ⟨x, y, hx, hy, rfl⟩ := cat_eq h
  obtain ⟨h1, h2, rfl⟩ := small_eq2 hx
  exact ⟨h1, h2, y, hy, rfl⟩
theorem body1 {r : S37} {b : List UInt8} (e : r.f0 = 1) (h : bodyP r = some b) : (1 ≤ r.f1 ∧ isNum r.f1 = true) ∧ isNum r.f4 = true ∧ (0 ≤ r.f2 ∧ r.f2 ≤ 7) ∧ (0 ≤ r.f3 ∧ r.f3 ≤ 220 - min (r.f8.size : Int) 220) ∧ (1 ≤ (r.f8.size : Int) ∧ (r.f8.size : Int) ≤ 16) ∧ r.f7.size = r.f8.size ∧ b = four r.f1 ++ (four r.f4 ++ (([b8 r.f2] ++ ([b8 r.f3] ++ [b8 (r.f8.size : Int)])) ++ (r.f7.data.toList ++ r.f8.data.toList))) := by
  unfold bodyP at h
  rw [if_pos e] at h
  obtain ⟨x1, y1, h1, k1, rfl⟩ := cat_eq h
  obtain ⟨x2, y2, h2, k2, rfl⟩ := cat_eq k1
  obtain ⟨x3, y3, h3, k3, rfl⟩ := cat_eq k2
  obtain ⟨t1, t2, rfl⟩ := txn_eq2 h1
  obtain ⟨t3, rfl⟩ := num_eq2 h2
  split at k3
  · rename_i c
    injection k3 with k3
    subst k3
    unfold placeP at h3
    split at h3
    · rename_i c1
      obtain ⟨x4, y4, h4, k4, rfl⟩ := cat_eq h3
      obtain ⟨x5, y5, h5, k5, rfl⟩ := cat_eq k4
      obtain ⟨q1, q2, rfl⟩ := small_eq2 h4
      obtain ⟨q3, q4, rfl⟩ := small_eq2 h5
      obtain ⟨q5, q6, rfl⟩ := small_eq2 k5
      exact ⟨⟨t1, t2⟩, t3, ⟨q1, q2⟩, ⟨q3, q4⟩, ⟨c1, q6⟩, c, rfl⟩
    · cases h3
  · cases k3
theorem body2 {r : S37} {b : List UInt8} (e : r.f0 = 2) (h : bodyP r = some b) : (1 ≤ r.f1 ∧ isNum r.f1 = true) ∧ isNum r.f4 = true ∧ isNum r.f5 = true ∧ (0 ≤ r.f2 ∧ r.f2 ≤ 7) ∧ (0 ≤ r.f3 ∧ r.f3 ≤ 220 - min (r.f8.size : Int) 220) ∧ (1 ≤ (r.f8.size : Int) ∧ (r.f8.size : Int) ≤ 16) ∧ b = four r.f1 ++ ((four r.f4 ++ four r.f5) ++ (([b8 r.f2] ++ ([b8 r.f3] ++ [b8 (r.f8.size : Int)])) ++ r.f8.data.toList)) := by
  unfold bodyP at h
  rw [if_neg (by omega), if_pos e] at h
  obtain ⟨x1, y1, h1, k1, rfl⟩ := cat_eq h
  obtain ⟨x2, y2, h2, k2, rfl⟩ := cat_eq k1
  obtain ⟨x3, y3, h3, k3, rfl⟩ := cat_eq k2
  obtain ⟨t1, t2, rfl⟩ := txn_eq2 h1
  obtain ⟨t3, t4, rfl⟩ := num_eq3 h2
  injection k3 with k3
  subst k3
  unfold placeP at h3
  split at h3
  · rename_i c1
    obtain ⟨x4, y4, h4, k4, rfl⟩ := cat_eq h3
    obtain ⟨x5, y5, h5, k5, rfl⟩ := cat_eq k4
    obtain ⟨q1, q2, rfl⟩ := small_eq2 h4
    obtain ⟨q3, q4, rfl⟩ := small_eq2 h5
    obtain ⟨q5, q6, rfl⟩ := small_eq2 k5
    exact ⟨⟨t1, t2⟩, t3, t4, ⟨q1, q2⟩, ⟨q3, q4⟩, ⟨c1, q6⟩, rfl⟩
  · cases h3
theorem body3 {r : S37} {b : List UInt8} (e : r.f0 = 3 ∨ r.f0 = 4) (h : bodyP r = some b) : (1 ≤ r.f1 ∧ isNum r.f1 = true) ∧ isNum r.f4 = true ∧ b = four r.f1 ++ four r.f4 := by
  unfold bodyP at h
  rw [if_neg (by omega), if_neg (by omega), if_pos e] at h
  obtain ⟨x1, y1, h1, k1, rfl⟩ := cat_eq h
  obtain ⟨t1, t2, rfl⟩ := txn_eq2 h1
  obtain ⟨t3, rfl⟩ := num_eq2 k1
  exact ⟨⟨t1, t2⟩, t3, rfl⟩
theorem body6 {r : S37} {b : List UInt8} (e : r.f0 = 6) (h : bodyP r = some b) : isNum r.f6 = true ∧ r.f9.length ≤ 4 ∧ r.f10.length ≤ 8 ∧ ∃ bt bq, joinP (r.f9.map rowT) = some bt ∧ joinP (r.f10.map rowQ) = some bq ∧ b = four r.f6 ++ ([b8 (r.f9.length : Int)] ++ (bt ++ ([b8 (r.f10.length : Int)] ++ bq))) := by
  unfold bodyP at h
  rw [if_neg (by omega), if_neg (by omega), if_neg (by omega), if_neg (by omega), if_pos e] at h
  unfold tablesP at h
  obtain ⟨x1, y1, h1, k1, rfl⟩ := cat_eq h
  obtain ⟨x2, y2, h2, k2, rfl⟩ := cat_eq k1
  obtain ⟨x3, y3, h3, k3, rfl⟩ := cat_eq k2
  obtain ⟨x4, y4, h4, k4, rfl⟩ := cat_eq k3
  obtain ⟨t1, rfl⟩ := num_eq2 h1
  obtain ⟨q1, q2, rfl⟩ := small_eq2 h2
  obtain ⟨q3, q4, rfl⟩ := small_eq2 h4
  exact ⟨t1, by omega, by omega, x3, y4, h3, k4, rfl⟩
theorem take_of_at' {s : ByteArray} {p n : Nat} {b : ByteArray} (h : At s p b.data.toList) (hn : b.size = n) : takeR s p n = some (b, p + n) := by
  have := take_of_at h
  rw [len_eq, hn] at this
  rw [this]
/-- What is printed is read. -/
theorem rec_of_at {s : ByteArray} {p : Nat} {r : S37} {bs : List UInt8} (h : recP r = some bs) (ho : ownR r = r) (hs : At s p bs) : recR s p = some (r, p + bs.length) := by
  obtain ⟨k0, k6, b, hb, rfl⟩ := rec_cut h
  obtain ⟨a1, a2⟩ := (at_append (a := [b8 r.f0])).1 hs
  have n0 := small_of_at k0 (by omega) a1
  unfold recR
  rw [n0, Option.bind_some]
  have ho2 := ho
  unfold ownR at ho2
  by_cases e1 : r.f0 = 1
  · obtain ⟨⟨c1, c2⟩, c3, ⟨c4, c5⟩, ⟨c6, c7⟩, ⟨c8, c9⟩, c10, rfl⟩ := body1 e1 hb
    obtain ⟨d1, a2⟩ := at_append.1 a2
    obtain ⟨d2, a2⟩ := at_append.1 a2
    obtain ⟨a3, a2⟩ := at_append.1 a2
    obtain ⟨d3, a3⟩ := at_append.1 a3
    obtain ⟨d4, d5⟩ := at_append.1 a3
    obtain ⟨d6, d7⟩ := at_append.1 a2
    have m1 : numR s (p + 1) = some (r.f1, p + 5) := num_of_at c2 d1
    have m2 : numR s (p + 5) = some (r.f4, p + 9) := num_of_at c3 d2
    have m3 : smallR s (p + 9) = some (r.f2, p + 10) := small_of_at c4 (by omega) d3
    have m4 : smallR s (p + 10) = some (r.f3, p + 11) := small_of_at c6 (by omega) d4
    have m5 : smallR s (p + 11) = some ((r.f8.size : Int), p + 12) := small_of_at (by omega) (by omega) d5
    have m6 : takeR s (p + 12) r.f8.size = some (r.f7, p + 12 + r.f8.size) := take_of_at' d6 c10
    have m7 : takeR s (p + 12 + r.f8.size) r.f8.size = some (r.f8, p + 12 + r.f8.size + r.f8.size) := by
      refine take_of_at' ?_ rfl
      rw [len_eq, c10] at d7
      exact d7
    rw [if_pos e1] at ho2 ⊢
    simp only [m1, m2, m3, m4, m5, Option.bind_some, Int.toNat_natCast, m6, m7, ho2]
    simp only [List.length_cons, List.length_append, four_len, List.length_nil, len_eq, c10, Option.some.injEq, Prod.mk.injEq, true_and]
    omega
  by_cases e2 : r.f0 = 2
  · obtain ⟨⟨c1, c2⟩, c3, c3b, ⟨c4, c5⟩, ⟨c6, c7⟩, ⟨c8, c9⟩, rfl⟩ := body2 e2 hb
    obtain ⟨d1, a2⟩ := at_append.1 a2
    obtain ⟨d2, a2⟩ := at_append.1 a2
    obtain ⟨d2, d2b⟩ := at_append.1 d2
    obtain ⟨a3, d6⟩ := at_append.1 a2
    obtain ⟨d3, a3⟩ := at_append.1 a3
    obtain ⟨d4, d5⟩ := at_append.1 a3
    have m1 : numR s (p + 1) = some (r.f1, p + 5) := num_of_at c2 d1
    have m2 : numR s (p + 5) = some (r.f4, p + 9) := num_of_at c3 d2
    have m2b : numR s (p + 9) = some (r.f5, p + 13) := num_of_at c3b d2b
    have m3 : smallR s (p + 13) = some (r.f2, p + 14) := small_of_at c4 (by omega) d3
    have m4 : smallR s (p + 14) = some (r.f3, p + 15) := small_of_at c6 (by omega) d4
    have m5 : smallR s (p + 15) = some ((r.f8.size : Int), p + 16) := small_of_at (by omega) (by omega) d5
    have m6 : takeR s (p + 16) r.f8.size = some (r.f8, p + 16 + r.f8.size) := take_of_at' d6 rfl
    rw [if_neg e1, if_pos e2] at ho2 ⊢
    simp only [m1, m2, m2b, m3, m4, m5, Option.bind_some, Int.toNat_natCast, m6, ho2]
    simp only [List.length_cons, List.length_append, four_len, List.length_nil, len_eq, Option.some.injEq, Prod.mk.injEq, true_and]
    omega
  by_cases e3 : r.f0 = 3 ∨ r.f0 = 4
  · obtain ⟨⟨c1, c2⟩, c3, rfl⟩ := body3 e3 hb
    obtain ⟨d1, d2⟩ := at_append.1 a2
    have m1 : numR s (p + 1) = some (r.f1, p + 5) := num_of_at c2 d1
    have m2 : numR s (p + 5) = some (r.f4, p + 9) := num_of_at c3 d2
    rw [if_neg e1, if_neg e2, if_pos e3] at ho2 ⊢
    simp only [List.length_cons, List.length_nil, Nat.zero_add, m1, m2, Option.bind_some, ho2]
    simp only [List.length_append, four_len, Option.some.injEq, Prod.mk.injEq, true_and]
  by_cases e6 : r.f0 = 6
  · obtain ⟨c1, c2, c3, bt, bq, c4, c5, rfl⟩ := body6 e6 hb
    obtain ⟨d1, a2⟩ := at_append.1 a2
    obtain ⟨d2, a2⟩ := at_append.1 a2
    obtain ⟨d3, a2⟩ := at_append.1 a2
    obtain ⟨d4, d5⟩ := at_append.1 a2
    have m1 : numR s (p + 1) = some (r.f6, p + 5) := num_of_at c1 d1
    have m2 : smallR s (p + 5) = some ((r.f9.length : Int), p + 6) := small_of_at (by omega) (by omega) d2
    have m3 : rowsT s r.f9.length (p + 6) = some (r.f9, p + 6 + 12 * r.f9.length) := (rowsT_of_at _ c4 d3).1
    have l3 := (rowsT_of_at _ c4 d3).2
    rw [l3] at d4 d5
    have m4 : smallR s (p + 6 + 12 * r.f9.length) = some ((r.f10.length : Int), p + 6 + 12 * r.f9.length + 1) := small_of_at (by omega) (by omega) d4
    have m5 : rowsQ s r.f10.length (p + 6 + 12 * r.f9.length + 1) = some (r.f10, p + 6 + 12 * r.f9.length + 1 + 5 * r.f10.length) := (rowsQ_of_at _ c5 d5).1
    have l5 := (rowsQ_of_at _ c5 d5).2
    rw [if_neg e1, if_neg e2, if_neg e3, if_pos e6] at ho2 ⊢
    simp only [List.length_cons, List.length_nil, Nat.zero_add, m1, m2, m3, m4, m5, Option.bind_some, Int.toNat_natCast, ho2]
    simp only [List.length_cons, List.length_append, four_len, List.length_nil, l3, l5, Option.some.injEq, Prod.mk.injEq, true_and]
    omega
  · rw [if_neg e1, if_neg e2, if_neg e3, if_neg e6] at ho2 ⊢
    have hb5 : b = [] := by
      unfold bodyP at hb
      rw [if_neg e1, if_neg e2, if_neg e3] at hb
      split at hb
      · injection hb with hb; exact hb.symm
      · simp [e6] at hb
    subst hb5
    simp only [List.length_cons, List.length_nil, ho2]
/-- What is read stands there. -/
theorem rec_to_at {s : ByteArray} {p : Nat} {r : S37} {q : Nat} {bs : List UInt8} (h : recR s p = some (r, q)) (hb : recP r = some bs) : At s p bs ∧ q = p + bs.length := by
  obtain ⟨k0, k6, b, hc, rfl⟩ := rec_cut hb
  clear hb
  unfold recR at h
  obtain ⟨⟨v, p1⟩, h0, h⟩ := Option.bind_eq_some_iff.1 h
  obtain ⟨_, _, x0, rfl⟩ := at_of_small h0
  by_cases e1 : v = 1
  · subst e1
    rw [if_pos rfl] at h
    simp only [Option.bind_eq_some_iff] at h
    obtain ⟨⟨t, p2⟩, h1, ⟨pv, p3⟩, h2, ⟨pg, p4⟩, h3, ⟨o, p5⟩, h4, ⟨n, p6⟩, h5, ⟨be, p7⟩, h6, ⟨af, p8⟩, h7, h⟩ := h
    simp only [Option.some.injEq, Prod.mk.injEq] at h h1 h2 h3 h4 h5 h6 h7
    obtain ⟨rfl, rfl⟩ := h
    obtain ⟨-, -, -, -, -, -, rfl⟩ := body1 rfl hc
    obtain ⟨x1, rfl, -⟩ := at_of_num h1
    obtain ⟨x2, rfl, -⟩ := at_of_num h2
    obtain ⟨-, -, x3, rfl⟩ := at_of_small h3
    obtain ⟨-, -, x4, rfl⟩ := at_of_small h4
    obtain ⟨hn, -, x5, rfl⟩ := at_of_small h5
    obtain ⟨x6, rfl, s6⟩ := at_of_take h6
    obtain ⟨x7, rfl, s7⟩ := at_of_take h7
    simp only at *
    have en : (af.size : Int) = n := by omega
    rw [← en] at x5
    have x7 : At s (p + 1 + 4 + 4 + 1 + 1 + 1 + be.data.toList.length) af.data.toList := by rw [len_eq, s6]; exact x7
    refine ⟨(at_append (a := [b8 1])).2 ⟨x0, at_append.2 ⟨x1, at_append.2 ⟨x2, at_append.2 ⟨at_append.2 ⟨x3, at_append.2 ⟨x4, x5⟩⟩, at_append.2 ⟨x6, x7⟩⟩⟩⟩⟩, ?_⟩
    · simp only [List.length_cons, List.length_append, four_len, List.length_nil, len_eq]
      omega
  by_cases e2 : v = 2
  · subst e2
    rw [if_neg e1, if_pos rfl] at h
    simp only [Option.bind_eq_some_iff] at h
    obtain ⟨⟨t, p2⟩, h1, ⟨pv, p3⟩, h2, ⟨nx, p3b⟩, h2b, ⟨pg, p4⟩, h3, ⟨o, p5⟩, h4, ⟨n, p6⟩, h5, ⟨af, p8⟩, h7, h⟩ := h
    simp only [Option.some.injEq, Prod.mk.injEq] at h h1 h2 h2b h3 h4 h5 h7
    obtain ⟨rfl, rfl⟩ := h
    obtain ⟨-, -, -, -, -, -, rfl⟩ := body2 rfl hc
    obtain ⟨x1, rfl, -⟩ := at_of_num h1
    obtain ⟨x2, rfl, -⟩ := at_of_num h2
    obtain ⟨x2b, rfl, -⟩ := at_of_num h2b
    obtain ⟨-, -, x3, rfl⟩ := at_of_small h3
    obtain ⟨-, -, x4, rfl⟩ := at_of_small h4
    obtain ⟨hn, -, x5, rfl⟩ := at_of_small h5
    obtain ⟨x7, rfl, s7⟩ := at_of_take h7
    simp only at *
    have en : (af.size : Int) = n := by omega
    rw [← en] at x5
    refine ⟨(at_append (a := [b8 2])).2 ⟨x0, at_append.2 ⟨x1, at_append.2 ⟨at_append.2 ⟨x2, x2b⟩, at_append.2 ⟨at_append.2 ⟨x3, at_append.2 ⟨x4, x5⟩⟩, x7⟩⟩⟩⟩, ?_⟩
    · simp only [List.length_cons, List.length_append, four_len, List.length_nil, len_eq]
      omega
  by_cases e3 : v = 3 ∨ v = 4
  · rw [if_neg e1, if_neg e2, if_pos e3] at h
    simp only [Option.bind_eq_some_iff] at h
    obtain ⟨⟨t, p2⟩, h1, ⟨pv, p3⟩, h2, h⟩ := h
    simp only [Option.some.injEq, Prod.mk.injEq] at h h1 h2
    obtain ⟨rfl, rfl⟩ := h
    obtain ⟨-, -, rfl⟩ := body3 e3 hc
    obtain ⟨x1, rfl, -⟩ := at_of_num h1
    obtain ⟨x2, rfl, -⟩ := at_of_num h2
    exact ⟨(at_append (a := [b8 v])).2 ⟨x0, at_append.2 ⟨x1, x2⟩⟩, rfl⟩
  by_cases e6 : v = 6
  · subst e6
    rw [if_neg e1, if_neg e2, if_neg e3, if_pos rfl] at h
    simp only [Option.bind_eq_some_iff] at h
    obtain ⟨⟨bg, p2⟩, h1, ⟨n, p3⟩, h2, ⟨tx, p4⟩, h3, ⟨m, p5⟩, h4, ⟨pq, p6⟩, h5, h⟩ := h
    simp only [Option.some.injEq, Prod.mk.injEq] at h h1 h2 h3 h4 h5
    obtain ⟨rfl, rfl⟩ := h
    obtain ⟨-, -, -, bt, bq, jt, jq, rfl⟩ := body6 rfl hc
    obtain ⟨x1, rfl, -⟩ := at_of_num h1
    obtain ⟨n0, -, x2, rfl⟩ := at_of_small h2
    have y2 := (small_some h2).2.1
    obtain ⟨x3, rfl, l3, b3⟩ := rowsT_to_at _ y2 h3 jt
    obtain ⟨m0, -, x4, rfl⟩ := at_of_small h4
    have y4 := (small_some h4).2.1
    obtain ⟨x5, rfl, l5, b5⟩ := rowsQ_to_at _ y4 h5 jq
    simp only at *
    have en : (tx.length : Int) = n := by omega
    have em : (pq.length : Int) = m := by omega
    rw [← en] at x2
    rw [← em] at x4
    have x4 : At s (p + 1 + 4 + 1 + bt.length) [b8 (pq.length : Int)] := by rw [b3]; exact x4
    have x5 : At s (p + 1 + 4 + 1 + bt.length + 1) bq := by rw [b3]; exact x5
    refine ⟨(at_append (a := [b8 6])).2 ⟨x0, at_append.2 ⟨x1, at_append.2 ⟨x2, at_append.2 ⟨x3, at_append.2 ⟨x4, x5⟩⟩⟩⟩⟩, ?_⟩
    · simp only [List.length_cons, List.length_append, four_len, List.length_nil, b3, b5]
      omega
  · rw [if_neg e1, if_neg e2, if_neg e3, if_neg e6] at h
    simp only [Option.some.injEq, Prod.mk.injEq] at h
    obtain ⟨rfl, rfl⟩ := h
    have hb5 : b = [] := by
      unfold bodyP at hc
      simp only at hc
      rw [if_neg e1, if_neg e2, if_neg e3] at hc
      split at hc
      · injection hc with hc; exact hc.symm
      · simp [e6] at hc
    subst hb5
    exact ⟨x0, rfl⟩
end Go.Proofs.Ytbnglmeljbiglaa.Pt
set_option maxRecDepth 8192
namespace Go.Proofs.Ytbnglmeljbiglaa.Wr
open Go.Proofs.Ytbnglmeljbiglaa.Rgn
open Go.Proofs.Ytbnglmeljbiglaa.Rp Go.Proofs.Ytbnglmeljbiglaa.X4
open Go Go.RowKit Go.ChangeMaps Go.Proofs.Ytbnglmeljbiglaa.Arr Go.Proofs.Ytbnglmeljbiglaa.Ow Go.Proofs.YtbnglmeljbiglaaW.PrintWords Go.Proofs.YtbnglmeljbiglaaW.PrintLast Go.Proofs.YtbnglmeljbiglaaW.PrintMore
set_option linter.unusedVariables false
set_option linter.unusedSimpArgs false
set_option maxHeartbeats 1000000 in
theorem small_yes (g : Nat) (l : List UInt8) (n m : Int) (S : Nat → Prop) (w : World) (hS : Top S w) (h : WK w S g l) (hl : l.length ≤ 1000000) (h1 : 0 ≤ n) (h2 : n ≤ m) : Calls Try.prog 80 #[.pointer (some ⟨g, 0, none⟩), .int .i64 n, .int .i64 m] w fun x w' => x = .returned (.tuple #[]) ∧ WK w' S g (l ++ [b8 n]) ∧ FS S w w' := by
  have HS := Aside0.mk hS; have HW := Aside0.mk h; have HL := Aside0.mk hl; clear hS h hl
  have t1 : decide (0 ≤ n) = true := decide_eq_true h1
  have t2 : decide (n ≤ m) = true := decide_eq_true h2
  have HE := Aside0.mk (b8_nat n)
  clear h1 h2
  go_enter Try.func80, Try.ntmps80
  go_upto_region 1 with (go_at_call 63; (with_reducible refine (must_yes _ _).mono ?_); rintro e w1 ⟨rfl, rfl⟩)
  go_wp2_with (go_at_call 90; rw [← HE.out]; (with_reducible refine (writeByte_calls g l (b8 n) S _ HS.out HW.out HL.out).mono ?_); rintro e w1 ⟨rfl, hk, hf⟩; have HK := Aside0.mk hk; have F := Aside0.mk hf; clear hk hf)
  go_end0
  exact ⟨rfl, HK.out, F.out⟩
theorem small_no (g : Nat) (n m : Int) (w : World) (h : ¬ (0 ≤ n ∧ n ≤ m)) : Calls Try.prog 80 #[.pointer (some ⟨g, 0, none⟩), .int .i64 n, .int .i64 m] w fun x w' => x = gaveUp 1 ∧ w' = w := by
  by_cases h1 : 0 ≤ n
  · have t1 : decide (0 ≤ n) = true := decide_eq_true h1
    have t2 : decide (n ≤ m) = false := decide_eq_false (fun e => h ⟨h1, e⟩)
    clear h1 h
    go_enter Try.func80, Try.ntmps80
    go_wp2_with (go_at_call 63; (with_reducible refine (must_no _ _).mono ?_); rintro e w1 ⟨rfl, rfl⟩)
    exact ⟨rfl, rfl, rfl⟩
  · have t1 : decide (0 ≤ n) = false := decide_eq_false h1
    clear h1 h
    go_enter Try.func80, Try.ntmps80
    go_wp2_with (go_at_call 63; (with_reducible refine (must_no _ _).mono ?_); rintro e w1 ⟨rfl, rfl⟩)
    exact ⟨rfl, rfl, rfl⟩
theorem flat_len {xs : List Int} {k : Nat} (h : k ≤ xs.length) : ((xs.take k).flatMap four).length = 4 * k := by
  induction k with
  | zero => rfl
  | succ k ih =>
    rw [List.take_succ_eq_append_getElem (by omega), List.flatMap_append, List.length_append, ih (by omega)]
    simp [four]
    omega
theorem num_succ {xs : List Int} {k : Nat} {n : Int} (h : xs[k]? = some n) : (xs.take (k + 1)).flatMap four = (xs.take k).flatMap four ++ four n := by
  rw [List.take_add_one, h, List.flatMap_append]
  simp
theorem num_all {xs : List Int} {k : Nat} {n : Int} (ha : ∀ x ∈ xs.take k, isNum x = true) (h : xs[k]? = some n) (hn : isNum n = true) : ∀ x ∈ xs.take (k + 1), isNum x = true := by
  rw [List.take_add_one, h]
  intro x hx
  rcases List.mem_append.1 hx with hx | hx
  · exact ha x hx
  · simp at hx; rw [hx]; exact hn
theorem num_none {xs : List Int} {k : Nat} {n : Int} (h : xs[k]? = some n) (hn : ¬ isNum n = true) : numP xs = none := by
  unfold numP
  rw [if_neg]
  intro ha
  exact hn (List.all_eq_true.1 ha n (List.mem_of_getElem? h))
theorem num_some {xs : List Int} (h : ∀ x ∈ xs, isNum x = true) : numP xs = some (xs.flatMap four) := by
  unfold numP
  rw [if_pos (List.all_eq_true.2 h)]
/-- What a writer's function does: its bytes are behind the others, or it gives up. -/
def After (S : Nat → Prop) (g : Nat) (w : World) (l : List UInt8) (o : Option (List UInt8)) (x : Ending) (w' : World) : Prop :=
  match o with
  | some bs => x = .returned (.tuple #[]) ∧ WK w' S g (l ++ bs) ∧ FS S w w'
  | none => x = gaveUp 1 ∧ FS S w w'
theorem small_calls (g : Nat) (l : List UInt8) (n m : Int) (S : Nat → Prop) (w : World) (hS : Top S w) (h : WK w S g l) (hl : l.length ≤ 1000000) : Calls Try.prog 80 #[.pointer (some ⟨g, 0, none⟩), .int .i64 n, .int .i64 m] w fun x w' => After S g w l (smallP n m) x w' := by
  unfold smallP
  by_cases h1 : 0 ≤ n ∧ n ≤ m
  · rw [if_pos h1]
    exact small_yes g l n m S w hS h hl h1.1 h1.2
  · rw [if_neg h1]
    exact (small_no g n m w h1).mono fun x w' hx => ⟨hx.1, by rw [hx.2]; exact FS.refl _ _⟩
abbrev TI : TypeId := 3
set_option maxHeartbeats 4000000 in
theorem num_calls (g : Nat) (l : List UInt8) (xs : List Int) (b c : Nat) (S : Nat → Prop) (w : World) (hS : Top S w) (h : WK w S g l) (hb : w.heap[b]? = some (.cells (xs.map (Value.int .i64)).toArray TI (0, 0))) (hSb : ¬ S b) (hl : l.length + 4 * xs.length ≤ 1000000) : Calls Try.prog 82 #[.pointer (some ⟨g, 0, none⟩), .slice (some ⟨b, 0, none⟩) xs.length c] w fun x w' => After S g w l (numP xs) x w' := by
  have HS := Aside0.mk hS; have HL := Aside0.mk hl; have HB := Aside0.mk hb; have HSB := Aside0.mk hSb
  have HW := Aside0.mk h
  clear hS hl hb hSb h
  go_enter Try.func82, Try.ntmps82
  go_upto_region 1 with (fail)
  go_loopw [9] (fun v wr => ∃ k : Nat, v = .int .i64 k ∧ Aside0 (k ≤ xs.length) ∧ Aside0 (∀ x ∈ xs.take k, isNum x = true) ∧ Aside0 (WK wr S g (l ++ (xs.take k).flatMap four)) ∧ Aside0 (FS S w wr)) (fun v _ => xs.length - (intOf v).toNat)
  case atStart => exact ⟨0, rfl, ⟨Nat.zero_le _⟩, ⟨fun x hx => by simp at hx⟩, ⟨by simpa using HW.out⟩, ⟨FS.refl _ _⟩⟩
  case round =>
    clear HW
    obtain ⟨k, rfl, K, HA, HW, F⟩ := hrel
    by_cases hlt : k < xs.length
    · have h1 : (k : Int) < (xs.length : Int) := by omega
      have hwk : wrap64 ((k : Int) + 1) = ((k + 1 : Nat) : Int) := by have := HL.out; unfold wrap64; omega
      obtain ⟨n, hn⟩ : ∃ n, xs[k]? = some n := ⟨_, List.getElem?_eq_getElem hlt⟩
      have HN := Aside0.mk hn; have HLT := Aside0.mk hlt
      have q0 : wr.cell? ⟨b, k, none⟩ = some (.int .i64 n) := (blk_cell (F.out.old HB.out HSB.out) k).trans (by simp [hn])
      clear hn hlt
      by_cases hnum : isNum n = true
      · have hnn := (isNum_iff n).1 hnum
        have t1 : decide (0 ≤ n) = true := decide_eq_true hnn.1
        have t2 : decide (n ≤ 2147483647) = true := decide_eq_true hnn.2
        have HNN := Aside0.mk hnn; have HNU := Aside0.mk hnum
        clear hnn hnum
        go_upto_region 4 with (go_at_call 63; (with_reducible refine (must_yes _ _).mono ?_); rintro e w1 ⟨rfl, rfl⟩)
        go_upto_region 5 with (fail)
        go_loopw [6] (fun v wr2 => ∃ (j : Nat) (s : Int), v = .int .i64 s ∧ Aside0 (s = 24 - 8 * (j : Int)) ∧ Aside0 (j ≤ 4) ∧ Aside0 (WK wr2 S g (l ++ (xs.take k).flatMap four ++ (four n).take j)) ∧ Aside0 (FS S w wr2)) (fun v _ => (intOf v + 8).toNat)
        case atStart => exact ⟨0, 24, rfl, ⟨rfl⟩, ⟨by omega⟩, ⟨by simpa using HW.out⟩, F⟩
        case round =>
          clear HW F
          obtain ⟨j, s, rfl, E, J, HW2, F2⟩ := hrel
          have HKL := Aside0.mk (show ((xs.take k).flatMap four).length = 4 * k from flat_len (by have := HLT.out; omega))
          rcases (show j = 0 ∨ j = 1 ∨ j = 2 ∨ j = 3 ∨ j = 4 by have := J.out; omega) with rfl | rfl | rfl | rfl | rfl
          · obtain rfl : s = 24 := by have := E.out; omega
            go_upto_region 7 with (fail)
            have HW0 := Aside0.mk HW2.out.drew; have F0 := Aside0.mk F2.out.drew
            refine start_ (n := 8) (S := fun w' => True) (ds := [7]) #[false, false, false, false, false, false, false, false] (by kernel_rfl) rfl rfl trivial (fun hHeld => ?_)
            refine rgp 0 24 ?_
            refine rgp 1 25 ?_
            refine rgp 2 26 ?_
            refine rgp 3 27 ?_
            refine rgp 4 28 ?_
            refine rgp 5 29 ?_
            refine rgp 6 30 ?_
            refine last_ (i := 7) (N := some 31) #[true, true, true, true, true, true, true, true] rfl rfl (by kernel_rfl) (by decide) (fun K hK => ?_)
            refine goes_ Try.func90 (by kernel_rfl) rfl #[.pointer (some ⟨g, 0, none⟩), .int .u8 ((n / 16777216) % 256)] (by rfl) rfl rfl (by (try simp only [List.map_toArray, List.map_cons, List.map_nil]); first | done | rfl) ?_
            rw [← b8_nat]
            refine (writeByte_calls g _ _ S _ (HS.out.next F0.out.size) HW0.out (by simp only [List.length_append, HKL.out, four, List.length_take, List.length_cons, List.length_nil]; have := HL.out; have := HLT.out; omega)).mono ?_
            rintro e v1_ ⟨rfl, hk, hf⟩
            refine ⟨_, rfl, ?_⟩
            have HW3 := Aside0.mk hk; have F3 := Aside0.mk (F0.out.trans hf)
            refine hK _ _ ?_
            clear hK K hk hf
            refine norm_ (a' := ?_) ?_ ?_
            rotate_left
            · show Act.put _ (some 31) _ = _
              simp only [Act.put, List.setIfInBounds_toArray, List.set_cons_zero, List.set_cons_succ, i64_w, i32_w]
              rfl
            refine done_ (by kernel_rfl) ?_
            simp only [Exit.inBlock, Exit.then]
            go_wp2
            go_roundw
            case rel => exact ⟨1, 16, rfl, ⟨by omega⟩, ⟨by omega⟩, ⟨by rw [List.append_assoc] at HW3; exact HW3.out⟩, F3⟩
            case measure => simp only [intOf]; omega
          · obtain rfl : s = 16 := by have := E.out; omega
            go_upto_region 7 with (fail)
            have HW0 := Aside0.mk HW2.out.drew; have F0 := Aside0.mk F2.out.drew
            refine start_ (n := 8) (S := fun w' => True) (ds := [7]) #[false, false, false, false, false, false, false, false] (by kernel_rfl) rfl rfl trivial (fun hHeld => ?_)
            refine rgp 0 24 ?_
            refine rgp 1 25 ?_
            refine rgp 2 26 ?_
            refine rgp 3 27 ?_
            refine rgp 4 28 ?_
            refine rgp 5 29 ?_
            refine rgp 6 30 ?_
            refine last_ (i := 7) (N := some 31) #[true, true, true, true, true, true, true, true] rfl rfl (by kernel_rfl) (by decide) (fun K hK => ?_)
            refine goes_ Try.func90 (by kernel_rfl) rfl #[.pointer (some ⟨g, 0, none⟩), .int .u8 ((n / 65536) % 256)] (by rfl) rfl rfl (by (try simp only [List.map_toArray, List.map_cons, List.map_nil]); first | done | rfl) ?_
            rw [← b8_nat]
            refine (writeByte_calls g _ _ S _ (HS.out.next F0.out.size) HW0.out (by simp only [List.length_append, HKL.out, four, List.length_take, List.length_cons, List.length_nil]; have := HL.out; have := HLT.out; omega)).mono ?_
            rintro e v1_ ⟨rfl, hk, hf⟩
            refine ⟨_, rfl, ?_⟩
            have HW3 := Aside0.mk hk; have F3 := Aside0.mk (F0.out.trans hf)
            refine hK _ _ ?_
            clear hK K hk hf
            refine norm_ (a' := ?_) ?_ ?_
            rotate_left
            · show Act.put _ (some 31) _ = _
              simp only [Act.put, List.setIfInBounds_toArray, List.set_cons_zero, List.set_cons_succ, i64_w, i32_w]
              rfl
            refine done_ (by kernel_rfl) ?_
            simp only [Exit.inBlock, Exit.then]
            go_wp2
            go_roundw
            case rel => exact ⟨2, 8, rfl, ⟨by omega⟩, ⟨by omega⟩, ⟨by rw [List.append_assoc] at HW3; exact HW3.out⟩, F3⟩
            case measure => simp only [intOf]; omega
          · obtain rfl : s = 8 := by have := E.out; omega
            go_upto_region 7 with (fail)
            have HW0 := Aside0.mk HW2.out.drew; have F0 := Aside0.mk F2.out.drew
            refine start_ (n := 8) (S := fun w' => True) (ds := [7]) #[false, false, false, false, false, false, false, false] (by kernel_rfl) rfl rfl trivial (fun hHeld => ?_)
            refine rgp 0 24 ?_
            refine rgp 1 25 ?_
            refine rgp 2 26 ?_
            refine rgp 3 27 ?_
            refine rgp 4 28 ?_
            refine rgp 5 29 ?_
            refine rgp 6 30 ?_
            refine last_ (i := 7) (N := some 31) #[true, true, true, true, true, true, true, true] rfl rfl (by kernel_rfl) (by decide) (fun K hK => ?_)
            refine goes_ Try.func90 (by kernel_rfl) rfl #[.pointer (some ⟨g, 0, none⟩), .int .u8 ((n / 256) % 256)] (by rfl) rfl rfl (by (try simp only [List.map_toArray, List.map_cons, List.map_nil]); first | done | rfl) ?_
            rw [← b8_nat]
            refine (writeByte_calls g _ _ S _ (HS.out.next F0.out.size) HW0.out (by simp only [List.length_append, HKL.out, four, List.length_take, List.length_cons, List.length_nil]; have := HL.out; have := HLT.out; omega)).mono ?_
            rintro e v1_ ⟨rfl, hk, hf⟩
            refine ⟨_, rfl, ?_⟩
            have HW3 := Aside0.mk hk; have F3 := Aside0.mk (F0.out.trans hf)
            refine hK _ _ ?_
            clear hK K hk hf
            refine norm_ (a' := ?_) ?_ ?_
            rotate_left
            · show Act.put _ (some 31) _ = _
              simp only [Act.put, List.setIfInBounds_toArray, List.set_cons_zero, List.set_cons_succ, i64_w, i32_w]
              rfl
            refine done_ (by kernel_rfl) ?_
            simp only [Exit.inBlock, Exit.then]
            go_wp2
            go_roundw
            case rel => exact ⟨3, 0, rfl, ⟨by omega⟩, ⟨by omega⟩, ⟨by rw [List.append_assoc] at HW3; exact HW3.out⟩, F3⟩
            case measure => simp only [intOf]; omega
          · obtain rfl : s = 0 := by have := E.out; omega
            go_upto_region 7 with (fail)
            have HW0 := Aside0.mk HW2.out.drew; have F0 := Aside0.mk F2.out.drew
            refine start_ (n := 8) (S := fun w' => True) (ds := [7]) #[false, false, false, false, false, false, false, false] (by kernel_rfl) rfl rfl trivial (fun hHeld => ?_)
            refine rgp 0 24 ?_
            refine rgp 1 25 ?_
            refine rgp 2 26 ?_
            refine rgp 3 27 ?_
            refine rgp 4 28 ?_
            refine rgp 5 29 ?_
            refine rgp 6 30 ?_
            refine last_ (i := 7) (N := some 31) #[true, true, true, true, true, true, true, true] rfl rfl (by kernel_rfl) (by decide) (fun K hK => ?_)
            refine goes_ Try.func90 (by kernel_rfl) rfl #[.pointer (some ⟨g, 0, none⟩), .int .u8 (n % 256)] (by rfl) rfl rfl (by (try simp only [List.map_toArray, List.map_cons, List.map_nil]); first | done | rfl) ?_
            rw [← b8_nat]
            refine (writeByte_calls g _ _ S _ (HS.out.next F0.out.size) HW0.out (by simp only [List.length_append, HKL.out, four, List.length_take, List.length_cons, List.length_nil]; have := HL.out; have := HLT.out; omega)).mono ?_
            rintro e v1_ ⟨rfl, hk, hf⟩
            refine ⟨_, rfl, ?_⟩
            have HW3 := Aside0.mk hk; have F3 := Aside0.mk (F0.out.trans hf)
            refine hK _ _ ?_
            clear hK K hk hf
            refine norm_ (a' := ?_) ?_ ?_
            rotate_left
            · show Act.put _ (some 31) _ = _
              simp only [Act.put, List.setIfInBounds_toArray, List.set_cons_zero, List.set_cons_succ, i64_w, i32_w]
              rfl
            refine done_ (by kernel_rfl) ?_
            simp only [Exit.inBlock, Exit.then]
            go_wp2
            go_roundw
            case rel => exact ⟨4, -8, rfl, ⟨by omega⟩, ⟨by omega⟩, ⟨by rw [List.append_assoc] at HW3; exact HW3.out⟩, F3⟩
            case measure => simp only [intOf]; omega
          · obtain rfl : s = -8 := by have := E.out; omega
            go_wp2
            (try simp only [hwk])
            refine ⟨⟨k + 1, rfl, ⟨HLT.out⟩, ⟨num_all HA.out HN.out HNU.out⟩, ⟨?_⟩, F2⟩, ?_⟩
            · rw [num_succ HN.out, ← List.append_assoc]
              have h4 := HW2.out
              rwa [show (four n).take 4 = four n from rfl] at h4
            · have := HLT.out
              show xs.length - (intOf (.int .i64 ((k + 1 : Nat) : Int))).toNat < xs.length - (intOf (.int .i64 (k : Int))).toNat
              simp only [intOf]; omega
      · have hnone : numP xs = none := num_none HN.out hnum
        have HNO := Aside0.mk hnone
        have hcase : ¬ 0 ≤ n ∨ (0 ≤ n ∧ ¬ n ≤ 2147483647) := by
          by_cases h0 : 0 ≤ n
          · right; exact ⟨h0, fun h2 => hnum ((isNum_iff n).2 ⟨h0, h2⟩)⟩
          · exact .inl h0
        clear hnone hnum
        rcases hcase with h0 | ⟨h0, h2⟩
        · have t1 : decide (0 ≤ n) = false := decide_eq_false h0
          clear h0
          go_wp2_with (go_at_call 63; (with_reducible refine (must_no _ _).mono ?_); rintro e w1 ⟨rfl, rfl⟩)
          refine ⟨rfl, ?_⟩
          show After S g w l (numP xs) (gaveUp 1) _
          rw [HNO.out]
          exact ⟨rfl, F.out⟩
        · have t1 : decide (0 ≤ n) = true := decide_eq_true h0
          have t2 : decide (n ≤ 2147483647) = false := decide_eq_false h2
          clear h0 h2
          go_wp2_with (go_at_call 63; (with_reducible refine (must_no _ _).mono ?_); rintro e w1 ⟨rfl, rfl⟩)
          refine ⟨rfl, ?_⟩
          show After S g w l (numP xs) (gaveUp 1) _
          rw [HNO.out]
          exact ⟨rfl, F.out⟩
    · obtain rfl : k = xs.length := by have := K.out; omega
      clear hlt
      rw [List.take_length] at HA HW
      go_wp2
      go_end0
      show After S g w l (numP xs) _ _
      rw [num_some HA.out]
      exact ⟨rfl, HW.out, F.out⟩
end Go.Proofs.Ytbnglmeljbiglaa.Wr
set_option maxRecDepth 8192
namespace Go.Proofs.Ytbnglmeljbiglaa.Wr
open Go.Proofs.Ytbnglmeljbiglaa.Rp Go.Proofs.Ytbnglmeljbiglaa.X4
open Go Go.RowKit Go.ChangeMaps Go.Proofs.Ytbnglmeljbiglaa.Arr Go.Proofs.Ytbnglmeljbiglaa.Ow Go.Proofs.YtbnglmeljbiglaaW.PrintWords Go.Proofs.YtbnglmeljbiglaaW.PrintLast Go.Proofs.YtbnglmeljbiglaaW.PrintMore
set_option linter.unusedVariables false
set_option linter.unusedSimpArgs false
def Less (S : Nat → Prop) (b : Nat) : Nat → Prop := fun k => S k ∧ k ≠ b
theorem top_less {S : Nat → Prop} {w : World} (h : Top S w) (o : Obj) : Top (Less S w.heap.size) (w.alloc o) := fun k hk => by
  have : w.heap.size + 1 ≤ k := by simpa using hk
  exact ⟨h k (by omega), by omega⟩
theorem wk_less {S : Nat → Prop} {w : World} {g : Nat} {l : List UInt8} (h : WK w S g l) (o : Obj) : WK (w.alloc o) (Less S w.heap.size) g l :=
  (h.mono fun k hk e => ⟨e, Nat.ne_of_lt hk⟩).below ((Below.refl _ _).alloc (Nat.le_refl _) o)
theorem WK.more {S : Nat → Prop} {w : World} {g b : Nat} {l : List UInt8} (h : WK w (Less S b) g l) : WK w S g l := h.mono fun k _ e => e.1
theorem FS.more {S : Nat → Prop} {w w' : World} {b : Nat} (h : FS (Less S b) w w') : FS S w w' := FS.mono h fun k _ e => e.1
theorem After.fresh {S : Nat → Prop} {g : Nat} {w w' : World} {l : List UInt8} {o : Option (List UInt8)} {x : Ending} {ob : Obj} (h : After (Less S w.heap.size) g (w.alloc ob) l o x w') : After S g w l o x w' := by
  have hf : ∀ w', FS (Less S w.heap.size) (w.alloc ob) w' → FS S w w' := fun w' h => ((FS.refl S w).alloc ob).trans (FS.more h)
  cases o with
  | none => exact ⟨h.1, hf _ h.2⟩
  | some bs => exact ⟨h.1, h.2.1.more, hf _ h.2.2⟩
theorem not_less (S : Nat → Prop) (b : Nat) : ¬ Less S b b := fun h => h.2 rfl
/-- num of a row that was made for the call. -/
theorem num_fresh (g : Nat) (l : List UInt8) (xs : List Int) (S : Nat → Prop) (w : World) (hS : Top S w) (h : WK w S g l) (hl : l.length + 4 * xs.length ≤ 1000000) : Calls Try.prog 82 #[.pointer (some ⟨g, 0, none⟩), .slice (some ⟨w.heap.size, 0, none⟩) xs.length xs.length] (w.alloc (.cells (xs.map (Value.int .i64)).toArray TI)) fun x w' => After S g w l (numP xs) x w' :=
  (num_calls g l xs w.heap.size xs.length (Less S w.heap.size) (w.alloc (.cells (xs.map (Value.int .i64)).toArray TI)) (top_less hS _) (wk_less h _) (heap_alloc_new w _) (not_less _ _) hl).mono fun x w' hx => hx.fresh
theorem num_fresh1 (g : Nat) (l : List UInt8) (n : Int) (S : Nat → Prop) (w : World) (hS : Top S w) (h : WK w S g l) (hl : l.length + 4 ≤ 1000000) : Calls Try.prog 82 #[.pointer (some ⟨g, 0, none⟩), .slice (some ⟨w.heap.size, 0, none⟩) 1 1] (w.alloc (.cells #[.int .i64 n] TI)) fun x w' => After S g w l (numP [n]) x w' := num_fresh g l [n] S w hS h hl
theorem num_fresh2 (g : Nat) (l : List UInt8) (n m : Int) (S : Nat → Prop) (w : World) (hS : Top S w) (h : WK w S g l) (hl : l.length + 8 ≤ 1000000) : Calls Try.prog 82 #[.pointer (some ⟨g, 0, none⟩), .slice (some ⟨w.heap.size, 0, none⟩) 2 2] (w.alloc (.cells #[.int .i64 n, .int .i64 m] TI)) fun x w' => After S g w l (numP [n, m]) x w' := num_fresh g l [n, m] S w hS h hl
set_option maxHeartbeats 1000000 in
theorem txn_calls (g : Nat) (l : List UInt8) (n : Int) (S : Nat → Prop) (w : World) (hS : Top S w) (h : WK w S g l) (hl : l.length + 4 ≤ 1000000) : Calls Try.prog 81 #[.pointer (some ⟨g, 0, none⟩), .int .i64 n] w fun x w' => After S g w l (txnP n) x w' := by
  have HS := Aside0.mk hS; have HW := Aside0.mk h; have HL := Aside0.mk hl; have F := Aside0.mk (FS.refl S w); clear hS h hl
  by_cases h1 : 1 ≤ n
  · have t1 : decide (1 ≤ n) = true := decide_eq_true h1
    have E := Aside0.mk (show txnP n = numP [n] by unfold txnP; rw [if_pos h1])
    clear h1
    cases hp : numP [n] with
    | none =>
      have HP := Aside0.mk hp; clear hp
      go_enter Try.func81, Try.ntmps81
      go_wp2_with (first | (go_at_call 63; (with_reducible refine (must_yes _ _).mono ?_); rintro e w1 ⟨rfl, hw⟩; replace hw := hw.symm; subst hw) | (go_at_call 82; refine (num_fresh1 g l n S _ HS.out HW.out HL.out).mono ?_; rintro e w1 hx; rw [HP.out] at hx; obtain ⟨rfl, hf⟩ := hx; have F_n := Aside0.mk (F.out.trans hf); clear F; have F := F_n; clear F_n; clear hf))
      refine ⟨rfl, ?_⟩
      show After S g w l (txnP n) (gaveUp 1) _
      rw [E.out, HP.out]
      exact ⟨rfl, F.out⟩
    | some bs =>
      have HP := Aside0.mk hp; clear hp
      go_enter Try.func81, Try.ntmps81
      go_wp2_with (first | (go_at_call 63; (with_reducible refine (must_yes _ _).mono ?_); rintro e w1 ⟨rfl, hw⟩; replace hw := hw.symm; subst hw) | (go_at_call 82; refine (num_fresh1 g l n S _ HS.out HW.out HL.out).mono ?_; rintro e w1 hx; rw [HP.out] at hx; obtain ⟨rfl, hk, hf⟩ := hx; have HW_n := Aside0.mk (hk); have F_n := Aside0.mk (F.out.trans hf); clear HW F; have HW := HW_n; have F := F_n; clear HW_n F_n; clear hk hf))
      go_end0
      show After S g w l (txnP n) _ _
      rw [E.out, HP.out]
      exact ⟨rfl, HW.out, F.out⟩
  · have t1 : decide (1 ≤ n) = false := decide_eq_false h1
    have E := Aside0.mk (show txnP n = none by unfold txnP; rw [if_neg h1])
    clear h1
    go_enter Try.func81, Try.ntmps81
    go_wp2_with (go_at_call 63; (with_reducible refine (must_no _ _).mono ?_); rintro e w1 ⟨rfl, hw⟩; replace hw := hw.symm; subst hw)
    refine ⟨rfl, ?_⟩
    show After S g w l (txnP n) (gaveUp 1) _
    rw [E.out]
    exact ⟨rfl, FS.refl _ _⟩
/-- A record in a block of its own. -/
def RB (w : World) (b : Nat) (r : S37) (A9 : Option Addr) (c9 : Nat) (A10 : Option Addr) (c10 : Nat) : Prop :=
  w.heap[b]? = some (.cells #[.int .i64 r.f0, .int .i64 r.f1, .int .i64 r.f2, .int .i64 r.f3, .int .i64 r.f4, .int .i64 r.f5, .int .i64 r.f6, .string r.f7, .string r.f8, .slice A9 r.f9.length c9, .slice A10 r.f10.length c10] 37 (0, 0))
set_option maxHeartbeats 2000000 in
theorem place_calls (g : Nat) (l : List UInt8) (b : Nat) (r : S37) (A9 : Option Addr) (c9 : Nat) (A10 : Option Addr) (c10 : Nat) (S : Nat → Prop) (w : World) (hS : Top S w) (h : WK w S g l) (hb : RB w b r A9 c9 A10 c10) (hSb : ¬ S b) (hl : l.length + 4 ≤ 1000000) (hz : r.f8.size ≤ 1000000) : Calls Try.prog 83 #[.pointer (some ⟨g, 0, none⟩), .pointer (some ⟨b, 0, none⟩)] w fun x w' => After S g w l (placeP r.f2 r.f3 r.f8.size) x w' := by
  have HS := Aside0.mk hS; have HW := Aside0.mk h; have HL := Aside0.mk hl; have F := Aside0.mk (FS.refl S w); have HB := Aside0.mk hb; have HSB := Aside0.mk hSb
  clear hS h hl hb hSb
  have q8 : w.cell? ⟨b, 8, none⟩ = some (.string r.f8) := blk_cell HB.out 8
  have q2 : w.cell? ⟨b, 2, none⟩ = some (.int .i64 r.f2) := blk_cell HB.out 2
  by_cases h1 : (1 : Int) ≤ (r.f8.size : Int)
  · have t1 : decide ((1 : Int) ≤ (r.f8.size : Int)) = true := decide_eq_true h1
    have t1' : decide (1 ≤ r.f8.size) = true := decide_eq_true (by omega)
    have E := Aside0.mk (show placeP r.f2 r.f3 r.f8.size = cat (smallP r.f2 7) (cat (smallP r.f3 (220 - min (r.f8.size : Int) 220)) (smallP r.f8.size 16)) by unfold placeP; rw [if_pos h1])
    clear h1
    go_enter Try.func83, Try.ntmps83
    cases hp : smallP r.f2 7 with
    | none =>
      have HP := Aside0.mk hp; clear hp
      go_wp2_with (first | (go_at_call 63; (with_reducible refine (must_yes _ _).mono ?_); rintro e w1 ⟨rfl, hw⟩; replace hw := hw.symm; subst hw) | (go_at_call 80; refine (small_calls g l r.f2 7 S _ HS.out HW.out (by have := HL.out; omega)).mono ?_; rintro e w1 hx; rw [HP.out] at hx; obtain ⟨rfl, hf⟩ := hx; have F_n := Aside0.mk (F.out.trans hf); clear F; have F := F_n; clear F_n; clear hf))
      refine ⟨rfl, ?_⟩
      show After S g w l (placeP r.f2 r.f3 r.f8.size) (gaveUp 1) _
      rw [E.out, HP.out]
      exact ⟨rfl, F.out⟩
    | some b1 =>
    have HP := Aside0.mk hp; have HB1 := Aside0.mk (small_len hp); clear hp
    go_upto_region 3 with (first | (go_at_call 63; (with_reducible refine (must_yes _ _).mono ?_); rintro e w1 ⟨rfl, hw⟩; replace hw := hw.symm; subst hw) | (go_at_call 80; refine (small_calls g l r.f2 7 S _ HS.out HW.out (by have := HL.out; omega)).mono ?_; rintro e w2 hx; rw [HP.out] at hx; obtain ⟨rfl, hk, hf⟩ := hx; have HW_n := Aside0.mk (hk); have F_n := Aside0.mk (F.out.trans hf); clear HW F; have HW := HW_n; have F := F_n; clear HW_n F_n; clear hk hf))
    have q3 : w2.cell? ⟨b, 3, none⟩ = some (.int .i64 r.f3) := blk_cell (F.out.old HB.out HSB.out) 3
    have hw : wrap64 (220 - min (r.f8.size : Int) 220) = 220 - min (r.f8.size : Int) 220 := by unfold wrap64; omega
    cases hp2 : smallP r.f3 (220 - min (r.f8.size : Int) 220) with
    | none =>
      have HP2 := Aside0.mk hp2; clear hp2
      go_wp2_with (go_at_call 80; refine (small_calls g (l ++ b1) r.f3 (220 - min (r.f8.size : Int) 220) S _ (HS.out.next F.out.size) HW.out (by rw [List.length_append, HB1.out]; have := HL.out; omega)).mono ?_; rintro e w1 hx; rw [HP2.out] at hx; obtain ⟨rfl, hf⟩ := hx; have F_n := Aside0.mk (F.out.trans hf); clear F; have F := F_n; clear F_n; clear hf)
      refine ⟨rfl, ?_⟩
      show After S g w l (placeP r.f2 r.f3 r.f8.size) (gaveUp 1) _
      rw [E.out, HP.out, HP2.out]
      exact ⟨rfl, F.out⟩
    | some b2 =>
    have HP2 := Aside0.mk hp2; have HB2 := Aside0.mk (small_len hp2); clear hp2
    go_upto_region 4 with (go_at_call 80; refine (small_calls g (l ++ b1) r.f3 (220 - min (r.f8.size : Int) 220) S _ (HS.out.next F.out.size) HW.out (by rw [List.length_append, HB1.out]; have := HL.out; omega)).mono ?_; rintro e w3 hx; rw [HP2.out] at hx; obtain ⟨rfl, hk, hf⟩ := hx; have HW_n := Aside0.mk (hk); have F_n := Aside0.mk (F.out.trans hf); clear HW F; have HW := HW_n; have F := F_n; clear HW_n F_n; clear hk hf)
    cases hp3 : smallP r.f8.size 16 with
    | none =>
      have HP3 := Aside0.mk hp3; clear hp3
      go_wp2_with (go_at_call 80; refine (small_calls g (l ++ b1 ++ b2) r.f8.size 16 S _ (HS.out.next F.out.size) HW.out (by rw [List.length_append, List.length_append, HB1.out, HB2.out]; have := HL.out; omega)).mono ?_; rintro e w1 hx; rw [HP3.out] at hx; obtain ⟨rfl, hf⟩ := hx; have F_n := Aside0.mk (F.out.trans hf); clear F; have F := F_n; clear F_n; clear hf)
      refine ⟨rfl, ?_⟩
      show After S g w l (placeP r.f2 r.f3 r.f8.size) (gaveUp 1) _
      rw [E.out, HP.out, HP2.out, HP3.out]
      exact ⟨rfl, F.out⟩
    | some b3 =>
    have HP3 := Aside0.mk hp3; clear hp3
    go_wp2_with (go_at_call 80; refine (small_calls g (l ++ b1 ++ b2) r.f8.size 16 S _ (HS.out.next F.out.size) HW.out (by rw [List.length_append, List.length_append, HB1.out, HB2.out]; have := HL.out; omega)).mono ?_; rintro e w4 hx; rw [HP3.out] at hx; obtain ⟨rfl, hk, hf⟩ := hx; have HW_n := Aside0.mk (hk); have F_n := Aside0.mk (F.out.trans hf); clear HW F; have HW := HW_n; have F := F_n; clear HW_n F_n; clear hk hf)
    go_end0
    show After S g w l (placeP r.f2 r.f3 r.f8.size) _ _
    rw [E.out, HP.out, HP2.out, HP3.out]
    exact ⟨rfl, by simpa [List.append_assoc] using HW.out, F.out⟩
  · have t1 : decide ((1 : Int) ≤ (r.f8.size : Int)) = false := decide_eq_false h1
    have t1' : decide (1 ≤ r.f8.size) = false := decide_eq_false (by omega)
    have E := Aside0.mk (show placeP r.f2 r.f3 r.f8.size = none by unfold placeP; rw [if_neg h1])
    clear h1
    go_enter Try.func83, Try.ntmps83
    go_wp2_with (go_at_call 63; (with_reducible refine (must_no _ _).mono ?_); rintro e w1 ⟨rfl, hw⟩; replace hw := hw.symm; subst hw)
    refine ⟨rfl, ?_⟩
    show After S g w l (placeP r.f2 r.f3 r.f8.size) (gaveUp 1) _
    rw [E.out]
    exact ⟨rfl, FS.refl _ _⟩
end Go.Proofs.Ytbnglmeljbiglaa.Wr
set_option maxRecDepth 8192
namespace Go.Proofs.Ytbnglmeljbiglaa.Wr
open Go.Proofs.Ytbnglmeljbiglaa.Rp Go.Proofs.Ytbnglmeljbiglaa.X4
open Go Go.RowKit Go.ChangeMaps Go.Proofs.Ytbnglmeljbiglaa.Arr Go.Proofs.Ytbnglmeljbiglaa.Ow Go.Proofs.YtbnglmeljbiglaaW.PrintWords Go.Proofs.YtbnglmeljbiglaaW.PrintLast Go.Proofs.YtbnglmeljbiglaaW.PrintMore
set_option linter.unusedVariables false
set_option linter.unusedSimpArgs false
set_option maxHeartbeats 4000000 in
theorem tables_calls (g : Nat) (l : List UInt8) (b : Nat) (r : S37) (A9 : Option Addr) (c9 : Nat) (A10 : Option Addr) (c10 : Nat) (S : Nat → Prop) (w : World) (hS : Top S w) (h : WK w S g l) (hb : RB w b r A9 c9 A10 c10) (hSb : ¬ S b) (h9 : ∀ w', FS S w w' → Kd.C k107 w' A9 r.f9.length r.f9) (h10 : ∀ w', FS S w w' → Kd.C k109 w' A10 r.f10.length r.f10) (hl : l.length ≤ 900000) : Calls Try.prog 85 #[.pointer (some ⟨g, 0, none⟩), .pointer (some ⟨b, 0, none⟩)] w fun x w' => After S g w l (tablesP r) x w' := by
  have HS := Aside0.mk hS; have HW := Aside0.mk h; have HL := Aside0.mk hl; have F := Aside0.mk (FS.refl S w); have HB := Aside0.mk hb; have HSB := Aside0.mk hSb; have H9 := Aside0.mk h9; have H10 := Aside0.mk h10
  clear hS h hl hb hSb h9 h10
  have q6 : w.cell? ⟨b, 6, none⟩ = some (.int .i64 r.f6) := blk_cell HB.out 6
  cases hp1 : numP [r.f6] with
  | none =>
    have HP1 := Aside0.mk hp1; clear hp1
    go_enter Try.func85, Try.ntmps85
    go_wp2_with (go_at_call 82; refine (num_fresh1 g l r.f6 S _ HS.out HW.out (by have := HL.out; omega)).mono ?_; rintro e w1 hx; rw [HP1.out] at hx; obtain ⟨rfl, hf⟩ := hx; have F_n := Aside0.mk (F.out.trans hf); clear F; have F := F_n; clear F_n; clear hf)
    refine ⟨rfl, ?_⟩; show After S g w l (tablesP r) (gaveUp 1) _; rw [show tablesP r = none by unfold tablesP; rw [HP1.out]; rfl]; exact ⟨rfl, F.out⟩
  | some b1 =>
    have HP1 := Aside0.mk hp1; have HB1 := Aside0.mk (show b1.length = 4 from num_len hp1); clear hp1
    go_enter Try.func85, Try.ntmps85
    go_upto_region 1 with (go_at_call 82; refine (num_fresh1 g l r.f6 S _ HS.out HW.out (by have := HL.out; omega)).mono ?_; rintro e w1 hx; rw [HP1.out] at hx; obtain ⟨rfl, hk, hf⟩ := hx; have HW_n := Aside0.mk (hk); have F_n := Aside0.mk (F.out.trans hf); clear HW F; have HW := HW_n; have F := F_n; clear HW_n F_n; clear hk hf)
    have q9 : w1.cell? ⟨b, 9, none⟩ = some (.slice A9 r.f9.length c9) := blk_cell (F.out.old HB.out HSB.out) 9
    cases hp2 : smallP r.f9.length 4 with
    | none =>
      have HP2 := Aside0.mk hp2; clear hp2
      go_wp2_with (go_at_call 80; refine (small_calls g (l ++ b1) r.f9.length 4 S _ (HS.out.next F.out.size) HW.out (by rw [List.length_append, HB1.out]; have := HL.out; omega)).mono ?_; rintro e w1 hx; rw [HP2.out] at hx; obtain ⟨rfl, hf⟩ := hx; have F_n := Aside0.mk (F.out.trans hf); clear F; have F := F_n; clear F_n; clear hf)
      refine ⟨rfl, ?_⟩; show After S g w l (tablesP r) (gaveUp 1) _; rw [show tablesP r = none by unfold tablesP; rw [HP1.out, HP2.out]; rfl]; exact ⟨rfl, F.out⟩
    | some b2 =>
    have HP2 := Aside0.mk hp2; have HB2 := Aside0.mk (small_len hp2); have HC4 := Aside0.mk (show r.f9.length ≤ 4 by have := small_le hp2; omega); clear hp2
    go_upto_region 2 with (go_at_call 80; refine (small_calls g (l ++ b1) r.f9.length 4 S _ (HS.out.next F.out.size) HW.out (by rw [List.length_append, HB1.out]; have := HL.out; omega)).mono ?_; rintro e w2 hx; rw [HP2.out] at hx; obtain ⟨rfl, hk, hf⟩ := hx; have HW_n := Aside0.mk (hk); have F_n := Aside0.mk (F.out.trans hf); clear HW F; have HW := HW_n; have F := F_n; clear HW_n F_n; clear hk hf)
    have q9b : w2.cell? ⟨b, 9, none⟩ = some (.slice A9 r.f9.length c9) := blk_cell (F.out.old HB.out HSB.out) 9
    go_upto_region 3 with (fail)
    go_loopw [27] (fun v wr => ∃ (k : Nat) (L : List UInt8), v = .int .i64 k ∧ Aside0 (k ≤ r.f9.length) ∧ Aside0 (∃ bs, joinP ((r.f9.take k).map rowT) = some bs ∧ L = (l ++ b1 ++ b2) ++ bs) ∧ Aside0 (L.length ≤ l.length + 5 + 12 * k) ∧ Aside0 (WK wr S g L) ∧ Aside0 (FS S w wr)) (fun v _ => r.f9.length - (intOf v).toNat)
    case atStart => exact ⟨0, _, rfl, ⟨Nat.zero_le _⟩, ⟨[], rfl, rfl⟩, ⟨by rw [List.append_nil, List.length_append, List.length_append, HB1.out, HB2.out]; omega⟩, ⟨by simpa using HW.out⟩, F⟩
    case round =>
      clear HW F q9 q9b
      obtain ⟨k, L, rfl, K, HJ, HLN, HW, F⟩ := hrel
      by_cases hlt : k < r.f9.length
      · have h1 : (k : Int) < (r.f9.length : Int) := by omega
        have h2 : (0 : Int) ≤ (k : Int) := by omega
        have hwk : wrap64 ((k : Int) + 1) = ((k + 1 : Nat) : Int) := by have := HC4.out; unfold wrap64; omega
        obtain ⟨ad, e_, x0, x1, x2⟩ := at_T107 (H9.out wr F.out) k h2 h1
        have HX := Aside0.mk (show r.f9[k]? = some (rd_T107 r.f9 k) by unfold rd_T107; rw [Int.toNat_natCast, List.getD_eq_getElem?_getD, List.getElem?_eq_getElem hlt]; rfl)
        simp only [Int.toNat_natCast] at x0 x1 x2
        subst e_
        generalize rd_T107 r.f9 k = x at *
        have HLT := Aside0.mk hlt
        have HS1 := Aside0.mk (top_less (HS.out.next F.out.size) (.cells #[.int .i64 x.f0, .int .i64 x.f1, .int .i64 x.f2] 107))
        have HW1 := Aside0.mk (wk_less HW.out (.cells #[.int .i64 x.f0, .int .i64 x.f1, .int .i64 x.f2] 107))
        have HB1 := Aside0.mk (heap_alloc_new wr (.cells #[.int .i64 x.f0, .int .i64 x.f1, .int .i64 x.f2] 107))
        have F0 := Aside0.mk (F.out.alloc (.cells #[.int .i64 x.f0, .int .i64 x.f1, .int .i64 x.f2] 107))
        have F1 := Aside0.mk (FS.refl (Less S wr.heap.size) (wr.alloc (.cells #[.int .i64 x.f0, .int .i64 x.f1, .int .i64 x.f2] 107)))
        clear hlt
        cases hp3 : txnP x.f0 with
        | none =>
          as_aux_lemma =>
          have HP3 := Aside0.mk hp3; clear hp3
          go_wp2_with (go_at_call 81; refine (txn_calls g L x.f0 (Less S wr.heap.size) _ HS1.out HW1.out (by have := HLN.out; have := HLT.out; have := HC4.out; have := HL.out; omega)).mono ?_; rintro e w1 hx; rw [HP3.out] at hx; obtain ⟨rfl, hf⟩ := hx; have F1_n := Aside0.mk (F1.out.trans hf); clear F1; have F1 := F1_n; clear F1_n; clear hf)
          refine ⟨rfl, ?_⟩
          show After S g w l (tablesP r) (gaveUp 1) _
          rw [show tablesP r = none by unfold tablesP; rw [HP1.out, HP2.out, join_none HX.out (by unfold rowT; rw [HP3.out]; rfl)]; rfl]
          exact ⟨rfl, F0.out.trans (FS.more F1.out)⟩
        | some b3 =>
        have HP3 := Aside0.mk hp3; have HB3 := Aside0.mk (txn_len hp3); clear hp3
        go_upto_region 6 with (go_at_call 81; refine (txn_calls g L x.f0 (Less S wr.heap.size) _ HS1.out HW1.out (by have := HLN.out; have := HLT.out; have := HC4.out; have := HL.out; omega)).mono ?_; rintro e w4 hx; rw [HP3.out] at hx; obtain ⟨rfl, hk, hf⟩ := hx; have HW1_n := Aside0.mk (hk); have F1_n := Aside0.mk (F1.out.trans hf); clear HW1 F1; have HW1 := HW1_n; have F1 := F1_n; clear HW1_n F1_n; clear hk hf)
        have y1 : w4.cell? ⟨wr.heap.size, 1, none⟩ = some (.int .i64 x.f1) := blk_cell (F1.out.old HB1.out (not_less _ _)) 1
        have y2 : w4.cell? ⟨wr.heap.size, 2, none⟩ = some (.int .i64 x.f2) := blk_cell (F1.out.old HB1.out (not_less _ _)) 2
        cases hp4 : numP [x.f1, x.f2] with
        | none =>
          as_aux_lemma =>
          have HP4 := Aside0.mk hp4; clear hp4
          go_wp2_with (go_at_call 82; refine (num_fresh2 g (L ++ b3) x.f1 x.f2 (Less S wr.heap.size) _ (HS1.out.next F1.out.size) HW1.out (by rw [List.length_append, HB3.out]; have := HLN.out; have := HLT.out; have := HC4.out; have := HL.out; omega)).mono ?_; rintro e w1 hx; rw [HP4.out] at hx; obtain ⟨rfl, hf⟩ := hx; have F1_n := Aside0.mk (F1.out.trans hf); clear F1; have F1 := F1_n; clear F1_n; clear hf)
          refine ⟨rfl, ?_⟩
          show After S g w l (tablesP r) (gaveUp 1) _
          rw [show tablesP r = none by unfold tablesP; rw [HP1.out, HP2.out, join_none HX.out (by unfold rowT; rw [HP3.out, HP4.out]; rfl)]; rfl]
          exact ⟨rfl, F0.out.trans (FS.more F1.out)⟩
        | some b4 =>
        as_aux_lemma =>
        have HP4 := Aside0.mk hp4; have HB4 := Aside0.mk (num_len hp4); clear hp4
        go_wp2_with (go_at_call 82; refine (num_fresh2 g (L ++ b3) x.f1 x.f2 (Less S wr.heap.size) _ (HS1.out.next F1.out.size) HW1.out (by rw [List.length_append, HB3.out]; have := HLN.out; have := HLT.out; have := HC4.out; have := HL.out; omega)).mono ?_; rintro e w5 hx; rw [HP4.out] at hx; obtain ⟨rfl, hk, hf⟩ := hx; have HW1_n := Aside0.mk (hk); have F1_n := Aside0.mk (F1.out.trans hf); clear HW1 F1; have HW1 := HW1_n; have F1 := F1_n; clear HW1_n F1_n; clear hk hf)
        have FF := Aside0.mk (F0.out.trans (FS.more F1.out)); have WW := Aside0.mk (HW1.out.more); clear F0 F1 HW1
        (try simp only [hwk])
        obtain ⟨bs, hj, hL⟩ := HJ.out
        refine ⟨⟨k + 1, L ++ b3 ++ b4, rfl, ⟨HLT.out⟩, ⟨bs ++ (b3 ++ b4), join_succ HX.out hj (by unfold rowT; rw [HP3.out, HP4.out]; rfl), by rw [hL]; simp only [List.append_assoc]⟩, ⟨?_⟩, WW, FF⟩, ?_⟩
        · have := HLN.out; have h5 := HB4.out; rw [List.length_append, List.length_append, HB3.out, h5]; simp only [List.length_cons, List.length_nil]; omega
        · have := HLT.out
          show r.f9.length - (intOf (.int .i64 ((k + 1 : Nat) : Int))).toNat < r.f9.length - (intOf (.int .i64 (k : Int))).toNat
          simp only [intOf]; omega
      · obtain rfl : k = r.f9.length := by have := K.out; omega
        clear hlt
        obtain ⟨bs, hj, hL⟩ := HJ.out
        rw [List.take_length] at hj
        have HJ1 := Aside0.mk hj; have HL1 := Aside0.mk hL; clear hj hL HJ
        obtain ⟨L2, HL2⟩ : ∃ L2, Aside0 (L2 = L) := ⟨_, ⟨rfl⟩⟩
        obtain rfl := HL2.out
        clear HL2
        have q10 : wr.cell? ⟨b, 10, none⟩ = some (.slice A10 r.f10.length c10) := blk_cell (F.out.old HB.out HSB.out) 10
        go_upto_region 8 with (fail)
        cases hp5 : smallP r.f10.length 8 with
        | none =>
          as_aux_lemma =>
          have HP5 := Aside0.mk hp5; clear hp5
          go_wp2_with (go_at_call 80; refine (small_calls g L2 r.f10.length 8 S _ (HS.out.next F.out.size) HW.out (by have := HLN.out; have := HC4.out; have := HL.out; omega)).mono ?_; rintro e w1 hx; rw [HP5.out] at hx; obtain ⟨rfl, hf⟩ := hx; have F_n := Aside0.mk (F.out.trans hf); clear F; have F := F_n; clear F_n; clear hf)
          refine ⟨rfl, ?_⟩; show After S g w l (tablesP r) (gaveUp 1) _; rw [show tablesP r = none by unfold tablesP; rw [HP1.out, HP2.out, HJ1.out, HP5.out]; rfl]; exact ⟨rfl, F.out⟩
        | some b5 =>
        have HP5 := Aside0.mk hp5; have HB5 := Aside0.mk (small_len hp5); have HC8 := Aside0.mk (show r.f10.length ≤ 8 by have := small_le hp5; omega); clear hp5
        go_upto_region 9 with (go_at_call 80; refine (small_calls g L2 r.f10.length 8 S _ (HS.out.next F.out.size) HW.out (by have := HLN.out; have := HC4.out; have := HL.out; omega)).mono ?_; rintro e w3 hx; rw [HP5.out] at hx; obtain ⟨rfl, hk, hf⟩ := hx; have HW_n := Aside0.mk (hk); have F_n := Aside0.mk (F.out.trans hf); clear HW F; have HW := HW_n; have F := F_n; clear HW_n F_n; clear hk hf)
        have q10b : w3.cell? ⟨b, 10, none⟩ = some (.slice A10 r.f10.length c10) := blk_cell (F.out.old HB.out HSB.out) 10
        have HLN0 := HLN; clear HLN
        go_upto_region 10 with (fail)
        go_loopw [55] (fun v wr => ∃ (k : Nat) (L : List UInt8), v = .int .i64 k ∧ Aside0 (k ≤ r.f10.length) ∧ Aside0 (∃ bs, joinP ((r.f10.take k).map rowQ) = some bs ∧ L = (L2 ++ b5) ++ bs) ∧ Aside0 (L.length ≤ l.length + 54 + 5 * k) ∧ Aside0 (WK wr S g L) ∧ Aside0 (FS S w wr)) (fun v _ => r.f10.length - (intOf v).toNat)
        case atStart => exact ⟨0, _, rfl, ⟨Nat.zero_le _⟩, ⟨[], rfl, rfl⟩, ⟨by rw [List.append_nil, List.length_append, HB5.out]; have := HLN0.out; have := HC4.out; omega⟩, ⟨by simpa using HW.out⟩, F⟩
        case round =>
          clear HW F q10 q10b
          obtain ⟨k, L, rfl, K, HJ, HLN, HW, F⟩ := hrel
          by_cases hlt : k < r.f10.length
          · have h1 : (k : Int) < (r.f10.length : Int) := by omega
            have h2 : (0 : Int) ≤ (k : Int) := by omega
            have hwk : wrap64 ((k : Int) + 1) = ((k + 1 : Nat) : Int) := by have := HC8.out; unfold wrap64; omega
            obtain ⟨ad, e_, x0, x1⟩ := at_T109 (H10.out wr F.out) k h2 h1
            have HX := Aside0.mk (show r.f10[k]? = some (rd_T109 r.f10 k) by unfold rd_T109; rw [Int.toNat_natCast, List.getD_eq_getElem?_getD, List.getElem?_eq_getElem hlt]; rfl)
            simp only [Int.toNat_natCast] at x0 x1
            subst e_
            generalize rd_T109 r.f10 k = x at *
            have HLT := Aside0.mk hlt
            have HS1 := Aside0.mk (top_less (HS.out.next F.out.size) (.cells #[.int .i64 x.f0, .int .i64 x.f1] 109))
            have HW1 := Aside0.mk (wk_less HW.out (.cells #[.int .i64 x.f0, .int .i64 x.f1] 109))
            have HB1 := Aside0.mk (heap_alloc_new wr (.cells #[.int .i64 x.f0, .int .i64 x.f1] 109))
            have F0 := Aside0.mk (F.out.alloc (.cells #[.int .i64 x.f0, .int .i64 x.f1] 109))
            have F1 := Aside0.mk (FS.refl (Less S wr.heap.size) (wr.alloc (.cells #[.int .i64 x.f0, .int .i64 x.f1] 109)))
            clear hlt
            cases hp3 : smallP x.f0 7 with
            | none =>
              as_aux_lemma =>
              have HP3 := Aside0.mk hp3; clear hp3
              go_wp2_with (go_at_call 80; refine (small_calls g L x.f0 7 (Less S wr.heap.size) _ HS1.out HW1.out (by have := HLN.out; have := HLT.out; have := HC8.out; have := HL.out; omega)).mono ?_; rintro e w1 hx; rw [HP3.out] at hx; obtain ⟨rfl, hf⟩ := hx; have F1_n := Aside0.mk (F1.out.trans hf); clear F1; have F1 := F1_n; clear F1_n; clear hf)
              refine ⟨rfl, ?_⟩
              show After S g w l (tablesP r) (gaveUp 1) _
              rw [show tablesP r = none by unfold tablesP; rw [HP1.out, HP2.out, HJ1.out, HP5.out, join_none HX.out (by unfold rowQ; rw [HP3.out]; rfl)]; rfl]
              exact ⟨rfl, F0.out.trans (FS.more F1.out)⟩
            | some b3 =>
            have HP3 := Aside0.mk hp3; have HB3 := Aside0.mk (small_len hp3); clear hp3
            go_upto_region 13 with (go_at_call 80; refine (small_calls g L x.f0 7 (Less S wr.heap.size) _ HS1.out HW1.out (by have := HLN.out; have := HLT.out; have := HC8.out; have := HL.out; omega)).mono ?_; rintro e w4 hx; rw [HP3.out] at hx; obtain ⟨rfl, hk, hf⟩ := hx; have HW1_n := Aside0.mk (hk); have F1_n := Aside0.mk (F1.out.trans hf); clear HW1 F1; have HW1 := HW1_n; have F1 := F1_n; clear HW1_n F1_n; clear hk hf)
            have y1 : w4.cell? ⟨wr.heap.size, 1, none⟩ = some (.int .i64 x.f1) := blk_cell (F1.out.old HB1.out (not_less _ _)) 1
            skip
            cases hp4 : numP [x.f1] with
            | none =>
              as_aux_lemma =>
              have HP4 := Aside0.mk hp4; clear hp4
              go_wp2_with (go_at_call 82; refine (num_fresh1 g (L ++ b3) x.f1 (Less S wr.heap.size) _ (HS1.out.next F1.out.size) HW1.out (by rw [List.length_append, HB3.out]; have := HLN.out; have := HLT.out; have := HC8.out; have := HL.out; omega)).mono ?_; rintro e w1 hx; rw [HP4.out] at hx; obtain ⟨rfl, hf⟩ := hx; have F1_n := Aside0.mk (F1.out.trans hf); clear F1; have F1 := F1_n; clear F1_n; clear hf)
              refine ⟨rfl, ?_⟩
              show After S g w l (tablesP r) (gaveUp 1) _
              rw [show tablesP r = none by unfold tablesP; rw [HP1.out, HP2.out, HJ1.out, HP5.out, join_none HX.out (by unfold rowQ; rw [HP3.out, HP4.out]; rfl)]; rfl]
              exact ⟨rfl, F0.out.trans (FS.more F1.out)⟩
            | some b4 =>
            as_aux_lemma =>
            have HP4 := Aside0.mk hp4; have HB4 := Aside0.mk (num_len hp4); clear hp4
            go_wp2_with (go_at_call 82; refine (num_fresh1 g (L ++ b3) x.f1 (Less S wr.heap.size) _ (HS1.out.next F1.out.size) HW1.out (by rw [List.length_append, HB3.out]; have := HLN.out; have := HLT.out; have := HC8.out; have := HL.out; omega)).mono ?_; rintro e w5 hx; rw [HP4.out] at hx; obtain ⟨rfl, hk, hf⟩ := hx; have HW1_n := Aside0.mk (hk); have F1_n := Aside0.mk (F1.out.trans hf); clear HW1 F1; have HW1 := HW1_n; have F1 := F1_n; clear HW1_n F1_n; clear hk hf)
            have FF := Aside0.mk (F0.out.trans (FS.more F1.out)); have WW := Aside0.mk (HW1.out.more); clear F0 F1 HW1
            (try simp only [hwk])
            obtain ⟨bs, hj, hL⟩ := HJ.out
            refine ⟨⟨k + 1, L ++ b3 ++ b4, rfl, ⟨HLT.out⟩, ⟨bs ++ (b3 ++ b4), join_succ HX.out hj (by unfold rowQ; rw [HP3.out, HP4.out]; rfl), by rw [hL]; simp only [List.append_assoc]⟩, ⟨?_⟩, WW, FF⟩, ?_⟩
            · have := HLN.out; have h5 := HB4.out; rw [List.length_append, List.length_append, HB3.out, h5]; simp only [List.length_cons, List.length_nil]; omega
            · have := HLT.out
              show r.f10.length - (intOf (.int .i64 ((k + 1 : Nat) : Int))).toNat < r.f10.length - (intOf (.int .i64 (k : Int))).toNat
              simp only [intOf]; omega
          · obtain rfl : k = r.f10.length := by have := K.out; omega
            clear hlt
            obtain ⟨bs2, hj2, hL2⟩ := HJ.out
            rw [List.take_length] at hj2
            go_wp2
            go_end0
            show After S g w l (tablesP r) _ _
            rw [show tablesP r = some (b1 ++ (b2 ++ (bs ++ (b5 ++ bs2)))) by unfold tablesP; rw [HP1.out, HP2.out, HJ1.out, HP5.out, hj2]; rfl]
            exact ⟨rfl, by have h := HW.out; rw [hL2, HL1.out] at h; simpa only [List.append_assoc] using h, F.out⟩
end Go.Proofs.Ytbnglmeljbiglaa.Wr
set_option maxRecDepth 8192
namespace Go.Proofs.Ytbnglmeljbiglaa.Sa
open Go Go.RowKit Go.ChangeMaps Go.Proofs.Ytbnglmeljbiglaa.Rp Go.Proofs.Ytbnglmeljbiglaa.X4 Go.Proofs.YtbnglmeljbiglaaW.PrintWords Go.Proofs.YtbnglmeljbiglaaW.PrintLast Go.Proofs.YtbnglmeljbiglaaW.PrintMore
set_option linter.unusedVariables false
set_option linter.unusedSimpArgs false
attribute [local go_sem high] eqA107 eqA109
theorem neT_iff (x y : S107) : (!(x.f0 == y.f0) || (!(x.f1 == y.f1) || (!(x.f2 == y.f2)))) = false ↔ x = y := by
  obtain ⟨a, b, c⟩ := x
  obtain ⟨d, e, f⟩ := y
  simp only [S107.mk.injEq]
  by_cases h1 : a = d <;> by_cases h2 : b = e <;> simp [h1, h2]
theorem take_neT {X Y : List S107} {k : Nat} {x y : S107} (hx : X[k]? = some x) (hy : Y[k]? = some y) (hn : x ≠ y) : X ≠ Y := fun e => by
  subst e
  rw [hx] at hy
  exact hn (Option.some.inj hy)
theorem take_eqT {X Y : List S107} {k : Nat} {x : S107} (h : X.take k = Y.take k) (hx : X[k]? = some x) (hy : Y[k]? = some x) : X.take (k + 1) = Y.take (k + 1) := by
  rw [List.take_add_one, List.take_add_one, h, hx, hy]
theorem neQ_iff (x y : S109) : (!(x.f0 == y.f0) || (!(x.f1 == y.f1))) = false ↔ x = y := by
  obtain ⟨a, b⟩ := x
  obtain ⟨d, e⟩ := y
  simp only [S109.mk.injEq]
  by_cases h1 : a = d <;> by_cases h2 : b = e <;> simp [h1, h2]
theorem take_neQ {X Y : List S109} {k : Nat} {x y : S109} (hx : X[k]? = some x) (hy : Y[k]? = some y) (hn : x ≠ y) : X ≠ Y := fun e => by
  subst e
  rw [hx] at hy
  exact hn (Option.some.inj hy)
theorem take_eqQ {X Y : List S109} {k : Nat} {x : S109} (h : X.take k = Y.take k) (hx : X[k]? = some x) (hy : Y[k]? = some x) : X.take (k + 1) = Y.take (k + 1) := by
  rw [List.take_add_one, List.take_add_one, h, hx, hy]
set_option maxHeartbeats 1000000 in
theorem eqT_calls (X Y : List S107) (A : Option Addr) (c : Nat) (B : Option Addr) (d : Nat) (w : World) (hx : Kd.C k107 w A X.length X) (hy : Kd.C k107 w B Y.length Y) (hl : X.length ≤ 1000000) : Calls Try.prog 78 #[.slice A X.length c, .slice B Y.length d] w fun e w' => e = .returned (.bool (decide (X = Y))) ∧ Below w.heap.size w w' := by
  have hu := Try.underlying107
  have HCX := Aside0.mk hx; have HCY := Aside0.mk hy; have HL := Aside0.mk hl
  clear hx hy hl
  by_cases hle : X.length = Y.length
  rotate_left
  · have e1 : ((X.length : Int) != (Y.length : Int)) = true := by rw [bne_iff_ne]; omega
    have e2 : (X.length == Y.length) = false := by rw [beq_eq_false_iff_ne]; exact hle
    have HN := Aside0.mk (show decide (X = Y) = false from decide_eq_false fun e => hle (by rw [e]))
    clear hle
    go_enter Try.func78, Try.ntmps78
    go_wp2
    go_ret
    exact ⟨by rw [HN.out]; rfl, Below.refl _ _⟩
  have e1 : ((X.length : Int) != (Y.length : Int)) = false := by rw [bne_eq_false_iff_eq]; omega
  have e2 : (X.length == Y.length) = true := by rw [beq_iff_eq]; exact hle
  have HLE := Aside0.mk hle
  clear hle
  go_enter Try.func78, Try.ntmps78
  go_upto_region 4 with (fail)
  clear e1 e2
  go_loopw [13] (fun v wr => ∃ k : Nat, v = .int .i64 k ∧ Aside0 (k ≤ X.length) ∧ Aside0 (X.take k = Y.take k) ∧ Aside0 (∃ m, wr = w.drewN m)) (fun v _ => X.length - (intOf v).toNat)
  case atStart => exact ⟨0, rfl, ⟨Nat.zero_le _⟩, ⟨rfl⟩, ⟨0, rfl⟩⟩
  case round =>
    obtain ⟨k, rfl, K, HT, HW⟩ := hrel
    obtain ⟨m, rfl⟩ := HW.out
    by_cases hlt : k < X.length
    · have h1 : (k : Int) < (X.length : Int) := by omega
      have h1b : (k : Int) < (Y.length : Int) := by have := HLE.out; omega
      have h2 : (0 : Int) ≤ (k : Int) := by omega
      have hly : k < Y.length := by have := HLE.out; omega
      have hwk : wrap64 ((k : Int) + 1) = ((k + 1 : Nat) : Int) := by have := HL.out; unfold wrap64; omega
      obtain ⟨ad, e_, x0, x1, x2⟩ := at_T107 HCX.out k h2 h1
      obtain ⟨bd, e2_, y0, y1, y2⟩ := at_T107 HCY.out k h2 h1b
      have hX : X[k]? = some (rd_T107 X k) := by unfold rd_T107; rw [Int.toNat_natCast, List.getD_eq_getElem?_getD, List.getElem?_eq_getElem (by omega)]; rfl
      have hY : Y[k]? = some (rd_T107 Y k) := by unfold rd_T107; rw [Int.toNat_natCast, List.getD_eq_getElem?_getD, List.getElem?_eq_getElem (by omega)]; rfl
      have HX := Aside0.mk hX; have HY := Aside0.mk hY; clear hX hY
      simp only [Int.toNat_natCast] at x0 x1 x2 y0 y1 y2
      subst e_; subst e2_
      generalize rd_T107 X k = x at *
      generalize rd_T107 Y k = y at *
      have HLT := Aside0.mk hlt
      by_cases hxy : x = y
      · have n1 : (!(x.f0 == y.f0) || (!(x.f1 == y.f1) || (!(x.f2 == y.f2)))) = false := (neT_iff x y).2 hxy
        have HXY := Aside0.mk hxy; clear hxy hlt
        go_wp2
        go_quiet (fail)
        go_wp2
        (try simp only [hwk])
        refine ⟨⟨k + 1, rfl, ⟨HLT.out⟩, ⟨take_eqT HT.out HX.out (by rw [HXY.out]; exact HY.out)⟩, ⟨⟨_, rfl⟩⟩⟩, ?_⟩
        have := HLT.out
        show X.length - (intOf (.int .i64 ((k + 1 : Nat) : Int))).toNat < X.length - (intOf (.int .i64 (k : Int))).toNat
        simp only [intOf]; omega
      · have n1 : (!(x.f0 == y.f0) || (!(x.f1 == y.f1) || (!(x.f2 == y.f2)))) = true := by rw [← Bool.not_eq_false, neT_iff]; exact hxy
        have HN := Aside0.mk (show decide (X = Y) = false from decide_eq_false (take_neT HX.out HY.out hxy))
        clear hxy hlt
        go_wp2
        go_quiet (fail)
        go_wp2
        go_ret
        exact ⟨by rw [HN.out]; rfl, pw_below_drewN (pw_below_drewN (Below.refl _ _) _) _⟩
    · obtain rfl : k = X.length := by have := K.out; omega
      have HN := Aside0.mk (show decide (X = Y) = true by
        have h := HT.out
        rw [List.take_length, HLE.out, List.take_length] at h
        exact decide_eq_true h)
      clear hlt
      go_wp2
      go_ret
      exact ⟨by rw [HN.out]; rfl, pw_below_drewN (Below.refl _ _) _⟩
set_option maxHeartbeats 1000000 in
theorem eqQ_calls (X Y : List S109) (A : Option Addr) (c : Nat) (B : Option Addr) (d : Nat) (w : World) (hx : Kd.C k109 w A X.length X) (hy : Kd.C k109 w B Y.length Y) (hl : X.length ≤ 1000000) : Calls Try.prog 79 #[.slice A X.length c, .slice B Y.length d] w fun e w' => e = .returned (.bool (decide (X = Y))) ∧ Below w.heap.size w w' := by
  have hu := Try.underlying109
  have HCX := Aside0.mk hx; have HCY := Aside0.mk hy; have HL := Aside0.mk hl
  clear hx hy hl
  by_cases hle : X.length = Y.length
  rotate_left
  · have e1 : ((X.length : Int) != (Y.length : Int)) = true := by rw [bne_iff_ne]; omega
    have e2 : (X.length == Y.length) = false := by rw [beq_eq_false_iff_ne]; exact hle
    have HN := Aside0.mk (show decide (X = Y) = false from decide_eq_false fun e => hle (by rw [e]))
    clear hle
    go_enter Try.func79, Try.ntmps79
    go_wp2
    go_ret
    exact ⟨by rw [HN.out]; rfl, Below.refl _ _⟩
  have e1 : ((X.length : Int) != (Y.length : Int)) = false := by rw [bne_eq_false_iff_eq]; omega
  have e2 : (X.length == Y.length) = true := by rw [beq_iff_eq]; exact hle
  have HLE := Aside0.mk hle
  clear hle
  go_enter Try.func79, Try.ntmps79
  go_upto_region 4 with (fail)
  clear e1 e2
  go_loopw [13] (fun v wr => ∃ k : Nat, v = .int .i64 k ∧ Aside0 (k ≤ X.length) ∧ Aside0 (X.take k = Y.take k) ∧ Aside0 (∃ m, wr = w.drewN m)) (fun v _ => X.length - (intOf v).toNat)
  case atStart => exact ⟨0, rfl, ⟨Nat.zero_le _⟩, ⟨rfl⟩, ⟨0, rfl⟩⟩
  case round =>
    obtain ⟨k, rfl, K, HT, HW⟩ := hrel
    obtain ⟨m, rfl⟩ := HW.out
    by_cases hlt : k < X.length
    · have h1 : (k : Int) < (X.length : Int) := by omega
      have h1b : (k : Int) < (Y.length : Int) := by have := HLE.out; omega
      have h2 : (0 : Int) ≤ (k : Int) := by omega
      have hly : k < Y.length := by have := HLE.out; omega
      have hwk : wrap64 ((k : Int) + 1) = ((k + 1 : Nat) : Int) := by have := HL.out; unfold wrap64; omega
      obtain ⟨ad, e_, x0, x1⟩ := at_T109 HCX.out k h2 h1
      obtain ⟨bd, e2_, y0, y1⟩ := at_T109 HCY.out k h2 h1b
      have hX : X[k]? = some (rd_T109 X k) := by unfold rd_T109; rw [Int.toNat_natCast, List.getD_eq_getElem?_getD, List.getElem?_eq_getElem (by omega)]; rfl
      have hY : Y[k]? = some (rd_T109 Y k) := by unfold rd_T109; rw [Int.toNat_natCast, List.getD_eq_getElem?_getD, List.getElem?_eq_getElem (by omega)]; rfl
      have HX := Aside0.mk hX; have HY := Aside0.mk hY; clear hX hY
      simp only [Int.toNat_natCast] at x0 x1 y0 y1
      subst e_; subst e2_
      generalize rd_T109 X k = x at *
      generalize rd_T109 Y k = y at *
      have HLT := Aside0.mk hlt
      by_cases hxy : x = y
      · have n1 : (!(x.f0 == y.f0) || (!(x.f1 == y.f1))) = false := (neQ_iff x y).2 hxy
        have HXY := Aside0.mk hxy; clear hxy hlt
        go_wp2
        go_quiet (fail)
        go_wp2
        (try simp only [hwk])
        refine ⟨⟨k + 1, rfl, ⟨HLT.out⟩, ⟨take_eqQ HT.out HX.out (by rw [HXY.out]; exact HY.out)⟩, ⟨⟨_, rfl⟩⟩⟩, ?_⟩
        have := HLT.out
        show X.length - (intOf (.int .i64 ((k + 1 : Nat) : Int))).toNat < X.length - (intOf (.int .i64 (k : Int))).toNat
        simp only [intOf]; omega
      · have n1 : (!(x.f0 == y.f0) || (!(x.f1 == y.f1))) = true := by rw [← Bool.not_eq_false, neQ_iff]; exact hxy
        have HN := Aside0.mk (show decide (X = Y) = false from decide_eq_false (take_neQ HX.out HY.out hxy))
        clear hxy hlt
        go_wp2
        go_quiet (fail)
        go_wp2
        go_ret
        exact ⟨by rw [HN.out]; rfl, pw_below_drewN (pw_below_drewN (Below.refl _ _) _) _⟩
    · obtain rfl : k = X.length := by have := K.out; omega
      have HN := Aside0.mk (show decide (X = Y) = true by
        have h := HT.out
        rw [List.take_length, HLE.out, List.take_length] at h
        exact decide_eq_true h)
      clear hlt
      go_wp2
      go_ret
      exact ⟨by rw [HN.out]; rfl, pw_below_drewN (Below.refl _ _) _⟩
theorem two_below {w w' : World} {X Y : Obj} (hb : Below ((w.alloc X).alloc Y).heap.size ((w.alloc X).alloc Y) w') : w'.heap[w.heap.size]? = some X ∧ w'.heap[w.heap.size + 1]? = some Y := by
  have h1 : ((w.alloc X).alloc Y).heap[w.heap.size]? = some X := blk_below (heap_alloc_new w X) ((Below.refl _ _).alloc (Nat.le_refl _) Y)
  have h2 := heap_alloc_new (w.alloc X) Y
  rw [show (w.alloc X).heap.size = w.heap.size + 1 by simp] at h2
  exact ⟨blk_below h1 hb, blk_below h2 hb⟩
abbrev aggR (r : S37) (B9 : Option Addr) (d9 : Nat) (B10 : Option Addr) (d10 : Nat) : Value := .agg #[.int .i64 r.f0, .int .i64 r.f1, .int .i64 r.f2, .int .i64 r.f3, .int .i64 r.f4, .int .i64 r.f5, .int .i64 r.f6, .string r.f7, .string r.f8, .slice B9 r.f9.length d9, .slice B10 r.f10.length d10]
set_option maxHeartbeats 4000000 in
theorem same_calls (a b : S37) (A9 : Option Addr) (c9 : Nat) (A10 : Option Addr) (c10 : Nat) (B9 : Option Addr) (d9 : Nat) (B10 : Option Addr) (d10 : Nat) (w : World)
    (h9 : Kd.C k107 w A9 a.f9.length a.f9) (h10 : Kd.C k109 w A10 a.f10.length a.f10) (g9 : Kd.C k107 w B9 b.f9.length b.f9) (g10 : Kd.C k109 w B10 b.f10.length b.f10) (s9 : a.f9.length ≤ 1000000) (s10 : a.f10.length ≤ 1000000) :
    Calls Try.prog 64 #[aggR a A9 c9 A10 c10, aggR b B9 d9 B10 d10] w fun e w' => e = .returned (.bool (decide (a = b))) ∧ Below w.heap.size w w' := by
  have H9 := Aside0.mk h9; have H10 := Aside0.mk h10; have G9 := Aside0.mk g9; have G10 := Aside0.mk g10; have S9 := Aside0.mk s9; have S10 := Aside0.mk s10
  clear h9 h10 g9 g10 s9 s10
  by_cases h0 : a.f0 = b.f0
  rotate_left
  · have e0 : (a.f0 == b.f0) = false := by rw [beq_eq_false_iff_ne]; exact h0
    have HN := Aside0.mk (show decide (a = b) = false from decide_eq_false fun e => h0 (by rw [e]))
    clear h0
    go_enter Try.func64, Try.ntmps64
    go_wp2
    go_ret
    exact ⟨by rw [HN.out]; rfl, ((Below.refl w.heap.size w).alloc (Nat.le_refl _) _).alloc (by simp) _⟩
  have e0 : (a.f0 == b.f0) = true := by rw [beq_iff_eq, h0]
  have Q0 := Aside0.mk h0; clear h0
  by_cases h1 : a.f1 = b.f1
  rotate_left
  · have e1 : (a.f1 == b.f1) = false := by rw [beq_eq_false_iff_ne]; exact h1
    have HN := Aside0.mk (show decide (a = b) = false from decide_eq_false fun e => h1 (by rw [e]))
    clear h1
    go_enter Try.func64, Try.ntmps64
    go_wp2
    go_ret
    exact ⟨by rw [HN.out]; rfl, ((Below.refl w.heap.size w).alloc (Nat.le_refl _) _).alloc (by simp) _⟩
  have e1 : (a.f1 == b.f1) = true := by rw [beq_iff_eq, h1]
  have Q1 := Aside0.mk h1; clear h1
  by_cases h2 : a.f2 = b.f2
  rotate_left
  · have e2 : (a.f2 == b.f2) = false := by rw [beq_eq_false_iff_ne]; exact h2
    have HN := Aside0.mk (show decide (a = b) = false from decide_eq_false fun e => h2 (by rw [e]))
    clear h2
    go_enter Try.func64, Try.ntmps64
    go_wp2
    go_ret
    exact ⟨by rw [HN.out]; rfl, ((Below.refl w.heap.size w).alloc (Nat.le_refl _) _).alloc (by simp) _⟩
  have e2 : (a.f2 == b.f2) = true := by rw [beq_iff_eq, h2]
  have Q2 := Aside0.mk h2; clear h2
  by_cases h3 : a.f3 = b.f3
  rotate_left
  · have e3 : (a.f3 == b.f3) = false := by rw [beq_eq_false_iff_ne]; exact h3
    have HN := Aside0.mk (show decide (a = b) = false from decide_eq_false fun e => h3 (by rw [e]))
    clear h3
    go_enter Try.func64, Try.ntmps64
    go_wp2
    go_ret
    exact ⟨by rw [HN.out]; rfl, ((Below.refl w.heap.size w).alloc (Nat.le_refl _) _).alloc (by simp) _⟩
  have e3 : (a.f3 == b.f3) = true := by rw [beq_iff_eq, h3]
  have Q3 := Aside0.mk h3; clear h3
  by_cases h4 : a.f4 = b.f4
  rotate_left
  · have e4 : (a.f4 == b.f4) = false := by rw [beq_eq_false_iff_ne]; exact h4
    have HN := Aside0.mk (show decide (a = b) = false from decide_eq_false fun e => h4 (by rw [e]))
    clear h4
    go_enter Try.func64, Try.ntmps64
    go_wp2
    go_ret
    exact ⟨by rw [HN.out]; rfl, ((Below.refl w.heap.size w).alloc (Nat.le_refl _) _).alloc (by simp) _⟩
  have e4 : (a.f4 == b.f4) = true := by rw [beq_iff_eq, h4]
  have Q4 := Aside0.mk h4; clear h4
  by_cases h5 : a.f5 = b.f5
  rotate_left
  · have e5 : (a.f5 == b.f5) = false := by rw [beq_eq_false_iff_ne]; exact h5
    have HN := Aside0.mk (show decide (a = b) = false from decide_eq_false fun e => h5 (by rw [e]))
    clear h5
    go_enter Try.func64, Try.ntmps64
    go_wp2
    go_ret
    exact ⟨by rw [HN.out]; rfl, ((Below.refl w.heap.size w).alloc (Nat.le_refl _) _).alloc (by simp) _⟩
  have e5 : (a.f5 == b.f5) = true := by rw [beq_iff_eq, h5]
  have Q5 := Aside0.mk h5; clear h5
  by_cases h6 : a.f6 = b.f6
  rotate_left
  · have e6 : (a.f6 == b.f6) = false := by rw [beq_eq_false_iff_ne]; exact h6
    have HN := Aside0.mk (show decide (a = b) = false from decide_eq_false fun e => h6 (by rw [e]))
    clear h6
    go_enter Try.func64, Try.ntmps64
    go_wp2
    go_ret
    exact ⟨by rw [HN.out]; rfl, ((Below.refl w.heap.size w).alloc (Nat.le_refl _) _).alloc (by simp) _⟩
  have e6 : (a.f6 == b.f6) = true := by rw [beq_iff_eq, h6]
  have Q6 := Aside0.mk h6; clear h6
  by_cases h7 : a.f7 = b.f7
  rotate_left
  · have e7 : (a.f7.toList == b.f7.toList) = false := by rw [beq_eq_false_iff_ne]; exact fun e => h7 ((toList_eq _ _).1 e)
    have HN := Aside0.mk (show decide (a = b) = false from decide_eq_false fun e => h7 (by rw [e]))
    clear h7
    go_enter Try.func64, Try.ntmps64
    go_wp2
    go_ret
    exact ⟨by rw [HN.out]; rfl, ((Below.refl w.heap.size w).alloc (Nat.le_refl _) _).alloc (by simp) _⟩
  have e7 : (a.f7.toList == b.f7.toList) = true := by rw [beq_iff_eq, h7]
  have Q7 := Aside0.mk h7; clear h7
  by_cases h8 : a.f8 = b.f8
  rotate_left
  · have e8 : (a.f8.toList == b.f8.toList) = false := by rw [beq_eq_false_iff_ne]; exact fun e => h8 ((toList_eq _ _).1 e)
    have HN := Aside0.mk (show decide (a = b) = false from decide_eq_false fun e => h8 (by rw [e]))
    clear h8
    go_enter Try.func64, Try.ntmps64
    go_wp2
    go_ret
    exact ⟨by rw [HN.out]; rfl, ((Below.refl w.heap.size w).alloc (Nat.le_refl _) _).alloc (by simp) _⟩
  have e8 : (a.f8.toList == b.f8.toList) = true := by rw [beq_iff_eq, h8]
  have Q8 := Aside0.mk h8; clear h8
  by_cases h9 : a.f9 = b.f9
  rotate_left
  · have HN := Aside0.mk (show decide (a = b) = false from decide_eq_false fun e => h9 (by rw [e])); have HD9 := Aside0.mk (decide_eq_false h9)
    clear h9
    go_enter Try.func64, Try.ntmps64
    go_wp2_with (go_at_call 78; (with_reducible refine (eqT_calls a.f9 b.f9 _ _ _ _ _ (Kd.C_below H9.out (((Below.refl w.heap.size w).alloc (Nat.le_refl _) _).alloc (by simp) _)) (Kd.C_below G9.out (((Below.refl w.heap.size w).alloc (Nat.le_refl _) _).alloc (by simp) _)) S9.out).mono ?_); rintro e w9 ⟨rfl, hb_⟩; rw [HD9.out]; have HB9 := Aside0.mk (Below.trans (((Below.refl w.heap.size w).alloc (Nat.le_refl _) _).alloc (by simp) _) (hb_.mono (by simp; omega))); have q10 : w9.cell? ⟨w.heap.size, 10, none⟩ = some (.slice A10 a.f10.length c10) := blk_cell (two_below hb_).1 10; have p10 : w9.cell? ⟨w.heap.size + 1, 10, none⟩ = some (.slice B10 b.f10.length d10) := blk_cell (two_below hb_).2 10; clear hb_)
    go_ret
    exact ⟨by rw [HN.out]; rfl, HB9.out⟩
  by_cases h10 : a.f10 = b.f10
  rotate_left
  · have HN := Aside0.mk (show decide (a = b) = false from decide_eq_false fun e => h10 (by rw [e])); have HD9 := Aside0.mk (decide_eq_true h9); have HD10 := Aside0.mk (decide_eq_false h10)
    clear h9 h10
    go_enter Try.func64, Try.ntmps64
    go_wp2_with (first | (go_at_call 78; (with_reducible refine (eqT_calls a.f9 b.f9 _ _ _ _ _ (Kd.C_below H9.out (((Below.refl w.heap.size w).alloc (Nat.le_refl _) _).alloc (by simp) _)) (Kd.C_below G9.out (((Below.refl w.heap.size w).alloc (Nat.le_refl _) _).alloc (by simp) _)) S9.out).mono ?_); rintro e w9 ⟨rfl, hb_⟩; rw [HD9.out]; have HB9 := Aside0.mk (Below.trans (((Below.refl w.heap.size w).alloc (Nat.le_refl _) _).alloc (by simp) _) (hb_.mono (by simp; omega))); have q10 : w9.cell? ⟨w.heap.size, 10, none⟩ = some (.slice A10 a.f10.length c10) := blk_cell (two_below hb_).1 10; have p10 : w9.cell? ⟨w.heap.size + 1, 10, none⟩ = some (.slice B10 b.f10.length d10) := blk_cell (two_below hb_).2 10; clear hb_) | (go_at_call 79; (with_reducible refine (eqQ_calls a.f10 b.f10 _ _ _ _ _ (Kd.C_below H10.out (HB9.out)) (Kd.C_below G10.out (HB9.out)) S10.out).mono ?_); rintro e w10 ⟨rfl, hb_⟩; rw [HD10.out]; have HB10 := Aside0.mk (HB9.out.trans (hb_.mono HB9.out.size)); clear hb_))
    go_ret
    exact ⟨by rw [HN.out]; rfl, HB10.out⟩
  have HN := Aside0.mk (show decide (a = b) = true from decide_eq_true (by obtain ⟨a0, a1, a2, a3, a4, a5, a6, a7, a8, a9, a10⟩ := a; obtain ⟨b0, b1, b2, b3, b4, b5, b6, b7, b8, b9, b10⟩ := b; have := Q0.out; have := Q1.out; have := Q2.out; have := Q3.out; have := Q4.out; have := Q5.out; have := Q6.out; have := Q7.out; have := Q8.out; simp_all)); have HD9 := Aside0.mk (decide_eq_true h9); have HD10 := Aside0.mk (decide_eq_true h10)
  clear h9 h10
  go_enter Try.func64, Try.ntmps64
  go_wp2_with (first | (go_at_call 78; (with_reducible refine (eqT_calls a.f9 b.f9 _ _ _ _ _ (Kd.C_below H9.out (((Below.refl w.heap.size w).alloc (Nat.le_refl _) _).alloc (by simp) _)) (Kd.C_below G9.out (((Below.refl w.heap.size w).alloc (Nat.le_refl _) _).alloc (by simp) _)) S9.out).mono ?_); rintro e w9 ⟨rfl, hb_⟩; rw [HD9.out]; have HB9 := Aside0.mk (Below.trans (((Below.refl w.heap.size w).alloc (Nat.le_refl _) _).alloc (by simp) _) (hb_.mono (by simp; omega))); have q10 : w9.cell? ⟨w.heap.size, 10, none⟩ = some (.slice A10 a.f10.length c10) := blk_cell (two_below hb_).1 10; have p10 : w9.cell? ⟨w.heap.size + 1, 10, none⟩ = some (.slice B10 b.f10.length d10) := blk_cell (two_below hb_).2 10; clear hb_) | (go_at_call 79; (with_reducible refine (eqQ_calls a.f10 b.f10 _ _ _ _ _ (Kd.C_below H10.out (HB9.out)) (Kd.C_below G10.out (HB9.out)) S10.out).mono ?_); rintro e w10 ⟨rfl, hb_⟩; rw [HD10.out]; have HB10 := Aside0.mk (HB9.out.trans (hb_.mono HB9.out.size)); clear hb_))
  go_ret
  exact ⟨by rw [HN.out]; rfl, HB10.out⟩
end Go.Proofs.Ytbnglmeljbiglaa.Sa
set_option maxRecDepth 8192
namespace Go.Proofs.Ytbnglmeljbiglaa.Wr
open Go.Proofs.Ytbnglmeljbiglaa.Rgn
open Go.Proofs.Ytbnglmeljbiglaa.Rp Go.Proofs.Ytbnglmeljbiglaa.X4
open Go Go.RowKit Go.ChangeMaps Go.Proofs.Ytbnglmeljbiglaa.Arr Go.Proofs.Ytbnglmeljbiglaa.Ow Go.Proofs.YtbnglmeljbiglaaW.PrintWords Go.Proofs.YtbnglmeljbiglaaW.PrintLast Go.Proofs.YtbnglmeljbiglaaW.PrintMore
set_option linter.unusedVariables false
set_option linter.unusedSimpArgs false
set_option maxHeartbeats 4000000 in
theorem rrec_one (g : Nat) (s : ByteArray) (p p1 : Nat) (w : World) (h : RD w g s p) (hp : p ≤ s.size) (hs : s.size ≤ 1000000000) (h0 : smallR s p = some (1, p1)) : Calls Try.prog 92 #[.pointer (some ⟨g, 0, none⟩)] w fun x w' => AfterX g w s p x w' := by
  have HS := Aside0.mk (show s.size ≤ 1000000000000 by omega); have HL := Aside0.mk hp
  have HE := Aside0.mk (show recR s p = (numR s p1).bind fun t => (numR s t.2).bind fun v => (smallR s v.2).bind fun pg => (smallR s pg.2).bind fun o => (smallR s o.2).bind fun n => (takeR s n.2 n.1.toNat).bind fun b => (takeR s b.2 n.1.toNat).bind fun f => some (⟨1, t.1, pg.1, o.1, v.1, 0, 0, b.1, f.1, [], []⟩, f.2) by unfold recR; rw [h0, Option.bind_some]; simp only; rw [if_pos trivial])
  have HL1 := Aside0.mk (show p1 ≤ s.size from (small_some h0).2.1)
  have HP1 := Aside0.mk h0
  have HGN := Aside0.mk (show g ≠ w.heap.size from Nat.ne_of_lt (blk_lt h))
  have HGO := Aside0.mk (show ¬ One g w.heap.size from fun e => HGN.out (e : w.heap.size = g).symm)
  have HR0 := Aside0.mk (h.below ((Below.refl _ _).alloc (Nat.le_refl _) (.cells #[.int .i64 0, .int .i64 0, .int .i64 0, .int .i64 0, .int .i64 0, .int .i64 0, .int .i64 0, .string ⟨#[]⟩, .string ⟨#[]⟩, .slice none 0 0, .slice none 0 0] 37)))
  have F0 := Aside0.mk ((FS.refl (One g) w).alloc (.cells #[.int .i64 0, .int .i64 0, .int .i64 0, .int .i64 0, .int .i64 0, .int .i64 0, .int .i64 0, .string ⟨#[]⟩, .string ⟨#[]⟩, .slice none 0 0, .slice none 0 0] 37))
  have HO0 := Aside0.mk (heap_alloc_new w (.cells #[.int .i64 0, .int .i64 0, .int .i64 0, .int .i64 0, .int .i64 0, .int .i64 0, .int .i64 0, .string ⟨#[]⟩, .string ⟨#[]⟩, .slice none 0 0, .slice none 0 0] 37))
  clear h hp hs h0
  go_enter Try.func92, Try.ntmps92
  go_upto_region 1 with (fail)
  generalize w.alloc (.cells #[.int .i64 0, .int .i64 0, .int .i64 0, .int .i64 0, .int .i64 0, .int .i64 0, .int .i64 0, .string ⟨#[]⟩, .string ⟨#[]⟩, .slice none 0 0, .slice none 0 0] 37) = W1 at *
  go_upto_region 2 with (go_at_call 95; (with_reducible refine (smallr_calls g s p _ HR0.out HL.out HS.out).mono ?_); rintro e w1 hx; rw [HP1.out] at hx; obtain ⟨rfl, hk_, hf_⟩ := hx; have HR1 := Aside0.mk hk_; have F1 := Aside0.mk (F0.out.trans hf_); have HO1 := Aside0.mk (hf_.old HO0.out HGO.out); clear hk_ hf_ HR0 F0 HO0; have y0 : w1.cell? ⟨w.heap.size, 0, none⟩ = some _ := blk_cell HO1.out 0; have f0 := blk_frozen HO1.out 0)
  have HO1x := Aside0.mk (show (w1.setCell ⟨w.heap.size, 0, none⟩ (.int .i64 1)).heap[w.heap.size]? = some (.cells #[.int .i64 1, .int .i64 0, .int .i64 0, .int .i64 0, .int .i64 0, .int .i64 0, .int .i64 0, .string ⟨#[]⟩, .string ⟨#[]⟩, .slice none 0 0, .slice none 0 0] 37 (0, 0)) from set_blk HO1.out 0 (.int .i64 1))
  have HR1x := Aside0.mk (show RD (w1.setCell ⟨w.heap.size, 0, none⟩ (.int .i64 1)) g s p1 from keep_set HR1.out HGN.out 0 _)
  have F1x := Aside0.mk (FS.fresh F1.out 0 (.int .i64 1))
  have HL1x := HL1
  clear HO1 HR1 F1 y0 f0
  generalize w1.setCell ⟨w.heap.size, 0, none⟩ (.int .i64 1) = u1 at *
  have k0 : u1.cell? ⟨w.heap.size, 0, none⟩ = some (.int .i64 1) := blk_cell HO1x.out 0
  go_upto_region 7 with (fail)
  cases hp2 : numR s p1 with
  | none =>
    have HP2 := Aside0.mk hp2; clear hp2
    go_wp2_with (first | (go_at_call 96; (with_reducible refine (numr_calls g s p1 _ HR1x.out HL1x.out HS.out).mono ?_); rintro e w2 hx; rw [HP2.out] at hx; obtain ⟨rfl, hf_⟩ := hx; have F2 := Aside0.mk (F1x.out.trans hf_); clear hf_))
    refine ⟨rfl, ?_⟩
    show AfterX g w s p (gaveUp 3) _
    unfold AfterX
    rw [show recR s p = none by rw [HE.out]; simp only [HP2.out, Option.bind_some, Option.bind_none]]
    exact ⟨rfl, F2.out⟩
  | some q_ =>
  obtain ⟨t_, p2⟩ := q_
  have HL2 := Aside0.mk (show p2 ≤ s.size from (rnum_some hp2).2.1)
  have HP2 := Aside0.mk hp2; clear hp2
  cases hp3 : numR s p2 with
  | none =>
    have HP3 := Aside0.mk hp3; clear hp3
    go_wp2_with (first | (go_at_call 96; (with_reducible refine (numr_calls g s p1 _ HR1x.out HL1x.out HS.out).mono ?_); rintro e w2 hx; rw [HP2.out] at hx; obtain ⟨rfl, hk_, hf_⟩ := hx; have HR2 := Aside0.mk hk_; have F2 := Aside0.mk (F1x.out.trans hf_); have HO2 := Aside0.mk (hf_.old HO1x.out HGO.out); clear hk_ hf_ HR1x F1x HO1x) | (go_at_call 96; (with_reducible refine (numr_calls g s p2 _ HR2.out HL2.out HS.out).mono ?_); rintro e w3 hx; rw [HP3.out] at hx; obtain ⟨rfl, hf_⟩ := hx; have F3 := Aside0.mk (F2.out.trans hf_); clear hf_))
    refine ⟨rfl, ?_⟩
    show AfterX g w s p (gaveUp 3) _
    unfold AfterX
    rw [show recR s p = none by rw [HE.out]; simp only [HP2.out, HP3.out, Option.bind_some, Option.bind_none]]
    exact ⟨rfl, F3.out⟩
  | some q_ =>
  obtain ⟨v_, p3⟩ := q_
  have HL3 := Aside0.mk (show p3 ≤ s.size from (rnum_some hp3).2.1)
  have HP3 := Aside0.mk hp3; clear hp3
  go_upto_region 8 with (first | (go_at_call 96; (with_reducible refine (numr_calls g s p1 _ HR1x.out HL1x.out HS.out).mono ?_); rintro e w2 hx; rw [HP2.out] at hx; obtain ⟨rfl, hk_, hf_⟩ := hx; have HR2 := Aside0.mk hk_; have F2 := Aside0.mk (F1x.out.trans hf_); have HO2 := Aside0.mk (hf_.old HO1x.out HGO.out); clear hk_ hf_ HR1x F1x HO1x) | (go_at_call 96; (with_reducible refine (numr_calls g s p2 _ HR2.out HL2.out HS.out).mono ?_); rintro e w3 hx; rw [HP3.out] at hx; obtain ⟨rfl, hk_, hf_⟩ := hx; have HR3 := Aside0.mk hk_; have F3 := Aside0.mk (F2.out.trans hf_); have HO3 := Aside0.mk (hf_.old HO2.out HGO.out); clear hk_ hf_ HR2 F2 HO2; have y1 : w3.cell? ⟨w.heap.size, 1, none⟩ = some _ := blk_cell HO3.out 1; have f1 := blk_frozen HO3.out 1; have y4 : w3.cell? ⟨w.heap.size, 4, none⟩ = some _ := blk_cell HO3.out 4; have f4 := blk_frozen HO3.out 4))
  have HO3x := Aside0.mk (show ((w3.setCell ⟨w.heap.size, 1, none⟩ (.int .i64 t_)).setCell ⟨w.heap.size, 4, none⟩ (.int .i64 v_)).heap[w.heap.size]? = some (.cells #[.int .i64 1, .int .i64 t_, .int .i64 0, .int .i64 0, .int .i64 v_, .int .i64 0, .int .i64 0, .string ⟨#[]⟩, .string ⟨#[]⟩, .slice none 0 0, .slice none 0 0] 37 (0, 0)) from (set_blk (set_blk HO3.out 1 (.int .i64 t_)) 4 (.int .i64 v_)))
  have HR3x := Aside0.mk (show RD ((w3.setCell ⟨w.heap.size, 1, none⟩ (.int .i64 t_)).setCell ⟨w.heap.size, 4, none⟩ (.int .i64 v_)) g s p3 from (keep_set (keep_set HR3.out HGN.out 1 (.int .i64 t_)) HGN.out 4 (.int .i64 v_)))
  have F3x := Aside0.mk (FS.fresh (FS.fresh F3.out 1 (.int .i64 t_)) 4 (.int .i64 v_))
  have HL3x := HL3
  clear HO3 HR3 F3 y1 f1 y4 f4
  generalize (w3.setCell ⟨w.heap.size, 1, none⟩ (.int .i64 t_)).setCell ⟨w.heap.size, 4, none⟩ (.int .i64 v_) = u3 at *
  (try clear k0)
  have k0 : u3.cell? ⟨w.heap.size, 0, none⟩ = some (.int .i64 1) := blk_cell HO3x.out 0
  go_upto_region 12 with (fail)
  cases hp4 : smallR s p3 with
  | none =>
    have HP4 := Aside0.mk hp4; clear hp4
    go_wp2_with (first | (go_at_call 95; (with_reducible refine (smallr_calls g s p3 _ HR3x.out HL3x.out HS.out).mono ?_); rintro e w4 hx; rw [HP4.out] at hx; obtain ⟨rfl, hf_⟩ := hx; have F4 := Aside0.mk (F3x.out.trans hf_); clear hf_))
    refine ⟨rfl, ?_⟩
    show AfterX g w s p (gaveUp 3) _
    unfold AfterX
    rw [show recR s p = none by rw [HE.out]; simp only [HP2.out, HP3.out, HP4.out, Option.bind_some, Option.bind_none]]
    exact ⟨rfl, F4.out⟩
  | some q_ =>
  obtain ⟨a_, p4⟩ := q_
  have HL4 := Aside0.mk (show p4 ≤ s.size from (small_some hp4).2.1)
  have HNa_ := Aside0.mk (show 0 ≤ a_ ∧ a_ ≤ 255 from (small_some hp4).2.2)
  have HP4 := Aside0.mk hp4; clear hp4
  cases hp5 : smallR s p4 with
  | none =>
    have HP5 := Aside0.mk hp5; clear hp5
    go_wp2_with (first | (go_at_call 95; (with_reducible refine (smallr_calls g s p3 _ HR3x.out HL3x.out HS.out).mono ?_); rintro e w4 hx; rw [HP4.out] at hx; obtain ⟨rfl, hk_, hf_⟩ := hx; have HR4 := Aside0.mk hk_; have F4 := Aside0.mk (F3x.out.trans hf_); have HO4 := Aside0.mk (hf_.old HO3x.out HGO.out); clear hk_ hf_ HR3x F3x HO3x) | (go_at_call 95; (with_reducible refine (smallr_calls g s p4 _ HR4.out HL4.out HS.out).mono ?_); rintro e w5 hx; rw [HP5.out] at hx; obtain ⟨rfl, hf_⟩ := hx; have F5 := Aside0.mk (F4.out.trans hf_); clear hf_))
    refine ⟨rfl, ?_⟩
    show AfterX g w s p (gaveUp 3) _
    unfold AfterX
    rw [show recR s p = none by rw [HE.out]; simp only [HP2.out, HP3.out, HP4.out, HP5.out, Option.bind_some, Option.bind_none]]
    exact ⟨rfl, F5.out⟩
  | some q_ =>
  obtain ⟨b_, p5⟩ := q_
  have HL5 := Aside0.mk (show p5 ≤ s.size from (small_some hp5).2.1)
  have HNb_ := Aside0.mk (show 0 ≤ b_ ∧ b_ ≤ 255 from (small_some hp5).2.2)
  have HP5 := Aside0.mk hp5; clear hp5
  go_upto_region 13 with (first | (go_at_call 95; (with_reducible refine (smallr_calls g s p3 _ HR3x.out HL3x.out HS.out).mono ?_); rintro e w4 hx; rw [HP4.out] at hx; obtain ⟨rfl, hk_, hf_⟩ := hx; have HR4 := Aside0.mk hk_; have F4 := Aside0.mk (F3x.out.trans hf_); have HO4 := Aside0.mk (hf_.old HO3x.out HGO.out); clear hk_ hf_ HR3x F3x HO3x) | (go_at_call 95; (with_reducible refine (smallr_calls g s p4 _ HR4.out HL4.out HS.out).mono ?_); rintro e w5 hx; rw [HP5.out] at hx; obtain ⟨rfl, hk_, hf_⟩ := hx; have HR5 := Aside0.mk hk_; have F5 := Aside0.mk (F4.out.trans hf_); have HO5 := Aside0.mk (hf_.old HO4.out HGO.out); clear hk_ hf_ HR4 F4 HO4; have y2 : w5.cell? ⟨w.heap.size, 2, none⟩ = some _ := blk_cell HO5.out 2; have f2 := blk_frozen HO5.out 2; have y3 : w5.cell? ⟨w.heap.size, 3, none⟩ = some _ := blk_cell HO5.out 3; have f3 := blk_frozen HO5.out 3))
  have HO5x := Aside0.mk (show ((w5.setCell ⟨w.heap.size, 2, none⟩ (.int .i64 a_)).setCell ⟨w.heap.size, 3, none⟩ (.int .i64 b_)).heap[w.heap.size]? = some (.cells #[.int .i64 1, .int .i64 t_, .int .i64 a_, .int .i64 b_, .int .i64 v_, .int .i64 0, .int .i64 0, .string ⟨#[]⟩, .string ⟨#[]⟩, .slice none 0 0, .slice none 0 0] 37 (0, 0)) from (set_blk (set_blk HO5.out 2 (.int .i64 a_)) 3 (.int .i64 b_)))
  have HR5x := Aside0.mk (show RD ((w5.setCell ⟨w.heap.size, 2, none⟩ (.int .i64 a_)).setCell ⟨w.heap.size, 3, none⟩ (.int .i64 b_)) g s p5 from (keep_set (keep_set HR5.out HGN.out 2 (.int .i64 a_)) HGN.out 3 (.int .i64 b_)))
  have F5x := Aside0.mk (FS.fresh (FS.fresh F5.out 2 (.int .i64 a_)) 3 (.int .i64 b_))
  have HL5x := HL5
  clear HO5 HR5 F5 y2 f2 y3 f3
  generalize (w5.setCell ⟨w.heap.size, 2, none⟩ (.int .i64 a_)).setCell ⟨w.heap.size, 3, none⟩ (.int .i64 b_) = u5 at *
  (try clear k0)
  have k0 : u5.cell? ⟨w.heap.size, 0, none⟩ = some (.int .i64 1) := blk_cell HO5x.out 0
  cases hp6 : smallR s p5 with
  | none =>
    have HP6 := Aside0.mk hp6; clear hp6
    go_wp2_with (first | (go_at_call 95; (with_reducible refine (smallr_calls g s p5 _ HR5x.out HL5x.out HS.out).mono ?_); rintro e w6 hx; rw [HP6.out] at hx; obtain ⟨rfl, hf_⟩ := hx; have F6 := Aside0.mk (F5x.out.trans hf_); clear hf_))
    refine ⟨rfl, ?_⟩
    show AfterX g w s p (gaveUp 3) _
    unfold AfterX
    rw [show recR s p = none by rw [HE.out]; simp only [HP2.out, HP3.out, HP4.out, HP5.out, HP6.out, Option.bind_some, Option.bind_none]]
    exact ⟨rfl, F6.out⟩
  | some q_ =>
  obtain ⟨n_, p6⟩ := q_
  have HL6 := Aside0.mk (show p6 ≤ s.size from (small_some hp6).2.1)
  have HNn_ := Aside0.mk (show 0 ≤ n_ ∧ n_ ≤ 255 from (small_some hp6).2.2)
  have HP6 := Aside0.mk hp6; clear hp6
  go_upto_region 14 with (first | (go_at_call 95; (with_reducible refine (smallr_calls g s p5 _ HR5x.out HL5x.out HS.out).mono ?_); rintro e w6 hx; rw [HP6.out] at hx; obtain ⟨rfl, hk_, hf_⟩ := hx; have HR6 := Aside0.mk hk_; have F6 := Aside0.mk (F5x.out.trans hf_); have HO6 := Aside0.mk (hf_.old HO5x.out HGO.out); clear hk_ hf_ HR5x F5x HO5x))
  (try clear k0)
  have k0 : w6.cell? ⟨w.heap.size, 0, none⟩ = some (.int .i64 1) := blk_cell HO6.out 0
  go_upto_region 15 with (fail)
  cases hp7 : takeR s p6 n_.toNat with
  | none =>
    have HP7 := Aside0.mk hp7; clear hp7
    go_wp2_with (first | (go_at_call 97; (with_reducible refine (take_lit g s p6 n_.toNat n_ (Int.toNat_of_nonneg HNn_.out.1).symm _ HR6.out HL6.out HS.out (by have := HNn_.out.2; omega)).mono ?_); rintro e w7 hx; rw [HP7.out] at hx; obtain ⟨rfl, hf_⟩ := hx; have F7 := Aside0.mk (F6.out.trans hf_); clear hf_))
    refine ⟨rfl, ?_⟩
    show AfterX g w s p (gaveUp 3) _
    unfold AfterX
    rw [show recR s p = none by rw [HE.out]; simp only [HP2.out, HP3.out, HP4.out, HP5.out, HP6.out, HP7.out, Option.bind_some, Option.bind_none]]
    exact ⟨rfl, F7.out⟩
  | some q_ =>
  obtain ⟨c_, p7⟩ := q_
  have HL7 := Aside0.mk (show p7 ≤ s.size from (take_size hp7).2.2)
  have HP7 := Aside0.mk hp7; clear hp7
  go_upto_region 16 with (first | (go_at_call 97; (with_reducible refine (take_lit g s p6 n_.toNat n_ (Int.toNat_of_nonneg HNn_.out.1).symm _ HR6.out HL6.out HS.out (by have := HNn_.out.2; omega)).mono ?_); rintro e w7 hx; rw [HP7.out] at hx; obtain ⟨rfl, hk_, hf_⟩ := hx; have HR7 := Aside0.mk hk_; have F7 := Aside0.mk (F6.out.trans hf_); have HO7 := Aside0.mk (hf_.old HO6.out HGO.out); clear hk_ hf_ HR6 F6 HO6; have y7 : w7.cell? ⟨w.heap.size, 7, none⟩ = some _ := blk_cell HO7.out 7; have f7 := blk_frozen HO7.out 7))
  have HO7x := Aside0.mk (show (w7.setCell ⟨w.heap.size, 7, none⟩ (.string c_)).heap[w.heap.size]? = some (.cells #[.int .i64 1, .int .i64 t_, .int .i64 a_, .int .i64 b_, .int .i64 v_, .int .i64 0, .int .i64 0, .string c_, .string ⟨#[]⟩, .slice none 0 0, .slice none 0 0] 37 (0, 0)) from (set_blk HO7.out 7 (.string c_)))
  have HR7x := Aside0.mk (show RD (w7.setCell ⟨w.heap.size, 7, none⟩ (.string c_)) g s p7 from (keep_set HR7.out HGN.out 7 (.string c_)))
  have F7x := Aside0.mk (FS.fresh F7.out 7 (.string c_))
  have HL7x := HL7
  clear HO7 HR7 F7 y7 f7
  generalize w7.setCell ⟨w.heap.size, 7, none⟩ (.string c_) = u7 at *
  (try clear k0)
  have k0 : u7.cell? ⟨w.heap.size, 0, none⟩ = some (.int .i64 1) := blk_cell HO7x.out 0
  cases hp8 : takeR s p7 n_.toNat with
  | none =>
    have HP8 := Aside0.mk hp8; clear hp8
    go_wp2_with (first | (go_at_call 97; (with_reducible refine (take_lit g s p7 n_.toNat n_ (Int.toNat_of_nonneg HNn_.out.1).symm _ HR7x.out HL7x.out HS.out (by have := HNn_.out.2; omega)).mono ?_); rintro e w8 hx; rw [HP8.out] at hx; obtain ⟨rfl, hf_⟩ := hx; have F8 := Aside0.mk (F7x.out.trans hf_); clear hf_))
    refine ⟨rfl, ?_⟩
    show AfterX g w s p (gaveUp 3) _
    unfold AfterX
    rw [show recR s p = none by rw [HE.out]; simp only [HP2.out, HP3.out, HP4.out, HP5.out, HP6.out, HP7.out, HP8.out, Option.bind_some, Option.bind_none]]
    exact ⟨rfl, F8.out⟩
  | some q_ =>
  obtain ⟨d_, p8⟩ := q_
  have HL8 := Aside0.mk (show p8 ≤ s.size from (take_size hp8).2.2)
  have HP8 := Aside0.mk hp8; clear hp8
  go_upto_region 27 with (first | (go_at_call 97; (with_reducible refine (take_lit g s p7 n_.toNat n_ (Int.toNat_of_nonneg HNn_.out.1).symm _ HR7x.out HL7x.out HS.out (by have := HNn_.out.2; omega)).mono ?_); rintro e w8 hx; rw [HP8.out] at hx; obtain ⟨rfl, hk_, hf_⟩ := hx; have HR8 := Aside0.mk hk_; have F8 := Aside0.mk (F7x.out.trans hf_); have HO8 := Aside0.mk (hf_.old HO7x.out HGO.out); clear hk_ hf_ HR7x F7x HO7x; have y8 : w8.cell? ⟨w.heap.size, 8, none⟩ = some _ := blk_cell HO8.out 8; have f8 := blk_frozen HO8.out 8))
  have HO8x := Aside0.mk (show (w8.setCell ⟨w.heap.size, 8, none⟩ (.string d_)).heap[w.heap.size]? = some (.cells #[.int .i64 1, .int .i64 t_, .int .i64 a_, .int .i64 b_, .int .i64 v_, .int .i64 0, .int .i64 0, .string c_, .string d_, .slice none 0 0, .slice none 0 0] 37 (0, 0)) from (set_blk HO8.out 8 (.string d_)))
  have HR8x := Aside0.mk (show RD (w8.setCell ⟨w.heap.size, 8, none⟩ (.string d_)) g s p8 from (keep_set HR8.out HGN.out 8 (.string d_)))
  have F8x := Aside0.mk (FS.fresh F8.out 8 (.string d_))
  have HL8x := HL8
  clear HO8 HR8 F8 y8 f8
  generalize w8.setCell ⟨w.heap.size, 8, none⟩ (.string d_) = u8 at *
  (try clear k0)
  have k0 : u8.cell? ⟨w.heap.size, 0, none⟩ = some (.int .i64 1) := blk_cell HO8x.out 0
  clear k0
  obtain ⟨x0, f0, x1, f1, x2, f2, x3, f3, x4, f4, x5, f5, x6, f6, x7, f7, x8, f8, x9, f9, x10, f10⟩ := cellsF11 u8 (w.heap.size) HO8x.out
  have HB_ := HO8x; have HRR := HR8x; have FFF := F8x
  go_wp2
  refine bodyPost_ret (v := .agg #[.int .i64 1, .int .i64 t_, .int .i64 a_, .int .i64 b_, .int .i64 v_, .int .i64 0, .int .i64 0, .string c_, .string d_, .slice none 0 0, .slice none 0 0]) (by simp [results, Try.results92, go_sem, x0, x1, x2, x3, x4, x5, x6, x7, x8, x9, x10]) rfl ?_
  show AfterX g w s p _ _
  unfold AfterX
  rw [show recR s p = some ((⟨1, t_, a_, b_, v_, 0, 0, c_, d_, [], []⟩ : S37), p8) by rw [HE.out]; (try simp only [HP2.out, HP3.out, HP4.out, HP5.out, HP6.out, HP7.out, HP8.out, Option.bind_some])]
  refine ⟨_, _, rfl, Kd.R_nil _ _ _ _ _, Kd.R_nil _ _ _ _ _, ?_, ?_⟩
  · show RD _ g s p8
    repeat (first | (with_reducible refine RD.keep ?_ HGN.out _ _) | (with_reducible exact HRR.out))
  · repeat (first | (with_reducible refine FS.fresh ?_ _ _) | (with_reducible exact FFF.out))
end Go.Proofs.Ytbnglmeljbiglaa.Wr
set_option maxRecDepth 8192
namespace Go.Proofs.Ytbnglmeljbiglaa.Wr
open Go.Proofs.Ytbnglmeljbiglaa.Rgn
open Go.Proofs.Ytbnglmeljbiglaa.Rp Go.Proofs.Ytbnglmeljbiglaa.X4
open Go Go.RowKit Go.ChangeMaps Go.Proofs.Ytbnglmeljbiglaa.Arr Go.Proofs.Ytbnglmeljbiglaa.Ow Go.Proofs.YtbnglmeljbiglaaW.PrintWords Go.Proofs.YtbnglmeljbiglaaW.PrintLast Go.Proofs.YtbnglmeljbiglaaW.PrintMore
set_option linter.unusedVariables false
set_option linter.unusedSimpArgs false
set_option maxHeartbeats 4000000 in
theorem rrec_two (g : Nat) (s : ByteArray) (p p1 : Nat) (w : World) (h : RD w g s p) (hp : p ≤ s.size) (hs : s.size ≤ 1000000000) (h0 : smallR s p = some (2, p1)) : Calls Try.prog 92 #[.pointer (some ⟨g, 0, none⟩)] w fun x w' => AfterX g w s p x w' := by
  have HS := Aside0.mk (show s.size ≤ 1000000000000 by omega); have HL := Aside0.mk hp
  have HE := Aside0.mk (show recR s p = (numR s p1).bind fun t => (numR s t.2).bind fun v => (numR s v.2).bind fun x => (smallR s x.2).bind fun pg => (smallR s pg.2).bind fun o => (smallR s o.2).bind fun n => (takeR s n.2 n.1.toNat).bind fun f => some (⟨2, t.1, pg.1, o.1, v.1, x.1, 0, ⟨#[]⟩, f.1, [], []⟩, f.2) by unfold recR; rw [h0, Option.bind_some]; simp only; rw [if_neg (by decide), if_pos trivial])
  have HL1 := Aside0.mk (show p1 ≤ s.size from (small_some h0).2.1)
  have HP1 := Aside0.mk h0
  have HGN := Aside0.mk (show g ≠ w.heap.size from Nat.ne_of_lt (blk_lt h))
  have HGO := Aside0.mk (show ¬ One g w.heap.size from fun e => HGN.out (e : w.heap.size = g).symm)
  have HR0 := Aside0.mk (h.below ((Below.refl _ _).alloc (Nat.le_refl _) (.cells #[.int .i64 0, .int .i64 0, .int .i64 0, .int .i64 0, .int .i64 0, .int .i64 0, .int .i64 0, .string ⟨#[]⟩, .string ⟨#[]⟩, .slice none 0 0, .slice none 0 0] 37)))
  have F0 := Aside0.mk ((FS.refl (One g) w).alloc (.cells #[.int .i64 0, .int .i64 0, .int .i64 0, .int .i64 0, .int .i64 0, .int .i64 0, .int .i64 0, .string ⟨#[]⟩, .string ⟨#[]⟩, .slice none 0 0, .slice none 0 0] 37))
  have HO0 := Aside0.mk (heap_alloc_new w (.cells #[.int .i64 0, .int .i64 0, .int .i64 0, .int .i64 0, .int .i64 0, .int .i64 0, .int .i64 0, .string ⟨#[]⟩, .string ⟨#[]⟩, .slice none 0 0, .slice none 0 0] 37))
  clear h hp hs h0
  go_enter Try.func92, Try.ntmps92
  go_upto_region 1 with (fail)
  generalize w.alloc (.cells #[.int .i64 0, .int .i64 0, .int .i64 0, .int .i64 0, .int .i64 0, .int .i64 0, .int .i64 0, .string ⟨#[]⟩, .string ⟨#[]⟩, .slice none 0 0, .slice none 0 0] 37) = W1 at *
  go_upto_region 2 with (go_at_call 95; (with_reducible refine (smallr_calls g s p _ HR0.out HL.out HS.out).mono ?_); rintro e w1 hx; rw [HP1.out] at hx; obtain ⟨rfl, hk_, hf_⟩ := hx; have HR1 := Aside0.mk hk_; have F1 := Aside0.mk (F0.out.trans hf_); have HO1 := Aside0.mk (hf_.old HO0.out HGO.out); clear hk_ hf_ HR0 F0 HO0; have y0 : w1.cell? ⟨w.heap.size, 0, none⟩ = some _ := blk_cell HO1.out 0; have f0 := blk_frozen HO1.out 0)
  have HO1x := Aside0.mk (show (w1.setCell ⟨w.heap.size, 0, none⟩ (.int .i64 2)).heap[w.heap.size]? = some (.cells #[.int .i64 2, .int .i64 0, .int .i64 0, .int .i64 0, .int .i64 0, .int .i64 0, .int .i64 0, .string ⟨#[]⟩, .string ⟨#[]⟩, .slice none 0 0, .slice none 0 0] 37 (0, 0)) from set_blk HO1.out 0 (.int .i64 2))
  have HR1x := Aside0.mk (show RD (w1.setCell ⟨w.heap.size, 0, none⟩ (.int .i64 2)) g s p1 from keep_set HR1.out HGN.out 0 _)
  have F1x := Aside0.mk (FS.fresh F1.out 0 (.int .i64 2))
  have HL1x := HL1
  clear HO1 HR1 F1 y0 f0
  generalize w1.setCell ⟨w.heap.size, 0, none⟩ (.int .i64 2) = u1 at *
  have k0 : u1.cell? ⟨w.heap.size, 0, none⟩ = some (.int .i64 2) := blk_cell HO1x.out 0
  go_upto_region 7 with (fail)
  cases hp2 : numR s p1 with
  | none =>
    have HP2 := Aside0.mk hp2; clear hp2
    go_wp2_with (first | (go_at_call 96; (with_reducible refine (numr_calls g s p1 _ HR1x.out HL1x.out HS.out).mono ?_); rintro e w2 hx; rw [HP2.out] at hx; obtain ⟨rfl, hf_⟩ := hx; have F2 := Aside0.mk (F1x.out.trans hf_); clear hf_))
    refine ⟨rfl, ?_⟩
    show AfterX g w s p (gaveUp 3) _
    unfold AfterX
    rw [show recR s p = none by rw [HE.out]; simp only [HP2.out, Option.bind_some, Option.bind_none]]
    exact ⟨rfl, F2.out⟩
  | some q_ =>
  obtain ⟨t_, p2⟩ := q_
  have HL2 := Aside0.mk (show p2 ≤ s.size from (rnum_some hp2).2.1)
  have HP2 := Aside0.mk hp2; clear hp2
  cases hp3 : numR s p2 with
  | none =>
    have HP3 := Aside0.mk hp3; clear hp3
    go_wp2_with (first | (go_at_call 96; (with_reducible refine (numr_calls g s p1 _ HR1x.out HL1x.out HS.out).mono ?_); rintro e w2 hx; rw [HP2.out] at hx; obtain ⟨rfl, hk_, hf_⟩ := hx; have HR2 := Aside0.mk hk_; have F2 := Aside0.mk (F1x.out.trans hf_); have HO2 := Aside0.mk (hf_.old HO1x.out HGO.out); clear hk_ hf_ HR1x F1x HO1x) | (go_at_call 96; (with_reducible refine (numr_calls g s p2 _ HR2.out HL2.out HS.out).mono ?_); rintro e w3 hx; rw [HP3.out] at hx; obtain ⟨rfl, hf_⟩ := hx; have F3 := Aside0.mk (F2.out.trans hf_); clear hf_))
    refine ⟨rfl, ?_⟩
    show AfterX g w s p (gaveUp 3) _
    unfold AfterX
    rw [show recR s p = none by rw [HE.out]; simp only [HP2.out, HP3.out, Option.bind_some, Option.bind_none]]
    exact ⟨rfl, F3.out⟩
  | some q_ =>
  obtain ⟨v_, p3⟩ := q_
  have HL3 := Aside0.mk (show p3 ≤ s.size from (rnum_some hp3).2.1)
  have HP3 := Aside0.mk hp3; clear hp3
  go_upto_region 8 with (first | (go_at_call 96; (with_reducible refine (numr_calls g s p1 _ HR1x.out HL1x.out HS.out).mono ?_); rintro e w2 hx; rw [HP2.out] at hx; obtain ⟨rfl, hk_, hf_⟩ := hx; have HR2 := Aside0.mk hk_; have F2 := Aside0.mk (F1x.out.trans hf_); have HO2 := Aside0.mk (hf_.old HO1x.out HGO.out); clear hk_ hf_ HR1x F1x HO1x) | (go_at_call 96; (with_reducible refine (numr_calls g s p2 _ HR2.out HL2.out HS.out).mono ?_); rintro e w3 hx; rw [HP3.out] at hx; obtain ⟨rfl, hk_, hf_⟩ := hx; have HR3 := Aside0.mk hk_; have F3 := Aside0.mk (F2.out.trans hf_); have HO3 := Aside0.mk (hf_.old HO2.out HGO.out); clear hk_ hf_ HR2 F2 HO2; have y1 : w3.cell? ⟨w.heap.size, 1, none⟩ = some _ := blk_cell HO3.out 1; have f1 := blk_frozen HO3.out 1; have y4 : w3.cell? ⟨w.heap.size, 4, none⟩ = some _ := blk_cell HO3.out 4; have f4 := blk_frozen HO3.out 4))
  have HO3x := Aside0.mk (show ((w3.setCell ⟨w.heap.size, 1, none⟩ (.int .i64 t_)).setCell ⟨w.heap.size, 4, none⟩ (.int .i64 v_)).heap[w.heap.size]? = some (.cells #[.int .i64 2, .int .i64 t_, .int .i64 0, .int .i64 0, .int .i64 v_, .int .i64 0, .int .i64 0, .string ⟨#[]⟩, .string ⟨#[]⟩, .slice none 0 0, .slice none 0 0] 37 (0, 0)) from (set_blk (set_blk HO3.out 1 (.int .i64 t_)) 4 (.int .i64 v_)))
  have HR3x := Aside0.mk (show RD ((w3.setCell ⟨w.heap.size, 1, none⟩ (.int .i64 t_)).setCell ⟨w.heap.size, 4, none⟩ (.int .i64 v_)) g s p3 from (keep_set (keep_set HR3.out HGN.out 1 (.int .i64 t_)) HGN.out 4 (.int .i64 v_)))
  have F3x := Aside0.mk (FS.fresh (FS.fresh F3.out 1 (.int .i64 t_)) 4 (.int .i64 v_))
  have HL3x := HL3
  clear HO3 HR3 F3 y1 f1 y4 f4
  generalize (w3.setCell ⟨w.heap.size, 1, none⟩ (.int .i64 t_)).setCell ⟨w.heap.size, 4, none⟩ (.int .i64 v_) = u3 at *
  (try clear k0)
  have k0 : u3.cell? ⟨w.heap.size, 0, none⟩ = some (.int .i64 2) := blk_cell HO3x.out 0
  go_upto_region 9 with (fail)
  cases hp4 : numR s p3 with
  | none =>
    have HP4 := Aside0.mk hp4; clear hp4
    go_wp2_with (first | (go_at_call 96; (with_reducible refine (numr_calls g s p3 _ HR3x.out HL3x.out HS.out).mono ?_); rintro e w4 hx; rw [HP4.out] at hx; obtain ⟨rfl, hf_⟩ := hx; have F4 := Aside0.mk (F3x.out.trans hf_); clear hf_))
    refine ⟨rfl, ?_⟩
    show AfterX g w s p (gaveUp 3) _
    unfold AfterX
    rw [show recR s p = none by rw [HE.out]; simp only [HP2.out, HP3.out, HP4.out, Option.bind_some, Option.bind_none]]
    exact ⟨rfl, F4.out⟩
  | some q_ =>
  obtain ⟨x_, p4⟩ := q_
  have HL4 := Aside0.mk (show p4 ≤ s.size from (rnum_some hp4).2.1)
  have HP4 := Aside0.mk hp4; clear hp4
  go_upto_region 10 with (first | (go_at_call 96; (with_reducible refine (numr_calls g s p3 _ HR3x.out HL3x.out HS.out).mono ?_); rintro e w4 hx; rw [HP4.out] at hx; obtain ⟨rfl, hk_, hf_⟩ := hx; have HR4 := Aside0.mk hk_; have F4 := Aside0.mk (F3x.out.trans hf_); have HO4 := Aside0.mk (hf_.old HO3x.out HGO.out); clear hk_ hf_ HR3x F3x HO3x; have y5 : w4.cell? ⟨w.heap.size, 5, none⟩ = some _ := blk_cell HO4.out 5; have f5 := blk_frozen HO4.out 5))
  have HO4x := Aside0.mk (show (w4.setCell ⟨w.heap.size, 5, none⟩ (.int .i64 x_)).heap[w.heap.size]? = some (.cells #[.int .i64 2, .int .i64 t_, .int .i64 0, .int .i64 0, .int .i64 v_, .int .i64 x_, .int .i64 0, .string ⟨#[]⟩, .string ⟨#[]⟩, .slice none 0 0, .slice none 0 0] 37 (0, 0)) from (set_blk HO4.out 5 (.int .i64 x_)))
  have HR4x := Aside0.mk (show RD (w4.setCell ⟨w.heap.size, 5, none⟩ (.int .i64 x_)) g s p4 from (keep_set HR4.out HGN.out 5 (.int .i64 x_)))
  have F4x := Aside0.mk (FS.fresh F4.out 5 (.int .i64 x_))
  have HL4x := HL4
  clear HO4 HR4 F4 y5 f5
  generalize w4.setCell ⟨w.heap.size, 5, none⟩ (.int .i64 x_) = u4 at *
  (try clear k0)
  have k0 : u4.cell? ⟨w.heap.size, 0, none⟩ = some (.int .i64 2) := blk_cell HO4x.out 0
  go_upto_region 12 with (fail)
  cases hp5 : smallR s p4 with
  | none =>
    have HP5 := Aside0.mk hp5; clear hp5
    go_wp2_with (first | (go_at_call 95; (with_reducible refine (smallr_calls g s p4 _ HR4x.out HL4x.out HS.out).mono ?_); rintro e w5 hx; rw [HP5.out] at hx; obtain ⟨rfl, hf_⟩ := hx; have F5 := Aside0.mk (F4x.out.trans hf_); clear hf_))
    refine ⟨rfl, ?_⟩
    show AfterX g w s p (gaveUp 3) _
    unfold AfterX
    rw [show recR s p = none by rw [HE.out]; simp only [HP2.out, HP3.out, HP4.out, HP5.out, Option.bind_some, Option.bind_none]]
    exact ⟨rfl, F5.out⟩
  | some q_ =>
  obtain ⟨a_, p5⟩ := q_
  have HL5 := Aside0.mk (show p5 ≤ s.size from (small_some hp5).2.1)
  have HNa_ := Aside0.mk (show 0 ≤ a_ ∧ a_ ≤ 255 from (small_some hp5).2.2)
  have HP5 := Aside0.mk hp5; clear hp5
  cases hp6 : smallR s p5 with
  | none =>
    have HP6 := Aside0.mk hp6; clear hp6
    go_wp2_with (first | (go_at_call 95; (with_reducible refine (smallr_calls g s p4 _ HR4x.out HL4x.out HS.out).mono ?_); rintro e w5 hx; rw [HP5.out] at hx; obtain ⟨rfl, hk_, hf_⟩ := hx; have HR5 := Aside0.mk hk_; have F5 := Aside0.mk (F4x.out.trans hf_); have HO5 := Aside0.mk (hf_.old HO4x.out HGO.out); clear hk_ hf_ HR4x F4x HO4x) | (go_at_call 95; (with_reducible refine (smallr_calls g s p5 _ HR5.out HL5.out HS.out).mono ?_); rintro e w6 hx; rw [HP6.out] at hx; obtain ⟨rfl, hf_⟩ := hx; have F6 := Aside0.mk (F5.out.trans hf_); clear hf_))
    refine ⟨rfl, ?_⟩
    show AfterX g w s p (gaveUp 3) _
    unfold AfterX
    rw [show recR s p = none by rw [HE.out]; simp only [HP2.out, HP3.out, HP4.out, HP5.out, HP6.out, Option.bind_some, Option.bind_none]]
    exact ⟨rfl, F6.out⟩
  | some q_ =>
  obtain ⟨b_, p6⟩ := q_
  have HL6 := Aside0.mk (show p6 ≤ s.size from (small_some hp6).2.1)
  have HNb_ := Aside0.mk (show 0 ≤ b_ ∧ b_ ≤ 255 from (small_some hp6).2.2)
  have HP6 := Aside0.mk hp6; clear hp6
  go_upto_region 13 with (first | (go_at_call 95; (with_reducible refine (smallr_calls g s p4 _ HR4x.out HL4x.out HS.out).mono ?_); rintro e w5 hx; rw [HP5.out] at hx; obtain ⟨rfl, hk_, hf_⟩ := hx; have HR5 := Aside0.mk hk_; have F5 := Aside0.mk (F4x.out.trans hf_); have HO5 := Aside0.mk (hf_.old HO4x.out HGO.out); clear hk_ hf_ HR4x F4x HO4x) | (go_at_call 95; (with_reducible refine (smallr_calls g s p5 _ HR5.out HL5.out HS.out).mono ?_); rintro e w6 hx; rw [HP6.out] at hx; obtain ⟨rfl, hk_, hf_⟩ := hx; have HR6 := Aside0.mk hk_; have F6 := Aside0.mk (F5.out.trans hf_); have HO6 := Aside0.mk (hf_.old HO5.out HGO.out); clear hk_ hf_ HR5 F5 HO5; have y2 : w6.cell? ⟨w.heap.size, 2, none⟩ = some _ := blk_cell HO6.out 2; have f2 := blk_frozen HO6.out 2; have y3 : w6.cell? ⟨w.heap.size, 3, none⟩ = some _ := blk_cell HO6.out 3; have f3 := blk_frozen HO6.out 3))
  have HO6x := Aside0.mk (show ((w6.setCell ⟨w.heap.size, 2, none⟩ (.int .i64 a_)).setCell ⟨w.heap.size, 3, none⟩ (.int .i64 b_)).heap[w.heap.size]? = some (.cells #[.int .i64 2, .int .i64 t_, .int .i64 a_, .int .i64 b_, .int .i64 v_, .int .i64 x_, .int .i64 0, .string ⟨#[]⟩, .string ⟨#[]⟩, .slice none 0 0, .slice none 0 0] 37 (0, 0)) from (set_blk (set_blk HO6.out 2 (.int .i64 a_)) 3 (.int .i64 b_)))
  have HR6x := Aside0.mk (show RD ((w6.setCell ⟨w.heap.size, 2, none⟩ (.int .i64 a_)).setCell ⟨w.heap.size, 3, none⟩ (.int .i64 b_)) g s p6 from (keep_set (keep_set HR6.out HGN.out 2 (.int .i64 a_)) HGN.out 3 (.int .i64 b_)))
  have F6x := Aside0.mk (FS.fresh (FS.fresh F6.out 2 (.int .i64 a_)) 3 (.int .i64 b_))
  have HL6x := HL6
  clear HO6 HR6 F6 y2 f2 y3 f3
  generalize (w6.setCell ⟨w.heap.size, 2, none⟩ (.int .i64 a_)).setCell ⟨w.heap.size, 3, none⟩ (.int .i64 b_) = u6 at *
  (try clear k0)
  have k0 : u6.cell? ⟨w.heap.size, 0, none⟩ = some (.int .i64 2) := blk_cell HO6x.out 0
  cases hp7 : smallR s p6 with
  | none =>
    have HP7 := Aside0.mk hp7; clear hp7
    go_wp2_with (first | (go_at_call 95; (with_reducible refine (smallr_calls g s p6 _ HR6x.out HL6x.out HS.out).mono ?_); rintro e w7 hx; rw [HP7.out] at hx; obtain ⟨rfl, hf_⟩ := hx; have F7 := Aside0.mk (F6x.out.trans hf_); clear hf_))
    refine ⟨rfl, ?_⟩
    show AfterX g w s p (gaveUp 3) _
    unfold AfterX
    rw [show recR s p = none by rw [HE.out]; simp only [HP2.out, HP3.out, HP4.out, HP5.out, HP6.out, HP7.out, Option.bind_some, Option.bind_none]]
    exact ⟨rfl, F7.out⟩
  | some q_ =>
  obtain ⟨n_, p7⟩ := q_
  have HL7 := Aside0.mk (show p7 ≤ s.size from (small_some hp7).2.1)
  have HNn_ := Aside0.mk (show 0 ≤ n_ ∧ n_ ≤ 255 from (small_some hp7).2.2)
  have HP7 := Aside0.mk hp7; clear hp7
  go_upto_region 14 with (first | (go_at_call 95; (with_reducible refine (smallr_calls g s p6 _ HR6x.out HL6x.out HS.out).mono ?_); rintro e w7 hx; rw [HP7.out] at hx; obtain ⟨rfl, hk_, hf_⟩ := hx; have HR7 := Aside0.mk hk_; have F7 := Aside0.mk (F6x.out.trans hf_); have HO7 := Aside0.mk (hf_.old HO6x.out HGO.out); clear hk_ hf_ HR6x F6x HO6x))
  (try clear k0)
  have k0 : w7.cell? ⟨w.heap.size, 0, none⟩ = some (.int .i64 2) := blk_cell HO7.out 0
  go_upto_region 16 with (fail)
  cases hp8 : takeR s p7 n_.toNat with
  | none =>
    have HP8 := Aside0.mk hp8; clear hp8
    go_wp2_with (first | (go_at_call 97; (with_reducible refine (take_lit g s p7 n_.toNat n_ (Int.toNat_of_nonneg HNn_.out.1).symm _ HR7.out HL7.out HS.out (by have := HNn_.out.2; omega)).mono ?_); rintro e w8 hx; rw [HP8.out] at hx; obtain ⟨rfl, hf_⟩ := hx; have F8 := Aside0.mk (F7.out.trans hf_); clear hf_))
    refine ⟨rfl, ?_⟩
    show AfterX g w s p (gaveUp 3) _
    unfold AfterX
    rw [show recR s p = none by rw [HE.out]; simp only [HP2.out, HP3.out, HP4.out, HP5.out, HP6.out, HP7.out, HP8.out, Option.bind_some, Option.bind_none]]
    exact ⟨rfl, F8.out⟩
  | some q_ =>
  obtain ⟨d_, p8⟩ := q_
  have HL8 := Aside0.mk (show p8 ≤ s.size from (take_size hp8).2.2)
  have HP8 := Aside0.mk hp8; clear hp8
  go_upto_region 27 with (first | (go_at_call 97; (with_reducible refine (take_lit g s p7 n_.toNat n_ (Int.toNat_of_nonneg HNn_.out.1).symm _ HR7.out HL7.out HS.out (by have := HNn_.out.2; omega)).mono ?_); rintro e w8 hx; rw [HP8.out] at hx; obtain ⟨rfl, hk_, hf_⟩ := hx; have HR8 := Aside0.mk hk_; have F8 := Aside0.mk (F7.out.trans hf_); have HO8 := Aside0.mk (hf_.old HO7.out HGO.out); clear hk_ hf_ HR7 F7 HO7; have y8 : w8.cell? ⟨w.heap.size, 8, none⟩ = some _ := blk_cell HO8.out 8; have f8 := blk_frozen HO8.out 8))
  have HO8x := Aside0.mk (show (w8.setCell ⟨w.heap.size, 8, none⟩ (.string d_)).heap[w.heap.size]? = some (.cells #[.int .i64 2, .int .i64 t_, .int .i64 a_, .int .i64 b_, .int .i64 v_, .int .i64 x_, .int .i64 0, .string ⟨#[]⟩, .string d_, .slice none 0 0, .slice none 0 0] 37 (0, 0)) from (set_blk HO8.out 8 (.string d_)))
  have HR8x := Aside0.mk (show RD (w8.setCell ⟨w.heap.size, 8, none⟩ (.string d_)) g s p8 from (keep_set HR8.out HGN.out 8 (.string d_)))
  have F8x := Aside0.mk (FS.fresh F8.out 8 (.string d_))
  have HL8x := HL8
  clear HO8 HR8 F8 y8 f8
  generalize w8.setCell ⟨w.heap.size, 8, none⟩ (.string d_) = u8 at *
  (try clear k0)
  have k0 : u8.cell? ⟨w.heap.size, 0, none⟩ = some (.int .i64 2) := blk_cell HO8x.out 0
  clear k0
  obtain ⟨x0, f0, x1, f1, x2, f2, x3, f3, x4, f4, x5, f5, x6, f6, x7, f7, x8, f8, x9, f9, x10, f10⟩ := cellsF11 u8 (w.heap.size) HO8x.out
  have HB_ := HO8x; have HRR := HR8x; have FFF := F8x
  go_wp2
  refine bodyPost_ret (v := .agg #[.int .i64 2, .int .i64 t_, .int .i64 a_, .int .i64 b_, .int .i64 v_, .int .i64 x_, .int .i64 0, .string ⟨#[]⟩, .string d_, .slice none 0 0, .slice none 0 0]) (by simp [results, Try.results92, go_sem, x0, x1, x2, x3, x4, x5, x6, x7, x8, x9, x10]) rfl ?_
  show AfterX g w s p _ _
  unfold AfterX
  rw [show recR s p = some ((⟨2, t_, a_, b_, v_, x_, 0, ⟨#[]⟩, d_, [], []⟩ : S37), p8) by rw [HE.out]; (try simp only [HP2.out, HP3.out, HP4.out, HP5.out, HP6.out, HP7.out, HP8.out, Option.bind_some])]
  refine ⟨_, _, rfl, Kd.R_nil _ _ _ _ _, Kd.R_nil _ _ _ _ _, ?_, ?_⟩
  · show RD _ g s p8
    repeat (first | (with_reducible refine RD.keep ?_ HGN.out _ _) | (with_reducible exact HRR.out))
  · repeat (first | (with_reducible refine FS.fresh ?_ _ _) | (with_reducible exact FFF.out))
set_option maxHeartbeats 4000000 in
theorem rrec_none (g : Nat) (s : ByteArray) (p p1 : Nat) (v0 : Int) (hk : v0 ≠ 1 ∧ v0 ≠ 2 ∧ ¬ (v0 = 3 ∨ v0 = 4) ∧ v0 ≠ 6) (w : World) (h : RD w g s p) (hp : p ≤ s.size) (hs : s.size ≤ 1000000000) (h0 : smallR s p = some (v0, p1)) : Calls Try.prog 92 #[.pointer (some ⟨g, 0, none⟩)] w fun x w' => AfterX g w s p x w' := by
  have HS := Aside0.mk (show s.size ≤ 1000000000000 by omega); have HL := Aside0.mk hp
  have HE := Aside0.mk (show recR s p = some (⟨v0, 0, 0, 0, 0, 0, 0, ⟨#[]⟩, ⟨#[]⟩, [], []⟩, p1) by unfold recR; rw [h0, Option.bind_some]; simp only; rw [if_neg hk.1, if_neg hk.2.1, if_neg hk.2.2.1, if_neg hk.2.2.2])
  have HL1 := Aside0.mk (show p1 ≤ s.size from (small_some h0).2.1)
  have HP1 := Aside0.mk h0
  have HGN := Aside0.mk (show g ≠ w.heap.size from Nat.ne_of_lt (blk_lt h))
  have HGO := Aside0.mk (show ¬ One g w.heap.size from fun e => HGN.out (e : w.heap.size = g).symm)
  have HR0 := Aside0.mk (h.below ((Below.refl _ _).alloc (Nat.le_refl _) (.cells #[.int .i64 0, .int .i64 0, .int .i64 0, .int .i64 0, .int .i64 0, .int .i64 0, .int .i64 0, .string ⟨#[]⟩, .string ⟨#[]⟩, .slice none 0 0, .slice none 0 0] 37)))
  have F0 := Aside0.mk ((FS.refl (One g) w).alloc (.cells #[.int .i64 0, .int .i64 0, .int .i64 0, .int .i64 0, .int .i64 0, .int .i64 0, .int .i64 0, .string ⟨#[]⟩, .string ⟨#[]⟩, .slice none 0 0, .slice none 0 0] 37))
  have HO0 := Aside0.mk (heap_alloc_new w (.cells #[.int .i64 0, .int .i64 0, .int .i64 0, .int .i64 0, .int .i64 0, .int .i64 0, .int .i64 0, .string ⟨#[]⟩, .string ⟨#[]⟩, .slice none 0 0, .slice none 0 0] 37))
  have e1 : (v0 == 1) = false := by rw [beq_eq_false_iff_ne]; exact hk.1
  have e2 : (v0 == 2) = false := by rw [beq_eq_false_iff_ne]; exact hk.2.1
  have e3 : (v0 == 3) = false := by rw [beq_eq_false_iff_ne]; omega
  have e4 : (v0 == 4) = false := by rw [beq_eq_false_iff_ne]; omega
  have e6 : (v0 == 6) = false := by rw [beq_eq_false_iff_ne]; exact hk.2.2.2
  clear h hp hs h0 hk
  go_enter Try.func92, Try.ntmps92
  go_upto_region 1 with (fail)
  generalize w.alloc (.cells #[.int .i64 0, .int .i64 0, .int .i64 0, .int .i64 0, .int .i64 0, .int .i64 0, .int .i64 0, .string ⟨#[]⟩, .string ⟨#[]⟩, .slice none 0 0, .slice none 0 0] 37) = W1 at *
  go_upto_region 2 with (go_at_call 95; (with_reducible refine (smallr_calls g s p _ HR0.out HL.out HS.out).mono ?_); rintro e w1 hx; rw [HP1.out] at hx; obtain ⟨rfl, hk_, hf_⟩ := hx; have HR1 := Aside0.mk hk_; have F1 := Aside0.mk (F0.out.trans hf_); have HO1 := Aside0.mk (hf_.old HO0.out HGO.out); clear hk_ hf_ HR0 F0 HO0; have y0 : w1.cell? ⟨w.heap.size, 0, none⟩ = some _ := blk_cell HO1.out 0; have f0 := blk_frozen HO1.out 0)
  have HO1x := Aside0.mk (show (w1.setCell ⟨w.heap.size, 0, none⟩ (.int .i64 v0)).heap[w.heap.size]? = some (.cells #[.int .i64 v0, .int .i64 0, .int .i64 0, .int .i64 0, .int .i64 0, .int .i64 0, .int .i64 0, .string ⟨#[]⟩, .string ⟨#[]⟩, .slice none 0 0, .slice none 0 0] 37 (0, 0)) from set_blk HO1.out 0 (.int .i64 v0))
  have HR1x := Aside0.mk (show RD (w1.setCell ⟨w.heap.size, 0, none⟩ (.int .i64 v0)) g s p1 from keep_set HR1.out HGN.out 0 _)
  have F1x := Aside0.mk (FS.fresh F1.out 0 (.int .i64 v0))
  have HL1x := HL1
  clear HO1 HR1 F1 y0 f0
  generalize w1.setCell ⟨w.heap.size, 0, none⟩ (.int .i64 v0) = u1 at *
  have k0 : u1.cell? ⟨w.heap.size, 0, none⟩ = some (.int .i64 v0) := blk_cell HO1x.out 0
  go_upto_region 27 with (fail)
  clear k0
  obtain ⟨x0, f0, x1, f1, x2, f2, x3, f3, x4, f4, x5, f5, x6, f6, x7, f7, x8, f8, x9, f9, x10, f10⟩ := cellsF11 u1 (w.heap.size) HO1x.out
  have HB_ := HO1x; have HRR := HR1x; have FFF := F1x
  go_wp2
  refine bodyPost_ret (v := .agg #[.int .i64 v0, .int .i64 0, .int .i64 0, .int .i64 0, .int .i64 0, .int .i64 0, .int .i64 0, .string ⟨#[]⟩, .string ⟨#[]⟩, .slice none 0 0, .slice none 0 0]) (by simp [results, Try.results92, go_sem, x0, x1, x2, x3, x4, x5, x6, x7, x8, x9, x10]) rfl ?_
  show AfterX g w s p _ _
  unfold AfterX
  rw [show recR s p = some ((⟨v0, 0, 0, 0, 0, 0, 0, ⟨#[]⟩, ⟨#[]⟩, [], []⟩ : S37), p1) by rw [HE.out]; (try simp only [Option.bind_some])]
  refine ⟨_, _, rfl, Kd.R_nil _ _ _ _ _, Kd.R_nil _ _ _ _ _, ?_, ?_⟩
  · show RD _ g s p1
    repeat (first | (with_reducible refine RD.keep ?_ HGN.out _ _) | (with_reducible exact HRR.out))
  · repeat (first | (with_reducible refine FS.fresh ?_ _ _) | (with_reducible exact FFF.out))
end Go.Proofs.Ytbnglmeljbiglaa.Wr
set_option maxRecDepth 8192
namespace Go.Proofs.Ytbnglmeljbiglaa.Wr
open Go.Proofs.Ytbnglmeljbiglaa.Rp Go.Proofs.Ytbnglmeljbiglaa.X4
open Go Go.RowKit Go.ChangeMaps Go.Proofs.Ytbnglmeljbiglaa.Arr Go.Proofs.Ytbnglmeljbiglaa.Ow Go.Proofs.YtbnglmeljbiglaaW.PrintWords Go.Proofs.YtbnglmeljbiglaaW.PrintLast Go.Proofs.YtbnglmeljbiglaaW.PrintMore
set_option linter.unusedVariables false
set_option linter.unusedSimpArgs false
theorem ap_ {P : Program} {ops : Array Oper} {Q : Exit → Act → World → Prop} {oi : Oper} {N : Option Tmp} {a : Act} {w w1 : World} {v : Value} {K : Act → World → Prop} (s x : Operand) (t : TypeId) (hw : Region.wanted oi (yielded ops a.tmps) = true) (hN : oi.dst = N)
    (ho : oi.op = .call { callee := .builtin .append, args := #[s, x], argTypes := #[t, t] }) (v1 v2 : Value) (hs : a.eval s = v1) (hx : a.eval x = v2) (hr : (Builtin.append_ #[t, t] oi.type #[v1, v2]).run P w = .ok v w1)
    (h : K (a.put N v) w1) : if Region.wanted oi (yielded ops a.tmps) = true then Oper.wp P oi a w K Q else K (a.put N undef) w := by
  refine value_ hw hN ?_ h
  unfold execOp
  simp only [ho, resolve, invoke, builtin, Sem.run_bind, Sem.run_pure, Result.andThen_ok, List.map_toArray, List.map_cons, List.map_nil, hs, hx, hr]
theorem ow_ne2 {w : World} {S S2 : Nat → Prop} {e e2 : TypeId} {sz sz2 : Nat} {v v2 : Value} {n n2 : Nat} {xs xs2 : List Value} (h : Ow w S e sz v n xs) (h2 : Ow w S2 e2 sz2 v2 n2 xs2) (ht : e2 ≠ e) : ∀ k, v.ownBlock = some k → v2.ownBlock ≠ some k := fun k hk e1 => by
  rcases h2.own.2 with ⟨rfl, _⟩ | ⟨g', cap, cur, rfl, _, hg, _⟩
  · cases e1
  · injection e1 with e1
    subst e1
    exact ow_ne h hg ht _ hk rfl
theorem Ow.far {w : World} {S : Nat → Prop} {e T : TypeId} {sz : Nat} {v : Value} {n : Nat} {xs : List Value} {o : Nat} {cs : Array Value} (h : Ow w S e sz v n xs) (hb : w.heap[o]? = some (.cells cs T (0, 0))) (hT : T ≠ e) (j : Nat) (u : Value) : Ow (w.setCell ⟨o, j, none⟩ u) S e sz v n xs :=
  h.same fun k hk => Below.heap_setCell w ⟨o, j, none⟩ u k (ow_ne h hb hT k hk)
theorem Ow.based {w : World} {S : Nat → Prop} {e : TypeId} {sz : Nat} {v : Value} {n : Nat} {xs : List Value} (h : Ow w S e sz v n xs) {B : Nat} (hB : ∀ k, S k → B ≤ k) : w.ownsRow B e sz v n xs := by
  refine ⟨h.own.1, ?_⟩
  rcases h.own.2 with h1 | ⟨g', cap, cur, rfl, _, r⟩
  · exact .inl h1
  · exact .inr ⟨g', cap, cur, rfl, hB g' (h.mem g' rfl), r⟩
theorem ow_fresh {w : World} {S : Nat → Prop} {e T : TypeId} {sz : Nat} {v : Value} {n : Nat} {xs : List Value} {o : Nat} (h : Ow w S e sz v n xs) (hT : T ≠ e) (j : Nat) (u : Value) (hb : ∃ cs, w.heap[o]? = some (.cells cs T (0, 0))) : Ow (w.setCell ⟨o, j, none⟩ u) S e sz v n xs := by
  obtain ⟨cs, hb⟩ := hb
  exact Wr.Ow.far h hb hT j u
theorem cells_kept {w : World} {T : TypeId} {o : Nat} (hb : ∃ cs, w.heap[o]? = some (.cells cs T (0, 0))) (j : Nat) (u : Value) : ∃ cs, (w.setCell ⟨o, j, none⟩ u).heap[o]? = some (.cells cs T (0, 0)) := by
  obtain ⟨cs, hb⟩ := hb
  exact ⟨_, set_blk hb j u⟩
abbrev From (B : Nat) : Nat → Prop := fun k => B ≤ k
def flatT (L : List S107) : List Value := L.flatMap fun x => [.int .i64 x.f0, .int .i64 x.f1, .int .i64 x.f2]
theorem infoT : (Try.prog.info? 107).map (fun i => (i.zero, i.size, i.bytes)) = some (some (.agg #[.int .i64 0, .int .i64 0, .int .i64 0]), 3, 24) := by kernel_rfl
theorem flatT_snoc (L : List S107) (x : S107) : flatT (L ++ [x]) = flatT L ++ [.int .i64 x.f0, .int .i64 x.f1, .int .i64 x.f2] := by unfold flatT; rw [List.flatMap_append]; rfl
theorem push_rowT {w : World} {S : Nat → Prop} {v : Value} (L : List S107) (x : S107) (h : Ow w S 107 3 v L.length (flatT L)) (hl : L.length ≤ 1000000) {nb : Nat} (hnb : w.heap[nb]? = some (.cells #[.int .i64 x.f0, .int .i64 x.f1, .int .i64 x.f2] 107 (0, 0))) (ty : TypeId) :
    ∃ v' w', (Builtin.append_ #[34, 34] ty #[v, .slice (some ⟨nb, 0, none⟩) 1 1]).run Try.prog w = .ok v' w' ∧ Ow w' (fun k => S k ∨ k = w.heap.size) 107 3 v' (L ++ [x]).length (flatT (L ++ [x])) ∧ w.grownBy w' v.ownBlock ∧ ∃ g' c', v' = .slice (some ⟨g', 0, none⟩) (L.length + 1) c' := by
  obtain ⟨i0, hi0, h2⟩ := Option.map_eq_some_iff.1 infoT
  have hz : i0.zero = some (.agg #[.int .i64 0, .int .i64 0, .int .i64 0]) := congrArg Prod.fst h2
  have hs : i0.size = 3 := congrArg (fun p => p.2.1) h2
  have hb : i0.bytes = 24 := congrArg (fun p => p.2.2) h2
  obtain ⟨v', w', r1, r2, r3, _, r5⟩ := run_append_ow (P := Try.prog) (ty := ty) 34 107 i0 _ 3 24 (by kernel_rfl) hi0 hz hs hb rfl (by decide) v L.length _ h ⟨nb, 0, none⟩ 1 1 [.int .i64 x.f0, .int .i64 x.f1, .int .i64 x.f2] rfl (fun j u hj => by
    rw [add_plain]
    exact (blk_cell hnb j).trans (by simpa using hj)) (fun u hu => by
    simp only [List.mem_cons, List.not_mem_nil, or_false] at hu
    rcases hu with rfl | rfl | rfl <;> rfl) (by simp only [maxLen]; omega) (by omega) (by decide)
  refine ⟨v', w', r1, ?_, r3, r5⟩
  rw [List.length_append, flatT_snoc]
  exact r2
theorem ow_RT {w : World} {S : Nat → Prop} {v : Value} {L : List S107} {B : Nat} (h : Ow w S 107 3 v L.length (flatT L)) (hB : ∀ k, S k → B ≤ k) : Kd.R k107 107 w B (fun _ => True) v L := by
  refine ⟨fun _ _ => trivial, flatT L, Wr.Ow.based h hB, ?_⟩
  have key : ∀ M : List S107, Reps (k107.M w B (fun k => True ∧ some k ≠ v.ownBlock)) 3 M.reverse (flatT M.reverse) := fun M => by
    induction M with
    | nil => exact Reps.none _ _
    | cons x t ih =>
      rw [List.reverse_cons, flatT_snoc]
      exact ih.snoc (k107_mkM _ _ _ x) rfl
  have := key L.reverse
  rwa [List.reverse_reverse] at this
theorem rowsT_none {s : ByteArray} {p k q n : Nat} {L : List S107} (h : rowsT s k p = some (L, q)) (h1 : rowT1 s q = none) (hk : k < n) : rowsT s n p = none := by
  induction n with
  | zero => omega
  | succ n ih =>
    simp only [rowsT]
    by_cases e : k = n
    · subst e
      rw [h]
      simp only [Option.bind_some, h1]
      rfl
    · rw [ih (by omega)]
      rfl
theorem rowsT_succ {s : ByteArray} {p k q : Nat} {L : List S107} {x : S107} {q2 : Nat} (h : rowsT s k p = some (L, q)) (h1 : rowT1 s q = some (x, q2)) : rowsT s (k + 1) p = some (L ++ [x], q2) := by
  simp only [rowsT, h, Option.bind_some, h1]
def flatQ (L : List S109) : List Value := L.flatMap fun x => [.int .i64 x.f0, .int .i64 x.f1]
theorem infoQ : (Try.prog.info? 109).map (fun i => (i.zero, i.size, i.bytes)) = some (some (.agg #[.int .i64 0, .int .i64 0]), 2, 16) := by kernel_rfl
theorem flatQ_snoc (L : List S109) (x : S109) : flatQ (L ++ [x]) = flatQ L ++ [.int .i64 x.f0, .int .i64 x.f1] := by unfold flatQ; rw [List.flatMap_append]; rfl
theorem push_rowQ {w : World} {S : Nat → Prop} {v : Value} (L : List S109) (x : S109) (h : Ow w S 109 2 v L.length (flatQ L)) (hl : L.length ≤ 1000000) {nb : Nat} (hnb : w.heap[nb]? = some (.cells #[.int .i64 x.f0, .int .i64 x.f1] 109 (0, 0))) (ty : TypeId) :
    ∃ v' w', (Builtin.append_ #[35, 35] ty #[v, .slice (some ⟨nb, 0, none⟩) 1 1]).run Try.prog w = .ok v' w' ∧ Ow w' (fun k => S k ∨ k = w.heap.size) 109 2 v' (L ++ [x]).length (flatQ (L ++ [x])) ∧ w.grownBy w' v.ownBlock ∧ ∃ g' c', v' = .slice (some ⟨g', 0, none⟩) (L.length + 1) c' := by
  obtain ⟨i0, hi0, h2⟩ := Option.map_eq_some_iff.1 infoQ
  have hz : i0.zero = some (.agg #[.int .i64 0, .int .i64 0]) := congrArg Prod.fst h2
  have hs : i0.size = 2 := congrArg (fun p => p.2.1) h2
  have hb : i0.bytes = 16 := congrArg (fun p => p.2.2) h2
  obtain ⟨v', w', r1, r2, r3, _, r5⟩ := run_append_ow (P := Try.prog) (ty := ty) 35 109 i0 _ 2 16 (by kernel_rfl) hi0 hz hs hb rfl (by decide) v L.length _ h ⟨nb, 0, none⟩ 1 1 [.int .i64 x.f0, .int .i64 x.f1] rfl (fun j u hj => by
    rw [add_plain]
    exact (blk_cell hnb j).trans (by simpa using hj)) (fun u hu => by
    simp only [List.mem_cons, List.not_mem_nil, or_false] at hu
    rcases hu with rfl | rfl <;> rfl) (by simp only [maxLen]; omega) (by omega) (by decide)
  refine ⟨v', w', r1, ?_, r3, r5⟩
  rw [List.length_append, flatQ_snoc]
  exact r2
theorem ow_RQ {w : World} {S : Nat → Prop} {v : Value} {L : List S109} {B : Nat} (h : Ow w S 109 2 v L.length (flatQ L)) (hB : ∀ k, S k → B ≤ k) : Kd.R k109 109 w B (fun _ => True) v L := by
  refine ⟨fun _ _ => trivial, flatQ L, Wr.Ow.based h hB, ?_⟩
  have key : ∀ M : List S109, Reps (k109.M w B (fun k => True ∧ some k ≠ v.ownBlock)) 2 M.reverse (flatQ M.reverse) := fun M => by
    induction M with
    | nil => exact Reps.none _ _
    | cons x t ih =>
      rw [List.reverse_cons, flatQ_snoc]
      exact ih.snoc (k109_mkM _ _ _ x) rfl
  have := key L.reverse
  rwa [List.reverse_reverse] at this
theorem rowsQ_none {s : ByteArray} {p k q n : Nat} {L : List S109} (h : rowsQ s k p = some (L, q)) (h1 : rowQ1 s q = none) (hk : k < n) : rowsQ s n p = none := by
  induction n with
  | zero => omega
  | succ n ih =>
    simp only [rowsQ]
    by_cases e : k = n
    · subst e
      rw [h]
      simp only [Option.bind_some, h1]
      rfl
    · rw [ih (by omega)]
      rfl
theorem rowsQ_succ {s : ByteArray} {p k q : Nat} {L : List S109} {x : S109} {q2 : Nat} (h : rowsQ s k p = some (L, q)) (h1 : rowQ1 s q = some (x, q2)) : rowsQ s (k + 1) p = some (L ++ [x], q2) := by
  simp only [rowsQ, h, Option.bind_some, h1]
end Go.Proofs.Ytbnglmeljbiglaa.Wr
set_option maxRecDepth 8192
namespace Go.Proofs.Ytbnglmeljbiglaa.Sa
open Go Go.RowKit Go.ChangeMaps Go.Proofs.Ytbnglmeljbiglaa.Rp Go.Proofs.Ytbnglmeljbiglaa.X4 Go.Proofs.YtbnglmeljbiglaaW.PrintWords Go.Proofs.YtbnglmeljbiglaaW.PrintLast Go.Proofs.YtbnglmeljbiglaaW.PrintMore
set_option linter.unusedVariables false
set_option linter.unusedSimpArgs false
attribute [local go_sem high] eqA107 eqA109
set_option maxHeartbeats 4000000 in
set_option maxRecDepth 100000 in
theorem rsame_calls (a b : S37) (A9 : Option Addr) (c9 : Nat) (A10 : Option Addr) (c10 : Nat) (B9 : Option Addr) (d9 : Nat) (B10 : Option Addr) (d10 : Nat) (w : World)
    (h9 : Kd.C k107 w A9 a.f9.length a.f9) (h10 : Kd.C k109 w A10 a.f10.length a.f10) (g9 : Kd.C k107 w B9 b.f9.length b.f9) (g10 : Kd.C k109 w B10 b.f10.length b.f10) (s9 : a.f9.length ≤ 1000000) (s10 : a.f10.length ≤ 1000000) :
    Calls Try.prog 28 #[aggR a A9 c9 A10 c10, aggR b B9 d9 B10 d10] w fun e w' => e = .returned (.bool (decide (a = b))) ∧ Below w.heap.size w w' := by
  have hu := Try.underlying107; have hu2 := Try.underlying109
  have H9 := Aside0.mk h9; have H10 := Aside0.mk h10; have G9 := Aside0.mk g9; have G10 := Aside0.mk g10; have S9 := Aside0.mk s9; have S10 := Aside0.mk s10
  clear h9 h10 g9 g10 s9 s10
  by_cases h0 : a.f0 = b.f0
  rotate_left
  · have e0 : (a.f0 == b.f0) = false := by rw [beq_eq_false_iff_ne]; exact h0
    have n0 : (a.f0 != b.f0) = true := by rw [bne_iff_ne]; exact h0
    have HN := Aside0.mk (show decide (a = b) = false from decide_eq_false fun e => h0 (by rw [e]))
    clear h0
    go_enter Try.func28, Try.ntmps28
    go_wp2
    go_ret
    exact ⟨by rw [HN.out]; rfl, ((Below.refl w.heap.size w).alloc (Nat.le_refl _) _).alloc (by simp) _⟩
  have e0 : (a.f0 == b.f0) = true := by rw [beq_iff_eq, h0]
  have n0 : (a.f0 != b.f0) = false := by rw [bne_eq_false_iff_eq, h0]
  have Q0 := Aside0.mk h0; clear h0
  by_cases h1 : a.f1 = b.f1
  rotate_left
  · have e1 : (a.f1 == b.f1) = false := by rw [beq_eq_false_iff_ne]; exact h1
    have n1 : (a.f1 != b.f1) = true := by rw [bne_iff_ne]; exact h1
    have HN := Aside0.mk (show decide (a = b) = false from decide_eq_false fun e => h1 (by rw [e]))
    clear h1
    go_enter Try.func28, Try.ntmps28
    go_wp2
    go_ret
    exact ⟨by rw [HN.out]; rfl, ((Below.refl w.heap.size w).alloc (Nat.le_refl _) _).alloc (by simp) _⟩
  have e1 : (a.f1 == b.f1) = true := by rw [beq_iff_eq, h1]
  have n1 : (a.f1 != b.f1) = false := by rw [bne_eq_false_iff_eq, h1]
  have Q1 := Aside0.mk h1; clear h1
  by_cases h2 : a.f2 = b.f2
  rotate_left
  · have e2 : (a.f2 == b.f2) = false := by rw [beq_eq_false_iff_ne]; exact h2
    have n2 : (a.f2 != b.f2) = true := by rw [bne_iff_ne]; exact h2
    have HN := Aside0.mk (show decide (a = b) = false from decide_eq_false fun e => h2 (by rw [e]))
    clear h2
    go_enter Try.func28, Try.ntmps28
    go_wp2
    go_ret
    exact ⟨by rw [HN.out]; rfl, ((Below.refl w.heap.size w).alloc (Nat.le_refl _) _).alloc (by simp) _⟩
  have e2 : (a.f2 == b.f2) = true := by rw [beq_iff_eq, h2]
  have n2 : (a.f2 != b.f2) = false := by rw [bne_eq_false_iff_eq, h2]
  have Q2 := Aside0.mk h2; clear h2
  by_cases h3 : a.f3 = b.f3
  rotate_left
  · have e3 : (a.f3 == b.f3) = false := by rw [beq_eq_false_iff_ne]; exact h3
    have n3 : (a.f3 != b.f3) = true := by rw [bne_iff_ne]; exact h3
    have HN := Aside0.mk (show decide (a = b) = false from decide_eq_false fun e => h3 (by rw [e]))
    clear h3
    go_enter Try.func28, Try.ntmps28
    go_wp2
    go_ret
    exact ⟨by rw [HN.out]; rfl, ((Below.refl w.heap.size w).alloc (Nat.le_refl _) _).alloc (by simp) _⟩
  have e3 : (a.f3 == b.f3) = true := by rw [beq_iff_eq, h3]
  have n3 : (a.f3 != b.f3) = false := by rw [bne_eq_false_iff_eq, h3]
  have Q3 := Aside0.mk h3; clear h3
  by_cases h4 : a.f4 = b.f4
  rotate_left
  · have e4 : (a.f4 == b.f4) = false := by rw [beq_eq_false_iff_ne]; exact h4
    have n4 : (a.f4 != b.f4) = true := by rw [bne_iff_ne]; exact h4
    have HN := Aside0.mk (show decide (a = b) = false from decide_eq_false fun e => h4 (by rw [e]))
    clear h4
    go_enter Try.func28, Try.ntmps28
    go_wp2
    go_ret
    exact ⟨by rw [HN.out]; rfl, ((Below.refl w.heap.size w).alloc (Nat.le_refl _) _).alloc (by simp) _⟩
  have e4 : (a.f4 == b.f4) = true := by rw [beq_iff_eq, h4]
  have n4 : (a.f4 != b.f4) = false := by rw [bne_eq_false_iff_eq, h4]
  have Q4 := Aside0.mk h4; clear h4
  by_cases h5 : a.f5 = b.f5
  rotate_left
  · have e5 : (a.f5 == b.f5) = false := by rw [beq_eq_false_iff_ne]; exact h5
    have n5 : (a.f5 != b.f5) = true := by rw [bne_iff_ne]; exact h5
    have HN := Aside0.mk (show decide (a = b) = false from decide_eq_false fun e => h5 (by rw [e]))
    clear h5
    go_enter Try.func28, Try.ntmps28
    go_wp2
    go_ret
    exact ⟨by rw [HN.out]; rfl, ((Below.refl w.heap.size w).alloc (Nat.le_refl _) _).alloc (by simp) _⟩
  have e5 : (a.f5 == b.f5) = true := by rw [beq_iff_eq, h5]
  have n5 : (a.f5 != b.f5) = false := by rw [bne_eq_false_iff_eq, h5]
  have Q5 := Aside0.mk h5; clear h5
  by_cases h6 : a.f6 = b.f6
  rotate_left
  · have e6 : (a.f6 == b.f6) = false := by rw [beq_eq_false_iff_ne]; exact h6
    have n6 : (a.f6 != b.f6) = true := by rw [bne_iff_ne]; exact h6
    have HN := Aside0.mk (show decide (a = b) = false from decide_eq_false fun e => h6 (by rw [e]))
    clear h6
    go_enter Try.func28, Try.ntmps28
    go_wp2
    go_ret
    exact ⟨by rw [HN.out]; rfl, ((Below.refl w.heap.size w).alloc (Nat.le_refl _) _).alloc (by simp) _⟩
  have e6 : (a.f6 == b.f6) = true := by rw [beq_iff_eq, h6]
  have n6 : (a.f6 != b.f6) = false := by rw [bne_eq_false_iff_eq, h6]
  have Q6 := Aside0.mk h6; clear h6
  by_cases h7 : a.f7 = b.f7
  rotate_left
  · have e7 : (a.f7.toList == b.f7.toList) = false := by rw [beq_eq_false_iff_ne]; exact fun e => h7 ((toList_eq _ _).1 e)
    have n7 : (a.f7.toList != b.f7.toList) = true := by rw [bne_iff_ne]; exact fun e => h7 ((toList_eq _ _).1 e)
    have HN := Aside0.mk (show decide (a = b) = false from decide_eq_false fun e => h7 (by rw [e]))
    clear h7
    go_enter Try.func28, Try.ntmps28
    go_wp2
    go_ret
    exact ⟨by rw [HN.out]; rfl, ((Below.refl w.heap.size w).alloc (Nat.le_refl _) _).alloc (by simp) _⟩
  have e7 : (a.f7.toList == b.f7.toList) = true := by rw [beq_iff_eq, h7]
  have n7 : (a.f7.toList != b.f7.toList) = false := by rw [bne_eq_false_iff_eq, h7]
  have Q7 := Aside0.mk h7; clear h7
  by_cases h8 : a.f8 = b.f8
  rotate_left
  · have e8 : (a.f8.toList == b.f8.toList) = false := by rw [beq_eq_false_iff_ne]; exact fun e => h8 ((toList_eq _ _).1 e)
    have n8 : (a.f8.toList != b.f8.toList) = true := by rw [bne_iff_ne]; exact fun e => h8 ((toList_eq _ _).1 e)
    have HN := Aside0.mk (show decide (a = b) = false from decide_eq_false fun e => h8 (by rw [e]))
    clear h8
    go_enter Try.func28, Try.ntmps28
    go_wp2
    go_ret
    exact ⟨by rw [HN.out]; rfl, ((Below.refl w.heap.size w).alloc (Nat.le_refl _) _).alloc (by simp) _⟩
  have e8 : (a.f8.toList == b.f8.toList) = true := by rw [beq_iff_eq, h8]
  have n8 : (a.f8.toList != b.f8.toList) = false := by rw [bne_eq_false_iff_eq, h8]
  have Q8 := Aside0.mk h8; clear h8
  by_cases h9 : a.f9.length = b.f9.length
  rotate_left
  · have e9 : ((a.f9.length : Int) != (b.f9.length : Int)) = true := by rw [bne_iff_ne]; omega
    have n9 : (a.f9.length == b.f9.length) = false := by rw [beq_eq_false_iff_ne]; exact h9
    have HN := Aside0.mk (show decide (a = b) = false from decide_eq_false fun e => h9 (by rw [e]))
    clear h9
    go_enter Try.func28, Try.ntmps28
    go_wp2
    go_ret
    exact ⟨by rw [HN.out]; rfl, ((Below.refl w.heap.size w).alloc (Nat.le_refl _) _).alloc (by simp) _⟩
  have e9 : ((a.f9.length : Int) != (b.f9.length : Int)) = false := by rw [bne_eq_false_iff_eq]; omega
  have n9 : (a.f9.length == b.f9.length) = true := by rw [beq_iff_eq]; exact h9
  have HL9 := Aside0.mk h9; clear h9
  by_cases h10 : a.f10.length = b.f10.length
  rotate_left
  · have e10 : ((a.f10.length : Int) != (b.f10.length : Int)) = true := by rw [bne_iff_ne]; omega
    have n10 : (a.f10.length == b.f10.length) = false := by rw [beq_eq_false_iff_ne]; exact h10
    have HN := Aside0.mk (show decide (a = b) = false from decide_eq_false fun e => h10 (by rw [e]))
    clear h10
    go_enter Try.func28, Try.ntmps28
    go_wp2
    go_ret
    exact ⟨by rw [HN.out]; rfl, ((Below.refl w.heap.size w).alloc (Nat.le_refl _) _).alloc (by simp) _⟩
  have e10 : ((a.f10.length : Int) != (b.f10.length : Int)) = false := by rw [bne_eq_false_iff_eq]; omega
  have n10 : (a.f10.length == b.f10.length) = true := by rw [beq_iff_eq]; exact h10
  have HL10 := Aside0.mk h10; clear h10
  go_enter Try.func28, Try.ntmps28
  go_upto_region 4 with (fail)
  obtain ⟨W0, hW0, hB, hA_, hB_⟩ : ∃ W0, W0 = (w.alloc (.cells #[.int .i64 a.f0, .int .i64 a.f1, .int .i64 a.f2, .int .i64 a.f3, .int .i64 a.f4, .int .i64 a.f5, .int .i64 a.f6, .string a.f7, .string a.f8, .slice A9 a.f9.length c9, .slice A10 a.f10.length c10] 37)).alloc (.cells #[.int .i64 b.f0, .int .i64 b.f1, .int .i64 b.f2, .int .i64 b.f3, .int .i64 b.f4, .int .i64 b.f5, .int .i64 b.f6, .string b.f7, .string b.f8, .slice B9 b.f9.length d9, .slice B10 b.f10.length d10] 37) ∧ Below w.heap.size w W0 ∧ W0.heap[w.heap.size]? = some (.cells #[.int .i64 a.f0, .int .i64 a.f1, .int .i64 a.f2, .int .i64 a.f3, .int .i64 a.f4, .int .i64 a.f5, .int .i64 a.f6, .string a.f7, .string a.f8, .slice A9 a.f9.length c9, .slice A10 a.f10.length c10] 37 (0, 0)) ∧ W0.heap[w.heap.size + 1]? = some (.cells #[.int .i64 b.f0, .int .i64 b.f1, .int .i64 b.f2, .int .i64 b.f3, .int .i64 b.f4, .int .i64 b.f5, .int .i64 b.f6, .string b.f7, .string b.f8, .slice B9 b.f9.length d9, .slice B10 b.f10.length d10] 37 (0, 0)) := ⟨_, rfl, ((Below.refl w.heap.size w).alloc (Nat.le_refl _) _).alloc (by simp) _, (two_below (Below.refl _ _)).1, (two_below (Below.refl _ _)).2⟩
  rw [← hW0]
  clear hW0 e0 n0 e1 n1 e2 n2 e3 n3 e4 n4 e5 n5 e6 n6 e7 n7 e8 n8 e9 n9 e10 n10
  have HB := Aside0.mk hB
  have C9 := Aside0.mk (Kd.C_below H9.out hB); have C10 := Aside0.mk (Kd.C_below H10.out hB); have D9 := Aside0.mk (Kd.C_below G9.out hB); have D10 := Aside0.mk (Kd.C_below G10.out hB)
  have q9 : W0.cell? ⟨w.heap.size, 9, none⟩ = some (.slice A9 a.f9.length c9) := blk_cell hA_ 9
  have q10 : W0.cell? ⟨w.heap.size, 10, none⟩ = some (.slice A10 a.f10.length c10) := blk_cell hA_ 10
  have p9 : W0.cell? ⟨w.heap.size + 1, 9, none⟩ = some (.slice B9 b.f9.length d9) := blk_cell hB_ 9
  have p10 : W0.cell? ⟨w.heap.size + 1, 10, none⟩ = some (.slice B10 b.f10.length d10) := blk_cell hB_ 10
  clear hB hA_ hB_
  go_loopw [5] (fun v wr => ∃ k : Nat, v = .int .i64 k ∧ Aside0 (k ≤ a.f9.length) ∧ Aside0 (a.f9.take k = b.f9.take k) ∧ Aside0 (∃ m, wr = W0.drewN m)) (fun v _ => a.f9.length - (intOf v).toNat)
  case atStart => exact ⟨0, rfl, ⟨Nat.zero_le _⟩, ⟨rfl⟩, ⟨⟨0, rfl⟩⟩⟩
  case round =>
    obtain ⟨k, rfl, K, HT, HW⟩ := hrel
    obtain ⟨m, rfl⟩ := HW.out
    by_cases hlt : k < a.f9.length
    · have h1 : (k : Int) < (a.f9.length : Int) := by omega
      have h1b : (k : Int) < (b.f9.length : Int) := by have := HL9.out; omega
      have h2 : (0 : Int) ≤ (k : Int) := by omega
      have hly : k < b.f9.length := by have := HL9.out; omega
      have hwk : wrap64 ((k : Int) + 1) = ((k + 1 : Nat) : Int) := by have := S9.out; unfold wrap64; omega
      obtain ⟨ad, e_, x0, x1, x2⟩ := at_T107 C9.out k h2 h1
      obtain ⟨bd, e2_, y0, y1, y2⟩ := at_T107 D9.out k h2 h1b
      have hX : a.f9[k]? = some (rd_T107 a.f9 k) := by unfold rd_T107; rw [Int.toNat_natCast, List.getD_eq_getElem?_getD, List.getElem?_eq_getElem (by omega)]; rfl
      have hY : b.f9[k]? = some (rd_T107 b.f9 k) := by unfold rd_T107; rw [Int.toNat_natCast, List.getD_eq_getElem?_getD, List.getElem?_eq_getElem (by omega)]; rfl
      have HX := Aside0.mk hX; have HY := Aside0.mk hY; clear hX hY
      simp only [Int.toNat_natCast] at x0 x1 x2 y0 y1 y2
      subst e_; subst e2_
      generalize rd_T107 a.f9 k = x at *
      generalize rd_T107 b.f9 k = y at *
      have HLT := Aside0.mk hlt
      by_cases hxy : x = y
      · have n1 : (!(x.f0 == y.f0) || (!(x.f1 == y.f1) || (!(x.f2 == y.f2)))) = false := (neT_iff x y).2 hxy
        have HXY := Aside0.mk hxy; clear hxy hlt
        go_wp2
        go_quiet (fail)
        go_wp2
        (try simp only [hwk])
        refine ⟨⟨k + 1, rfl, ⟨HLT.out⟩, ⟨take_eqT HT.out HX.out (by rw [HXY.out]; exact HY.out)⟩, ⟨⟨_, rfl⟩⟩⟩, ?_⟩
        have := HLT.out
        show a.f9.length - (intOf (.int .i64 ((k + 1 : Nat) : Int))).toNat < a.f9.length - (intOf (.int .i64 (k : Int))).toNat
        simp only [intOf]; omega
      · have n1 : (!(x.f0 == y.f0) || (!(x.f1 == y.f1) || (!(x.f2 == y.f2)))) = true := by rw [← Bool.not_eq_false, neT_iff]; exact hxy
        have HN := Aside0.mk (show decide (a = b) = false from decide_eq_false fun e => take_neT HX.out HY.out hxy (by rw [e]))
        clear hxy hlt
        go_wp2
        go_quiet (fail)
        go_wp2
        go_ret
        exact ⟨by rw [HN.out]; rfl, pw_below_drewN (pw_below_drewN HB.out _) _⟩
    · obtain rfl : k = a.f9.length := by have := K.out; omega
      have HQ9 := Aside0.mk (show a.f9 = b.f9 by have h := HT.out; rwa [List.take_length, HL9.out, List.take_length] at h)
      clear hlt
      go_upto_region 9 with (fail)
      go_loopw [6] (fun v wr => ∃ k : Nat, v = .int .i64 k ∧ Aside0 (k ≤ a.f10.length) ∧ Aside0 (a.f10.take k = b.f10.take k) ∧ Aside0 (∃ m, wr = W0.drewN m)) (fun v _ => a.f10.length - (intOf v).toNat)
      case atStart => exact ⟨0, rfl, ⟨Nat.zero_le _⟩, ⟨rfl⟩, ⟨⟨_, rfl⟩⟩⟩
      case round =>
        obtain ⟨k, rfl, K, HT, HW⟩ := hrel
        obtain ⟨m, rfl⟩ := HW.out
        by_cases hlt : k < a.f10.length
        · have h1 : (k : Int) < (a.f10.length : Int) := by omega
          have h1b : (k : Int) < (b.f10.length : Int) := by have := HL10.out; omega
          have h2 : (0 : Int) ≤ (k : Int) := by omega
          have hly : k < b.f10.length := by have := HL10.out; omega
          have hwk : wrap64 ((k : Int) + 1) = ((k + 1 : Nat) : Int) := by have := S10.out; unfold wrap64; omega
          obtain ⟨ad, e_, x0, x1⟩ := at_T109 C10.out k h2 h1
          obtain ⟨bd, e2_, y0, y1⟩ := at_T109 D10.out k h2 h1b
          have hX : a.f10[k]? = some (rd_T109 a.f10 k) := by unfold rd_T109; rw [Int.toNat_natCast, List.getD_eq_getElem?_getD, List.getElem?_eq_getElem (by omega)]; rfl
          have hY : b.f10[k]? = some (rd_T109 b.f10 k) := by unfold rd_T109; rw [Int.toNat_natCast, List.getD_eq_getElem?_getD, List.getElem?_eq_getElem (by omega)]; rfl
          have HX := Aside0.mk hX; have HY := Aside0.mk hY; clear hX hY
          simp only [Int.toNat_natCast] at x0 x1 y0 y1
          subst e_; subst e2_
          generalize rd_T109 a.f10 k = x at *
          generalize rd_T109 b.f10 k = y at *
          have HLT := Aside0.mk hlt
          by_cases hxy : x = y
          · have n1 : (!(x.f0 == y.f0) || (!(x.f1 == y.f1))) = false := (neQ_iff x y).2 hxy
            have HXY := Aside0.mk hxy; clear hxy hlt
            go_wp2
            go_quiet (fail)
            go_wp2
            (try simp only [hwk])
            refine ⟨⟨k + 1, rfl, ⟨HLT.out⟩, ⟨take_eqQ HT.out HX.out (by rw [HXY.out]; exact HY.out)⟩, ⟨⟨_, rfl⟩⟩⟩, ?_⟩
            have := HLT.out
            show a.f10.length - (intOf (.int .i64 ((k + 1 : Nat) : Int))).toNat < a.f10.length - (intOf (.int .i64 (k : Int))).toNat
            simp only [intOf]; omega
          · have n1 : (!(x.f0 == y.f0) || (!(x.f1 == y.f1))) = true := by rw [← Bool.not_eq_false, neQ_iff]; exact hxy
            have HN := Aside0.mk (show decide (a = b) = false from decide_eq_false fun e => take_neQ HX.out HY.out hxy (by rw [e]))
            clear hxy hlt
            go_wp2
            go_quiet (fail)
            go_wp2
            go_ret
            exact ⟨by rw [HN.out]; rfl, pw_below_drewN (pw_below_drewN HB.out _) _⟩
        · obtain rfl : k = a.f10.length := by have := K.out; omega
          have HQ10 := Aside0.mk (show a.f10 = b.f10 by have h := HT.out; rwa [List.take_length, HL10.out, List.take_length] at h)
          clear hlt
          have HN := Aside0.mk (show decide (a = b) = true from decide_eq_true (by obtain ⟨a0, a1, a2, a3, a4, a5, a6, a7, a8, a9, a10⟩ := a; obtain ⟨b0, b1, b2, b3, b4, b5, b6, b7, b8, b9, b10⟩ := b; have := Q0.out; have := Q1.out; have := Q2.out; have := Q3.out; have := Q4.out; have := Q5.out; have := Q6.out; have := Q7.out; have := Q8.out; have := HQ9.out; have := HQ10.out; simp_all))
          go_wp2
          go_ret
          exact ⟨by rw [HN.out]; rfl, pw_below_drewN HB.out _⟩
end Go.Proofs.Ytbnglmeljbiglaa.Sa
set_option maxRecDepth 8192
namespace Go.Proofs.Ytbnglmeljbiglaa.Cr
open Go Go.RowKit Go.Proofs.Ytbnglmeljbiglaa.Arr Go.Proofs.Ytbnglmeljbiglaa.Mp Go.Proofs.Ytbnglmeljbiglaa.Ow Go.Proofs.Ytbnglmeljbiglaa.Dk
set_option linter.unusedVariables false
set_option linter.unusedSimpArgs false
abbrev WL := List (Int × ByteArray)
/-- A sector of a row. -/
def cut (S : List ByteArray) (p : Int) : ByteArray := (S[p.toNat]?).getD ⟨#[]⟩
/-- What of a row, and of writes that aren't safe, a crash may leave. -/
def Out (S : List ByteArray) (W : WL) (T : List ByteArray) : Prop :=
  T.length = S.length ∧ ∀ p : Int, 0 ≤ p → p < S.length → cut T p = cut S p ∨ (∃ s, (p, s) ∈ W ∧ cut T p = s) ∨ ((∃ s, (p, s) ∈ W) ∧ cut T p = noughts 128)
theorem Out.mono {S T : List ByteArray} {W W2 : WL} (h : Out S W T) (hs : ∀ q ∈ W, q ∈ W2) : Out S W2 T := by
  refine ⟨h.1, fun p h0 h1 => ?_⟩
  rcases h.2 p h0 h1 with e | ⟨s, m, e⟩ | ⟨⟨s, m⟩, e⟩
  · exact .inl e
  · exact .inr (.inl ⟨s, hs _ m, e⟩)
  · exact .inr (.inr ⟨⟨s, hs _ m⟩, e⟩)
theorem Out.refl (S : List ByteArray) (W : WL) : Out S W S := ⟨rfl, fun _ _ _ => .inl rfl⟩
/-- A disk with power, and with this safe and this waiting. -/
def Mid (S : List ByteArray) (R : WL) (d : DS) : Prop := d.safe = S ∧ d.row = R ∧ d.gone = false
/-- A disk without power, and with this safe, and no more than this waiting. -/
def Ded (S : List ByteArray) (R : WL) (d : DS) : Prop := d.safe = S ∧ (∀ q ∈ d.row, q ∈ R) ∧ d.gone = true
theorem Ded.mono {S : List ByteArray} {R R2 : WL} {d : DS} (h : Ded S R d) (hs : ∀ q ∈ R, q ∈ R2) : Ded S R2 d := ⟨h.1, fun q m => hs q (h.2.1 q m), h.2.2⟩
theorem mid_bears {S : List ByteArray} {R : WL} {d : DS} (h : Mid S R d) : (bearsE d = 0 ∧ Mid S R (bearsD d)) ∨ (bearsE d = 4 ∧ Ded S R (bearsD d)) := by
  obtain ⟨h1, h2, h3⟩ := h
  by_cases e : d.fuse = 0
  · right
    refine ⟨by simp [bearsE, e], ?_, ?_, ?_⟩
    · rw [bears_safe]; exact h1
    · rw [bears_row, h2]; exact fun q m => m
    · simp [bearsD, h3, e]
  · left
    refine ⟨by simp [bearsE, e, h3], ?_, ?_, ?_⟩
    · rw [bears_safe]; exact h1
    · rw [bears_row, h2]
    · unfold bearsD
      rw [if_neg (by rw [h3]; decide), if_neg e]
      split <;> exact h3
theorem mid_write {S : List ByteArray} {R : WL} {d : DS} (h : Mid S R d) {p : Int} {s : ByteArray} (h0 : 0 ≤ p) (h1 : p < S.length) (hs : s.size = 128) : (writeE d p s = 0 ∧ Mid S (R ++ [(p, s)]) (writeD d p s)) ∨ (writeE d p s = 4 ∧ Ded S R (writeD d p s)) := by
  have ht : thereD d p = true := by unfold thereD; rw [h.1, decide_eq_true h0, decide_eq_true h1]; rfl
  have eE : writeE d p s = bearsE d := by unfold writeE; rw [ht, hs]; simp
  have eD : writeD d p s = if bearsE d ≠ 0 then bearsD d else pushD (bearsD d) p s := by unfold writeD; rw [ht, hs]; simp
  rw [eE, eD]
  rcases mid_bears h with ⟨e, m⟩ | ⟨e, m⟩
  · left
    refine ⟨e, ?_⟩
    rw [if_neg (by omega)]
    exact ⟨m.1, by unfold pushD; simp only; rw [m.2.1], m.2.2⟩
  · right
    refine ⟨e, ?_⟩
    rw [if_pos (by omega)]
    exact m
theorem mid_sync {S : List ByteArray} {R : WL} {d : DS} (h : Mid S R d) : (syncE d = 0 ∧ Mid (overF (lastOf R) S) [] (syncD d)) ∨ (syncE d = 4 ∧ Ded S R (syncD d)) := by
  have hb := mid_bears h
  obtain ⟨h1, h2, h3⟩ := h
  unfold syncE syncD
  rcases hb with ⟨e, m⟩ | ⟨e, m⟩
  · left
    refine ⟨e, ?_⟩
    rw [if_neg (by omega)]
    exact ⟨by unfold settleD; simp only; rw [h2, h1], rfl, m.2.2⟩
  · right
    refine ⟨e, ?_⟩
    rw [if_pos (by omega)]
    exact m
theorem cut_over (f : Int → Option ByteArray) (S : List ByteArray) (p : Int) (h0 : 0 ≤ p) (h1 : p < S.length) : cut (overF f S) p = (f p).getD (cut S p) := by
  unfold cut overF
  rw [List.getElem?_mapIdx, List.getElem?_eq_getElem (by omega)]
  simp only [Option.map_some, Option.getD_some]
  rw [show ((p.toNat : Nat) : Int) = p by omega]
theorem over_len (f : Int → Option ByteArray) (S : List ByteArray) : (overF f S).length = S.length := by unfold overF; simp
/-- With no fuse all is borne. -/
theorem free_bears {d : DS} (hg : d.gone = false) (hf : d.fuse = -1) : bearsE d = 0 ∧ bearsD d = d := by
  refine ⟨by simp [bearsE, hg, hf], by simp [bearsD, hg, hf]⟩
theorem free_write {d : DS} (hg : d.gone = false) (hf : d.fuse = -1) (p : Int) (s : ByteArray) : (writeE d p s ≠ 4) ∧ (writeD d p s).gone = false ∧ (writeD d p s).fuse = -1 := by
  unfold writeE writeD
  rw [(free_bears hg hf).1, (free_bears hg hf).2]
  refine ⟨?_, ?_, ?_⟩
  · split
    · decide
    · split <;> decide
  · split
    · exact hg
    · split
      · exact hg
      · simp only [ne_eq, not_true_eq_false, if_false]; exact hg
  · split
    · exact hf
    · split
      · exact hf
      · simp only [ne_eq, not_true_eq_false, if_false]; exact hf
theorem free_sync {d : DS} (hg : d.gone = false) (hf : d.fuse = -1) : syncE d = 0 ∧ (syncD d).gone = false ∧ (syncD d).fuse = -1 := by
  unfold syncE syncD
  rw [(free_bears hg hf).1, (free_bears hg hf).2]
  exact ⟨rfl, by simpa [settleD] using hg, by simpa [settleD] using hf⟩
end Go.Proofs.Ytbnglmeljbiglaa.Cr
set_option maxRecDepth 8192
namespace Go.Proofs.Ytbnglmeljbiglaa.Opens
open Go Go.RowKit Go.ChangeShapes Go.WideShapes Go.Deep Go.Proofs.YtbnglmeljbiglaaW.PrintWords
set_option linter.unusedVariables false
variable {P : Program}
/-- Whatever reads as data at type t is a value of kind d that meets Wf. -/
def Opens (P : Program) (t : TypeId) {α : Type} (d : Kd α) (Wf : α → Prop) : Prop :=
  ∀ {H : Type} {enc : TypeId × Value → H} {w : World} {fuel : Nat} {cs : List Value} {x : DataW H × List MemPlace},
    DataW.trod enc P w 0 (fun _ => true) true fuel t cs = some x → (∀ n ∈ DataW.weights P t x.1, n ≤ reachBytes) → ∃ v : α, d.K w v cs ∧ Wf v
theorem opens_int {t : TypeId} {k : IntKind} (ht : P.underlying t = some (.int k)) : Opens P t (Kd.int k) (fun n => (Lit.int k n).wf = true) := by
  intro H enc w fuel cs x h _
  obtain ⟨n, rfl, _, hw⟩ := DataW.trod_int ht h
  exact ⟨n, rfl, hw⟩
theorem opens_string {t : TypeId} (ht : P.underlying t = some .string) : Opens P t Kd.string (fun s => s.size ≤ 140737488351232) := by
  intro H enc w fuel cs x h hw
  obtain ⟨s, rfl, rfl, _⟩ := DataW.trod_string ht h
  refine ⟨s, rfl, ?_⟩
  have := hw s.data.toList.length (by simp [DataW.weights])
  simpa [reachBytes] using this
theorem weightsAll_mem {H : Type} (e : TypeId) : ∀ (l : List (DataW H)) (d : DataW H), d ∈ l → ∀ n ∈ d.weights P e, n ∈ DataW.weightsAll P e l
  | [], d, h, _, _ => by cases h
  | a :: r, d, h, n, hn => by
    simp only [DataW.weightsAll, List.mem_append]
    rcases List.mem_cons.1 h with rfl | h
    · exact .inl hn
    · exact .inr (weightsAll_mem e r d h n hn)
theorem list_of {α : Type} : ∀ (n : Nat) (Q : Nat → α → Prop), (∀ i, i < n → ∃ v, Q i v) → ∃ l : List α, l.length = n ∧ ∀ i v, l[i]? = some v → Q i v
  | 0, _, _ => ⟨[], rfl, fun i v h => by simp at h⟩
  | n + 1, Q, h => by
    obtain ⟨l, hl, hq⟩ := list_of n Q (fun i hi => h i (by omega))
    obtain ⟨v, hv⟩ := h n (by omega)
    refine ⟨l ++ [v], by simp [hl], fun i u hi => ?_⟩
    rw [List.getElem?_append] at hi
    split at hi
    · exact hq i u hi
    · have : i - l.length = 0 := by
        by_cases e : i - l.length = 0
        · exact e
        · rw [List.getElem?_eq_none (by simp; omega)] at hi; cases hi
      rw [this] at hi
      simp only [List.getElem?_cons_zero, Option.some.injEq] at hi
      subst hi
      obtain rfl : i = n := by omega
      exact hv
theorem opens_slice {t e : TypeId} {α : Type} {d : Kd α} {Wf : α → Prop} (ht : P.underlying t = some (.slice e)) (hsz : P.cellsOf e = d.sz) (O : Opens P e d Wf) :
    Opens P t (Kd.slice e d) (fun l => l.length ≤ maxLen ∧ l.length * P.bytesOf e ≤ 140737488351232 ∧ ∀ x ∈ l, Wf x) := by
  intro H enc w fuel cs x h hw
  rcases open_slice ht h with ⟨rfl, rfl⟩ | ⟨a, len, cap, m, n, D, Pl, rfl, _, hl, hm, hmm, rfl, hx⟩
  · exact ⟨[], ⟨none, 0, rfl, Nat.le_refl _, rfl, by simp, fun h => absurd h (by simp)⟩, by simp, by simp, by simp⟩
  · simp only [if_true] at hmm
    subst hmm
    have each : ∀ i, i < len → ∃ v : α, (∃ c : List Value, c.length = d.sz ∧ d.K w v c ∧ ∀ j u, c[j]? = some u → w.cell? (a.add (i * d.sz + j)) = some u) ∧ Wf v := by
      intro i hi
      obtain ⟨cs', hc, ht'⟩ := hx i (by omega)
      have hwi : ∀ n ∈ DataW.weights P e (D i), n ≤ reachBytes := by
        intro q hq
        refine hw q ?_
        simp only [DataW.weights, ht, List.mem_cons, List.mem_append]
        exact .inr (.inl (weightsAll_mem e _ (D i) (List.mem_map.2 ⟨i, List.mem_range.2 hi, rfl⟩) q hq))
      obtain ⟨v, hk, hf⟩ := O ht' hwi
      obtain ⟨_, hcl, hat⟩ := World.cells?_some hc
      refine ⟨v, ⟨cs', by rw [hcl, hsz], hk, fun j u hj => ?_⟩, hf⟩
      have hjl : j < P.cellsOf e := by rw [← hcl]; exact (List.getElem?_eq_some_iff.1 hj).1
      have h1 := hat j hjl
      rw [hj] at h1
      rw [← hsz, ← h1]
      rw [Addr.add_add]
    obtain ⟨l, hll, hlq⟩ := list_of len _ each
    refine ⟨l, ⟨some a, m, by rw [hll], by omega, hll.symm ▸ rfl, by unfold maxLen at hm; omega, fun _ => ⟨a, rfl, fun j p hj => (hlq j p hj).1⟩⟩, by unfold maxLen at *; omega, ?_, fun v hv => ?_⟩
    · have h1 := hw ((len + (m - len)) * P.bytesOf e) (by simp [DataW.weights, ht])
      have h2 : l.length * P.bytesOf e ≤ (len + (m - len)) * P.bytesOf e := Nat.mul_le_mul_right _ (by omega)
      unfold reachBytes at h1
      omega
    · obtain ⟨i, hi⟩ := List.getElem?_of_mem hv
      exact (hlq i v hi).2
theorem opens_iso {t : TypeId} {α β : Type} {d : Kd α} {Wf : α → Prop} (O : Opens P t d Wf) (f : β → α) (g : α → β) (hfg : ∀ a, f (g a) = a) : Opens P t (Kd.iso d f) (fun b => Wf (f b)) := by
  intro H enc w fuel cs x h hw
  obtain ⟨v, hk, hf⟩ := O h hw
  refine ⟨g v, ?_, ?_⟩
  · show d.K w (f (g v)) cs
    rw [hfg]; exact hk
  · show Wf (f (g v))
    rw [hfg]; exact hf
/-- Fields, one behind the other. -/
def OpensF (P : Program) (ts : List TypeId) {α : Type} (d : Kd α) (Wf : α → Prop) : Prop :=
  ∀ {H : Type} {enc : TypeId × Value → H} {w : World} {fuel : Nat} {css : List (List Value)} {xs : List (DataW H × List MemPlace)},
    css.length = ts.length → xs.length = ts.length → (∀ (i : Nat) (t : TypeId) (cs : List Value) (x : DataW H × List MemPlace), ts[i]? = some t → css[i]? = some cs → xs[i]? = some x → DataW.trod enc P w 0 (fun _ => true) true fuel t cs = some x ∧ ∀ n ∈ DataW.weights P t x.1, n ≤ reachBytes) →
    ∃ v : α, d.K w v css.flatten ∧ Wf v
theorem opensF_one {t : TypeId} {α : Type} {d : Kd α} {Wf : α → Prop} (O : Opens P t d Wf) : OpensF P [t] d Wf := by
  intro H enc w fuel css xs hc hx h
  match css, xs, hc, hx with
  | [cs], [x], _, _ =>
    obtain ⟨h1, h2⟩ := h 0 t cs x rfl rfl rfl
    obtain ⟨v, hk, hf⟩ := O h1 h2
    exact ⟨v, by simpa using hk, hf⟩
theorem opensF_cons {t : TypeId} {ts : List TypeId} {α β : Type} {d : Kd α} {d' : Kd β} {Wf : α → Prop} {Wf' : β → Prop} (O : Opens P t d Wf) (O' : OpensF P ts d' Wf') :
    OpensF P (t :: ts) (Kd.pair d d') (fun x => Wf x.1 ∧ Wf' x.2) := by
  intro H enc w fuel css xs hc hx h
  match css, xs, hc, hx with
  | cs :: css, x :: xs, hc, hx =>
    obtain ⟨h1, h2⟩ := h 0 t cs x rfl rfl rfl
    obtain ⟨v, hk, hf⟩ := O h1 h2
    obtain ⟨v', hk', hf'⟩ := O' (css := css) (xs := xs) (by simpa using hc) (by simpa using hx) (fun i t' cs' x' a b c => h (i + 1) t' cs' x' (by simpa using a) (by simpa using b) (by simpa using c))
    exact ⟨(v, v'), ⟨cs, css.flatten, by simp, hk, hk'⟩, hf, hf'⟩
/-- Fields' places: each begins where the one ahead of it ends. -/
def placed (P : Program) : Nat → List Field → Bool
  | _, [] => true
  | o, f :: fs => f.offset == o && placed P (o + P.cellsOf f.type) fs
def total (P : Program) : List Field → Nat
  | [] => 0
  | f :: fs => P.cellsOf f.type + total P fs
theorem cut_flatten (P : Program) : ∀ (fs : List Field) (o : Nat) (cs : List Value), placed P o fs = true → cs.length = o + total P fs → (fs.map fun f => (cs.drop f.offset).take (P.cellsOf f.type)).flatten = cs.drop o
  | [], o, cs, _, hl => by simp only [List.map_nil, List.flatten_nil, total, Nat.add_zero] at *; rw [← hl, List.drop_length]
  | f :: fs, o, cs, hp, hl => by
    simp only [placed, Bool.and_eq_true, beq_iff_eq] at hp
    simp only [total] at hl
    simp only [List.map_cons, List.flatten_cons, hp.1]
    rw [cut_flatten P fs (o + P.cellsOf f.type) cs hp.2 (by omega), ← List.drop_drop, List.take_append_drop]
theorem opens_struct {t : TypeId} {fs : Array Field} {α : Type} {d : Kd α} {Wf : α → Prop} (ht : P.underlying t = some (.struct fs)) (hp : placed P 0 fs.toList = true) (htot : P.cellsOf t = total P fs.toList)
    (O : OpensF P (fs.toList.map (·.type)) d Wf) : Opens P t d Wf := by
  intro H enc w fuel cs x h hw
  obtain ⟨xs, n, rfl, rfl, hlen, hxl, hf⟩ := DataW.trod_struct ht h
  have hx2 : xs.length = (fs.toList.map (·.type)).length := by simpa using hxl
  obtain ⟨v, hk, hwf⟩ := O (w := w) (fuel := n) (css := fs.toList.map fun f => (cs.drop f.offset).take (P.cellsOf f.type)) (xs := xs) (by simp) hx2 (by
    intro i t' cs' x' ha hb hc
    rw [List.getElem?_map] at ha hb
    cases hfi : fs.toList[i]? with
    | none => rw [hfi] at ha; cases ha
    | some f =>
      rw [hfi] at ha hb
      simp only [Option.map_some, Option.some.injEq] at ha hb
      subst ha; subst hb
      have h1 := hf i f (by simpa using hfi)
      rw [h1]
      refine ⟨hc, fun q hq => hw q ?_⟩
      simp only [DataW.weights, ht]
      exact DataW.weights_mem_each (j := i) (t := f.type) (d := x'.1) (by rw [List.getElem?_map, hfi]; rfl) (by rw [List.getElem?_map, hc]; rfl) q hq)
  rw [cut_flatten P fs.toList 0 cs hp (by rw [hlen, htot]; omega)] at hk
  exact ⟨v, by simpa using hk, hwf⟩
end Go.Proofs.Ytbnglmeljbiglaa.Opens
