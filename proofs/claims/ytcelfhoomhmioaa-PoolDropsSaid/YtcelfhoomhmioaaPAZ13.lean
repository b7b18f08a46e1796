import Derived.Test.YtcelfhoomhmioaaPAZ0
import Derived.Test.YtcelfhoomhmioaaPAZ1
import Derived.Test.YtcelfhoomhmioaaPAZ2
import Derived.Test.YtcelfhoomhmioaaPAZ3
import Derived.Test.YtcelfhoomhmioaaPAZ4
import Derived.Test.YtcelfhoomhmioaaPAZ5
import Derived.Test.YtcelfhoomhmioaaPAZ6
import Derived.Test.YtcelfhoomhmioaaPAZ7
import Derived.Test.YtcelfhoomhmioaaPAZ8
import Derived.Test.YtcelfhoomhmioaaPAZ9
import Derived.Test.YtcelfhoomhmioaaPAZ10
import Derived.Test.YtcelfhoomhmioaaPAZ11
import Derived.Test.YtcelfhoomhmioaaPAZ12
set_option maxRecDepth 8192
namespace Go.Proofs.Ytcelfhoomhmioaa.X4
open Go.Proofs.Ytcelfhoomhmioaa.Rgn
open Go Go.RowKit Go.ChangeMaps Go.Proofs.Ytcelfhoomhmioaa.Pl Go.Proofs.Ytcelfhoomhmioaa.Arr Go.Proofs.Ytcelfhoomhmioaa.Ow Go.Proofs.Ytcelfhoomhmioaa.Dk Go.Proofs.Ytcelfhoomhmioaa.Fr Go.Proofs.YtcelfhoomhmioaaW.PrintWords Go.Proofs.YtcelfhoomhmioaaW.PrintLast Go.Proofs.YtcelfhoomhmioaaW.PrintMore Go.Proofs.Ytcelfhoomhmioaa.Wl Go.Proofs.Ytcelfhoomhmioaa.St
set_option linter.unusedVariables false
set_option linter.unusedSimpArgs false
set_option maxHeartbeats 16000000 in
theorem nil_walk (i a : Int) (dt : ByteArray) (w : World) : Calls Try.prog 5 #[.int .i64 i, .agg #[.int .i64 a, .string dt]] w fun e w' => e = .returned (.bool true) ∧ Below w.heap.size w w' := by
  have G := Aside0.mk (Gr.refl w)
  go_enter Try.func5, Try.ntmps5
  go_upto_region 1 with (fail)
  have hf := fr_alloc [] w (fun _ => 0) 9 (.cells #[.int .i64 a, .string dt] 35)
  have G_n := Aside0.mk (G.out.step hf (by decide)); clear G; have G := G_n; clear G_n
  have LX := Aside0.mk (loc_alloc w (fun _ => 0) 9 #[.int .i64 a, .string dt] 35)
  clear hf
  generalize Dk.paint (fun _ => 0) w.heap.size 9 = cLX at *
  generalize w.alloc (.cells #[.int .i64 a, .string dt] 35) = W0 at *
  generalize w.heap.size = bx at *
  go_upto_region 3 with (go_at_call 11; (with_reducible refine (get_nil _ _).mono ?_); rintro e w1 ⟨rfl, hb1⟩; have G_n := Aside0.mk (G.out.below hb1); have LX_n := Aside0.mk (LX.out.below hb1); clear G LX; have G := G_n; have LX := LX_n; clear G_n LX_n; clear hb1)
  have hf := fr_alloc [] w1 cLX 9 (.cells #[.int .i64 0, .string ⟨#[]⟩] 35)
  have G_n := Aside0.mk (G.out.step hf (by decide)); have LX_n := Aside0.mk (LX.out.keep hf (by decide)); clear G LX; have G := G_n; have LX := LX_n; clear G_n LX_n
  have LY := Aside0.mk (loc_alloc w1 cLX 9 #[.int .i64 0, .string ⟨#[]⟩] 35)
  clear hf
  generalize Dk.paint cLX w1.heap.size 9 = cLY at *
  generalize w1.alloc (.cells #[.int .i64 0, .string ⟨#[]⟩] 35) = W1 at *
  generalize w1.heap.size = by_ at *
  clear LY
  go_upto_region 4 with (go_at_call 19; (with_reducible refine (pnew_nil _ _).mono ?_); rintro e w1 ⟨rfl, hb1⟩; have G_n := Aside0.mk (G.out.below hb1); have LX_n := Aside0.mk (LX.out.below hb1); clear G LX; have G := G_n; have LX := LX_n; clear G_n LX_n; clear hb1)
  go_upto_region 5 with (go_at_call 16; (with_reducible refine (peek_nil _ _).mono ?_); rintro e w1 ⟨rfl, hb1⟩; have G_n := Aside0.mk (G.out.below hb1); have LX_n := Aside0.mk (LX.out.below hb1); clear G LX; have G := G_n; have LX := LX_n; clear G_n LX_n; clear hb1)
  have hf := fr_alloc [] w1 cLY 9 (.cells #[.int .i64 0, .string ⟨#[]⟩] 35)
  have G_n := Aside0.mk (G.out.step hf (by decide)); have LX_n := Aside0.mk (LX.out.keep hf (by decide)); clear G LX; have G := G_n; have LX := LX_n; clear G_n LX_n
  have LY := Aside0.mk (loc_alloc w1 cLY 9 #[.int .i64 0, .string ⟨#[]⟩] 35)
  clear hf
  generalize Dk.paint cLY w1.heap.size 9 = cLY at *
  generalize w1.alloc (.cells #[.int .i64 0, .string ⟨#[]⟩] 35) = W2 at *
  generalize w1.heap.size = by2 at *
  clear LY
  (try clear x0 x1); have x0 : W2.cell? ⟨bx, 0, none⟩ = some (.int .i64 a) := blk_cell LX.out.blk 0; have x1 : W2.cell? ⟨bx, 1, none⟩ = some (.string dt) := blk_cell LX.out.blk 1
  go_wp2_with (first | (go_at_call 8; (with_reducible refine (awake_calls _).mono ?_); rintro e w1 ⟨rfl, hb1⟩; have G_n := Aside0.mk (G.out.below hb1); have LX_n := Aside0.mk (LX.out.below hb1); clear G LX; have G := G_n; have LX := LX_n; clear G_n LX_n; clear hb1; (try clear x0 x1); have x0 : w1.cell? ⟨bx, 0, none⟩ = some (.int .i64 a) := blk_cell LX.out.blk 0; have x1 : w1.cell? ⟨bx, 1, none⟩ = some (.string dt) := blk_cell LX.out.blk 1) | (go_at_call 14; (with_reducible refine (put_nil _ _ _ _).mono ?_); rintro e w1 ⟨rfl, hb1⟩; have G_n := Aside0.mk (G.out.below hb1); have LX_n := Aside0.mk (LX.out.below hb1); clear G LX; have G := G_n; have LX := LX_n; clear G_n LX_n; clear hb1) | (go_at_call 10; (with_reducible refine (evict_nil _ _).mono ?_); rintro e w1 ⟨rfl, hb1⟩; have G_n := Aside0.mk (G.out.below hb1); have LX_n := Aside0.mk (LX.out.below hb1); clear G LX; have G := G_n; have LX := LX_n; clear G_n LX_n; clear hb1) | (go_at_call 20; (with_reducible refine (dirty_nil _).mono ?_); rintro e w1 ⟨rfl, hb1⟩; have G_n := Aside0.mk (G.out.below hb1); have LX_n := Aside0.mk (LX.out.below hb1); clear G LX; have G := G_n; have LX := LX_n; clear G_n LX_n; clear hb1) | (go_at_call 12; (with_reducible refine (holds_nil _ _).mono ?_); rintro e w1 ⟨rfl, hb1⟩; have G_n := Aside0.mk (G.out.below hb1); have LX_n := Aside0.mk (LX.out.below hb1); clear G LX; have G := G_n; have LX := LX_n; clear G_n LX_n; clear hb1) | (go_at_call 15; (with_reducible refine (drop_nil _ _).mono ?_); rintro e w1 ⟨rfl, hb1⟩; have G_n := Aside0.mk (G.out.below hb1); have LX_n := Aside0.mk (LX.out.below hb1); clear G LX; have G := G_n; have LX := LX_n; clear G_n LX_n; clear hb1) | (go_at_call 21; (with_reducible refine (frames_nil _).mono ?_); rintro e w1 ⟨rfl, hb1⟩; have G_n := Aside0.mk (G.out.below hb1); have LX_n := Aside0.mk (LX.out.below hb1); clear G LX; have G := G_n; have LX := LX_n; clear G_n LX_n; clear hb1))
  go_ret
  exact ⟨rfl, G.out.bel⟩
def careenlaw08_PoolNil.f (a0 a1_0 : Int) (a1_1 : ByteArray) : Option Bool := some true
theorem careenlaw08_PoolNil.calls (a0 a1_0 : Int) (a1_1 : ByteArray) (r : Bool) (w : World) (h : careenlaw08_PoolNil.f a0 a1_0 a1_1 = some r) :
    Calls Try.prog 5 #[.int .i64 a0, .agg #[.int .i64 a1_0, .string a1_1]] w fun e w' => e = .returned (.bool r) ∧ Below w.heap.size w w' := by
  obtain rfl := Option.some.inj h
  exact nil_walk a0 a1_0 a1_1 w
/-- A page that may be. -/
def rightB (a : Int) (dt : ByteArray) : Bool := decide (0 ≤ a ∧ a ≤ 2147483647 ∧ dt.size = 220)
theorem right_iff {a : Int} {dt : ByteArray} : rightB a dt = true ↔ 0 ≤ a ∧ a ≤ 2147483647 ∧ dt.size = 220 := decide_eq_true_iff
abbrev nD : DS := newD 100
def dX0 : XS := ⟨newP 2, 1, newW 30 8, nD⟩
def dP1 : PS := ⟨[⟨0, 0, noughts 220, false, 0⟩, noF], fun j => if j = 0 then some 0 else none, 0⟩
def dP2 : PS := ⟨[⟨0, 0, noughts 220, false, 0⟩, ⟨1, 0, noughts 220, false, 0⟩], fun j => if j = 1 then some 1 else if j = 0 then some 0 else none, 0⟩
def dP3 (a : Int) (t : ByteArray) : PS := ⟨[⟨0, a, t, true, a⟩, ⟨1, 0, noughts 220, false, 0⟩], fun j => if j = 1 then some 1 else if j = 0 then some 0 else none, 0⟩
def dP4 (a : Int) (t : ByteArray) (a2 : Int) (t2 : ByteArray) : PS := ⟨[⟨0, a, t, true, a⟩, ⟨1, a2, t2, true, a2⟩], fun j => if j = 1 then some 1 else if j = 0 then some 0 else none, 0⟩
def dP5 (a2 : Int) (t2 : ByteArray) : PS := ⟨[noF, ⟨1, a2, t2, true, a2⟩], fun j => if j = 0 then none else if j = 1 then some 1 else if j = 0 then some 0 else none, 0⟩
abbrev dX (P : PS) : XS := ⟨P, 1, newW 30 8, nD⟩
abbrev dX1 : XS := dX dP1
abbrev dX2 : XS := dX dP2
abbrev dX3 (a : Int) (t : ByteArray) : XS := dX (dP3 a t)
abbrev dX4 (a : Int) (t : ByteArray) (a2 : Int) (t2 : ByteArray) : XS := dX (dP4 a t a2 t2)
abbrev dX5 (a2 : Int) (t2 : ByteArray) : XS := dX (dP5 a2 t2)
theorem dr_g' (d0 : DS) (i : Int) (P P' : PS) (k : Nat) (hr : storeR d0 0 2 i = (0, noughts 220, 0)) (hi : 0 ≤ i ∧ i < 2) (hh : holdsP P i = -1) (hk : freeP P.fr = k ∧ k < P.fr.length) (hf : fetchP P k i 0 (noughts 220) = P') : getP 0 2 ⟨P, 1, newW 30 8, d0⟩ i = ((0, noughts 220), 0, ⟨P', 1, newW 30 8, d0⟩) := by
  have h1 : roomP 0 2 ⟨P, 1, newW 30 8, d0⟩ = (k, 0, ⟨P, 1, newW 30 8, d0⟩) := by
    unfold roomP
    rw [if_pos (by show freeP P.fr < P.fr.length; rw [hk.1]; exact hk.2)]
    show (freeP P.fr, _) = _
    rw [hk.1]
  unfold getP
  rw [if_neg (by omega), show holdsP (XS.P ⟨P, 1, newW 30 8, d0⟩) i = -1 from hh, if_neg (by decide), h1]
  simp only [hr]
  rw [if_neg (fun x => x rfl), if_neg (fun x => x rfl), hf]
theorem dr_r (i : Int) (hi : 0 ≤ i ∧ i < 2) : storeR nD 0 2 i = (0, noughts 220, 0) := qs_read aw_q0 (k := i) hi
theorem dr_g0 : getP 0 2 dX0 0 = ((0, noughts 220), 0, dX1) := dr_g' nD 0 (newP 2) dP1 0 (dr_r 0 (by decide)) (by decide) rfl ⟨rfl, by decide⟩ rfl
theorem dr_g1 : getP 0 2 dX1 1 = ((0, noughts 220), 0, dX2) := dr_g' nD 1 dP1 dP2 1 (dr_r 1 (by decide)) (by decide) rfl ⟨rfl, by decide⟩ rfl
theorem dr_p2 {a : Int} {t : ByteArray} (h : 0 ≤ a ∧ a ≤ 2147483647 ∧ t.size = 220) : putP dP2 0 a t = (0, dP3 a t) := by
  unfold putP
  rw [show holdsP dP2 0 = 0 from rfl, if_neg (by decide), if_neg (fun x => x h)]
  rfl
theorem dr_p3 {a : Int} {t : ByteArray} {a2 : Int} {t2 : ByteArray} (h : 0 ≤ a2 ∧ a2 ≤ 2147483647 ∧ t2.size = 220) : putP (dP3 a t) 1 a2 t2 = (0, dP4 a t a2 t2) := by
  unfold putP
  rw [show holdsP (dP3 a t) 1 = 1 from rfl, if_neg (by decide), if_neg (fun x => x h)]
  rfl
theorem dr_d4 (a : Int) (t : ByteArray) (a2 : Int) (t2 : ByteArray) : dropP (dP4 a t a2 t2) 0 = (0, dP5 a2 t2) := rfl
theorem dr_d5 (a2 : Int) (t2 : ByteArray) : dropP (dP5 a2 t2) 0 = (7, dP5 a2 t2) := rfl
theorem dr_k0 (a2 : Int) (t2 : ByteArray) : peekP 0 2 (dX5 a2 t2) 0 = ((0, noughts 220), 0) := by
  unfold peekP
  rw [show holdsP (XS.P (dX5 a2 t2)) 0 = -1 from rfl, if_neg (by decide)]
  rw [show storeR (XS.d (dX5 a2 t2)) 0 2 0 = (0, noughts 220, 0) from dr_r 0 (by decide)]
theorem dr_k1 (a2 : Int) (t2 : ByteArray) : peekP 0 2 (dX5 a2 t2) 1 = ((a2, t2), 0) := rfl
theorem dr_r5 : storeR nD 0 2 1 = (0, noughts 220, 0) := dr_r 1 (by decide)
theorem dr_ok5 : OkN 0 nD := aw_q0.ok
theorem dr_kp0 : KP 2 8 1 1 dX0 nP nP := kp_new (by decide) (by decide) (by decide)
theorem dr_kp1 : ∃ ws, KP 2 8 1 2 dX1 ws nP := by
  obtain ⟨_, _, _, _, _, ws, h⟩ := dr_kp0.get (by decide) (i := 0) (by decide)
  rw [dr_g0] at h
  exact ⟨ws, h⟩
theorem dr_kp2 : ∃ ws, KP 2 8 1 3 dX2 ws nP := by
  obtain ⟨_, h0⟩ := dr_kp1
  obtain ⟨_, _, _, _, _, ws, h⟩ := h0.get (by decide) (i := 1) (by decide)
  rw [dr_g1] at h
  exact ⟨ws, h⟩
theorem dr_rd0 : Rdy 0 2 0 dX0 := dr_kp0.rdy (by decide)
theorem dr_rd1 : Rdy 0 2 0 dX1 := by obtain ⟨_, h⟩ := dr_kp1; exact h.rdy (by decide)
theorem dr_ok0 : OkN 900 (roomP 0 2 dX0).2.2.d := dr_kp0.okr (by decide)
theorem dr_ok1 : OkN 900 (roomP 0 2 dX1).2.2.d := by obtain ⟨_, h⟩ := dr_kp1; exact h.okr (by decide)
theorem dr_wf0 : WF 2 dX0.P := dr_kp0.wf
theorem dr_wf1 : WF 2 dX1.P := by obtain ⟨_, h⟩ := dr_kp1; exact h.wf
theorem dr_wf2 : WF 2 dX2.P := by obtain ⟨_, h⟩ := dr_kp2; exact h.wf
theorem dr_wf3 {a : Int} {t : ByteArray} (h : 0 ≤ a ∧ a ≤ 2147483647 ∧ t.size = 220) : WF 2 (dX3 a t).P := dr_wf2.soil 0 ⟨0, a, t, true, a⟩ rfl
theorem dr_wf4 {a : Int} {t : ByteArray} {a2 : Int} {t2 : ByteArray} (h : 0 ≤ a ∧ a ≤ 2147483647 ∧ t.size = 220) (h2 : 0 ≤ a2 ∧ a2 ≤ 2147483647 ∧ t2.size = 220) : WF 2 (dX4 a t a2 t2).P := (dr_wf3 h).soil 1 ⟨1, a2, t2, true, a2⟩ rfl
theorem dr_wf5 {a2 : Int} {t2 : ByteArray} (h2 : 0 ≤ a2 ∧ a2 ≤ 2147483647 ∧ t2.size = 220) : WF 2 (dX5 a2 t2).P := (dr_wf4 (a := 0) (t := noughts 220) (by decide) h2).letP (k := 0) (by show 0 < 2; decide)
theorem dr_rd5 {a2 : Int} {t2 : ByteArray} (h2 : 0 ≤ a2 ∧ a2 ≤ 2147483647 ∧ t2.size = 220) : Rdy 0 2 0 (dX5 a2 t2) := by
  have h := dr_rd0
  refine ⟨h.ok, h.fit, h.bd, h.op, h.gap, h.hi, h.T, fun k f hk => ?_⟩
  have hk : [noF, (⟨1, a2, t2, true, a2⟩ : FrS)][k]? = some f := hk
  match k, hk with
  | 0, hk => injection hk with hk; subst hk; exact ⟨by decide, by decide⟩
  | 1, hk => injection hk with hk; subst hk; exact ⟨by show -9223372036854775808 ≤ a2; omega, by show a2 < 9223372036854775808; omega⟩
  | k + 2, hk => simp at hk
theorem made_282 {w0 w : World} {c : Nat → Nat} (_ : Gr w0 w c) : Calls Try.prog 7 #[.agg #[.int .i64 2, .int .i64 2, .int .i64 8]] w fun e w' => ∃ g gs gl ml gp fb m cp c', e = .returned (.tuple #[.pointer (some ⟨g, 0, none⟩), .pointer (some ⟨gs, 0, none⟩), .pointer (some ⟨gl, 0, none⟩), .pointer (some ⟨gp, 0, none⟩), .int .i64 0]) ∧ Fr [] w c w' c' ∧ AO w' c' gp fb m gs gl ml g 2 cp 0 2 dX0 := made_ok 2 8 2 (by decide) (by decide) (by decide) w c
theorem ref_right (a : Int) (dt : ByteArray) (w : World) : Calls Try.prog 13 #[.agg #[.int .i64 a, .string dt]] w fun e w' => e = .returned (.bool (rightB a dt)) ∧ Below w.heap.size w w' := RefPage.right_calls a dt _ rfl w
attribute [local go_sem high] eq_pg fld_pg1
set_option maxHeartbeats 16000000 in
set_option maxRecDepth 20000 in
theorem drops_walk (a1 : Int) (d1 : ByteArray) (a2 : Int) (d2 : ByteArray) (w : World) : Calls Try.prog 4 #[.agg #[.int .i64 a1, .string d1], .agg #[.int .i64 a2, .string d2]] w fun e w' => e = .returned (.bool true) ∧ Below w.heap.size w w' := by
  have G := Aside0.mk (Gr.refl w)
  go_enter Try.func4, Try.ntmps4
  go_upto_region 1 with (fail)
  have hf := fr_alloc [] w (fun _ => 0) 9 (.cells #[.int .i64 a1, .string d1] 35)
  have G_n := Aside0.mk (G.out.step hf (by decide)); clear G; have G := G_n; clear G_n
  have LX := Aside0.mk (loc_alloc w (fun _ => 0) 9 #[.int .i64 a1, .string d1] 35)
  clear hf
  generalize Dk.paint (fun _ => 0) w.heap.size 9 = cX at *
  have hsz : (w.alloc (.cells #[.int .i64 a1, .string d1] 35)).heap.size = w.heap.size + 1 := by simp
  have hf := fr_alloc [] (w.alloc (.cells #[.int .i64 a1, .string d1] 35)) cX 9 (.cells #[.int .i64 a2, .string d2] 35)
  have G_n := Aside0.mk (G.out.step hf (by decide)); have LX_n := Aside0.mk (LX.out.keep hf (by decide)); clear G LX; have G := G_n; have LX := LX_n; clear G_n LX_n
  have LY := Aside0.mk (loc_alloc (w.alloc (.cells #[.int .i64 a1, .string d1] 35)) cX 9 #[.int .i64 a2, .string d2] 35)
  clear hf
  rw [hsz] at LY
  (try rw [hsz] at LX)
  (try rw [hsz] at G)
  (try rw [hsz])
  clear hsz
  generalize Dk.paint cX (w.heap.size + 1) 9 = cY at *
  generalize (w.alloc (.cells #[.int .i64 a1, .string d1] 35)).alloc (.cells #[.int .i64 a2, .string d2] 35) = W0 at *
  generalize hbx : w.heap.size = bx at *
  generalize bx + 1 = by_ at *
  go_upto_region 2 with (go_at_call 7; (with_reducible refine (made_282 G.out).mono ?_); rintro e w1 ⟨g, gs, gl, ml, gp, fb, m, cp, c1, rfl, hf, ha⟩; have G_n := Aside0.mk (G.out.step hf (by decide)); have LX_n := Aside0.mk (LX.out.keep hf (by decide)); have LY_n := Aside0.mk (LY.out.keep hf (by decide)); clear G LX LY; have G := G_n; have LX := LX_n; have LY := LY_n; clear G_n LX_n LY_n; have HA := Aside0.mk ha; clear ha hf)
  (try clear x0 x1); (try clear y0 y1); have x0 : w1.cell? ⟨bx, 0, none⟩ = some (.int .i64 a1) := blk_cell LX.out.blk 0; have x1 : w1.cell? ⟨bx, 1, none⟩ = some (.string d1) := blk_cell LX.out.blk 1; have y0 : w1.cell? ⟨by_, 0, none⟩ = some (.int .i64 a2) := blk_cell LY.out.blk 0; have y1 : w1.cell? ⟨by_, 1, none⟩ = some (.string d2) := blk_cell LY.out.blk 1
  by_cases hs1 : (500 : Int) < (d1.size : Int)
  · skip
    go_wp2_with (first | (go_at_call 8; (with_reducible refine (awake_calls _).mono ?_); rintro e w1 ⟨rfl, hb1⟩; have G_n := Aside0.mk (G.out.below hb1); have LX_n := Aside0.mk (LX.out.below hb1); have LY_n := Aside0.mk (LY.out.below hb1); have HA_n := Aside0.mk (HA.out.below hb1); clear G LX LY HA; have G := G_n; have LX := LX_n; have LY := LY_n; have HA := HA_n; clear G_n LX_n LY_n HA_n; clear hb1; (try clear x0 x1); (try clear y0 y1); have x0 : w1.cell? ⟨bx, 0, none⟩ = some (.int .i64 a1) := blk_cell LX.out.blk 0; have x1 : w1.cell? ⟨bx, 1, none⟩ = some (.string d1) := blk_cell LX.out.blk 1; have y0 : w1.cell? ⟨by_, 0, none⟩ = some (.int .i64 a2) := blk_cell LY.out.blk 0; have y1 : w1.cell? ⟨by_, 1, none⟩ = some (.string d2) := blk_cell LY.out.blk 1) | (go_at_call 13; (with_reducible refine (ref_right _ _ _).mono ?_); rintro e w1 ⟨rfl, hb1⟩; have G_n := Aside0.mk (G.out.below hb1); have LX_n := Aside0.mk (LX.out.below hb1); have LY_n := Aside0.mk (LY.out.below hb1); have HA_n := Aside0.mk (HA.out.below hb1); clear G LX LY HA; have G := G_n; have LX := LX_n; have LY := LY_n; have HA := HA_n; clear G_n LX_n LY_n HA_n; clear hb1; (try clear x0 x1); (try clear y0 y1); have x0 : w1.cell? ⟨bx, 0, none⟩ = some (.int .i64 a1) := blk_cell LX.out.blk 0; have x1 : w1.cell? ⟨bx, 1, none⟩ = some (.string d1) := blk_cell LX.out.blk 1; have y0 : w1.cell? ⟨by_, 0, none⟩ = some (.int .i64 a2) := blk_cell LY.out.blk 0; have y1 : w1.cell? ⟨by_, 1, none⟩ = some (.string d2) := blk_cell LY.out.blk 1))
    go_ret
    exact ⟨rfl, G.out.bel⟩
  by_cases hs2 : (500 : Int) < (d2.size : Int)
  · skip
    go_wp2_with (first | (go_at_call 8; (with_reducible refine (awake_calls _).mono ?_); rintro e w1 ⟨rfl, hb1⟩; have G_n := Aside0.mk (G.out.below hb1); have LX_n := Aside0.mk (LX.out.below hb1); have LY_n := Aside0.mk (LY.out.below hb1); have HA_n := Aside0.mk (HA.out.below hb1); clear G LX LY HA; have G := G_n; have LX := LX_n; have LY := LY_n; have HA := HA_n; clear G_n LX_n LY_n HA_n; clear hb1; (try clear x0 x1); (try clear y0 y1); have x0 : w1.cell? ⟨bx, 0, none⟩ = some (.int .i64 a1) := blk_cell LX.out.blk 0; have x1 : w1.cell? ⟨bx, 1, none⟩ = some (.string d1) := blk_cell LX.out.blk 1; have y0 : w1.cell? ⟨by_, 0, none⟩ = some (.int .i64 a2) := blk_cell LY.out.blk 0; have y1 : w1.cell? ⟨by_, 1, none⟩ = some (.string d2) := blk_cell LY.out.blk 1) | (go_at_call 13; (with_reducible refine (ref_right _ _ _).mono ?_); rintro e w1 ⟨rfl, hb1⟩; have G_n := Aside0.mk (G.out.below hb1); have LX_n := Aside0.mk (LX.out.below hb1); have LY_n := Aside0.mk (LY.out.below hb1); have HA_n := Aside0.mk (HA.out.below hb1); clear G LX LY HA; have G := G_n; have LX := LX_n; have LY := LY_n; have HA := HA_n; clear G_n LX_n LY_n HA_n; clear hb1; (try clear x0 x1); (try clear y0 y1); have x0 : w1.cell? ⟨bx, 0, none⟩ = some (.int .i64 a1) := blk_cell LX.out.blk 0; have x1 : w1.cell? ⟨bx, 1, none⟩ = some (.string d1) := blk_cell LX.out.blk 1; have y0 : w1.cell? ⟨by_, 0, none⟩ = some (.int .i64 a2) := blk_cell LY.out.blk 0; have y1 : w1.cell? ⟨by_, 1, none⟩ = some (.string d2) := blk_cell LY.out.blk 1))
    go_ret
    exact ⟨rfl, G.out.bel⟩
  cases hr1 : rightB a1 d1 with
  | false =>
    go_wp2_with (first | (go_at_call 8; (with_reducible refine (awake_calls _).mono ?_); rintro e w1 ⟨rfl, hb1⟩; have G_n := Aside0.mk (G.out.below hb1); have LX_n := Aside0.mk (LX.out.below hb1); have LY_n := Aside0.mk (LY.out.below hb1); have HA_n := Aside0.mk (HA.out.below hb1); clear G LX LY HA; have G := G_n; have LX := LX_n; have LY := LY_n; have HA := HA_n; clear G_n LX_n LY_n HA_n; clear hb1; (try clear x0 x1); (try clear y0 y1); have x0 : w1.cell? ⟨bx, 0, none⟩ = some (.int .i64 a1) := blk_cell LX.out.blk 0; have x1 : w1.cell? ⟨bx, 1, none⟩ = some (.string d1) := blk_cell LX.out.blk 1; have y0 : w1.cell? ⟨by_, 0, none⟩ = some (.int .i64 a2) := blk_cell LY.out.blk 0; have y1 : w1.cell? ⟨by_, 1, none⟩ = some (.string d2) := blk_cell LY.out.blk 1) | (go_at_call 13; (with_reducible refine (ref_right _ _ _).mono ?_); rintro e w1 ⟨rfl, hb1⟩; have G_n := Aside0.mk (G.out.below hb1); have LX_n := Aside0.mk (LX.out.below hb1); have LY_n := Aside0.mk (LY.out.below hb1); have HA_n := Aside0.mk (HA.out.below hb1); clear G LX LY HA; have G := G_n; have LX := LX_n; have LY := LY_n; have HA := HA_n; clear G_n LX_n LY_n HA_n; clear hb1; (try clear x0 x1); (try clear y0 y1); have x0 : w1.cell? ⟨bx, 0, none⟩ = some (.int .i64 a1) := blk_cell LX.out.blk 0; have x1 : w1.cell? ⟨bx, 1, none⟩ = some (.string d1) := blk_cell LX.out.blk 1; have y0 : w1.cell? ⟨by_, 0, none⟩ = some (.int .i64 a2) := blk_cell LY.out.blk 0; have y1 : w1.cell? ⟨by_, 1, none⟩ = some (.string d2) := blk_cell LY.out.blk 1))
    go_ret
    exact ⟨rfl, G.out.bel⟩
  | true =>
    cases hr2 : rightB a2 d2 with
    | false =>
      go_wp2_with (first | (go_at_call 8; (with_reducible refine (awake_calls _).mono ?_); rintro e w1 ⟨rfl, hb1⟩; have G_n := Aside0.mk (G.out.below hb1); have LX_n := Aside0.mk (LX.out.below hb1); have LY_n := Aside0.mk (LY.out.below hb1); have HA_n := Aside0.mk (HA.out.below hb1); clear G LX LY HA; have G := G_n; have LX := LX_n; have LY := LY_n; have HA := HA_n; clear G_n LX_n LY_n HA_n; clear hb1; (try clear x0 x1); (try clear y0 y1); have x0 : w1.cell? ⟨bx, 0, none⟩ = some (.int .i64 a1) := blk_cell LX.out.blk 0; have x1 : w1.cell? ⟨bx, 1, none⟩ = some (.string d1) := blk_cell LX.out.blk 1; have y0 : w1.cell? ⟨by_, 0, none⟩ = some (.int .i64 a2) := blk_cell LY.out.blk 0; have y1 : w1.cell? ⟨by_, 1, none⟩ = some (.string d2) := blk_cell LY.out.blk 1) | (go_at_call 13; (with_reducible refine (ref_right _ _ _).mono ?_); rintro e w1 ⟨rfl, hb1⟩; have G_n := Aside0.mk (G.out.below hb1); have LX_n := Aside0.mk (LX.out.below hb1); have LY_n := Aside0.mk (LY.out.below hb1); have HA_n := Aside0.mk (HA.out.below hb1); clear G LX LY HA; have G := G_n; have LX := LX_n; have LY := LY_n; have HA := HA_n; clear G_n LX_n LY_n HA_n; clear hb1; (try clear x0 x1); (try clear y0 y1); have x0 : w1.cell? ⟨bx, 0, none⟩ = some (.int .i64 a1) := blk_cell LX.out.blk 0; have x1 : w1.cell? ⟨bx, 1, none⟩ = some (.string d1) := blk_cell LX.out.blk 1; have y0 : w1.cell? ⟨by_, 0, none⟩ = some (.int .i64 a2) := blk_cell LY.out.blk 0; have y1 : w1.cell? ⟨by_, 1, none⟩ = some (.string d2) := blk_cell LY.out.blk 1))
      go_ret
      exact ⟨rfl, G.out.bel⟩
    | true =>
      go_upto_region 4 with (first | (go_at_call 8; (with_reducible refine (awake_calls _).mono ?_); rintro e w1 ⟨rfl, hb1⟩; have G_n := Aside0.mk (G.out.below hb1); have LX_n := Aside0.mk (LX.out.below hb1); have LY_n := Aside0.mk (LY.out.below hb1); have HA_n := Aside0.mk (HA.out.below hb1); clear G LX LY HA; have G := G_n; have LX := LX_n; have LY := LY_n; have HA := HA_n; clear G_n LX_n LY_n HA_n; clear hb1; (try clear x0 x1); (try clear y0 y1); have x0 : w1.cell? ⟨bx, 0, none⟩ = some (.int .i64 a1) := blk_cell LX.out.blk 0; have x1 : w1.cell? ⟨bx, 1, none⟩ = some (.string d1) := blk_cell LX.out.blk 1; have y0 : w1.cell? ⟨by_, 0, none⟩ = some (.int .i64 a2) := blk_cell LY.out.blk 0; have y1 : w1.cell? ⟨by_, 1, none⟩ = some (.string d2) := blk_cell LY.out.blk 1) | (go_at_call 13; (with_reducible refine (ref_right _ _ _).mono ?_); rintro e w1 ⟨rfl, hb1⟩; have G_n := Aside0.mk (G.out.below hb1); have LX_n := Aside0.mk (LX.out.below hb1); have LY_n := Aside0.mk (LY.out.below hb1); have HA_n := Aside0.mk (HA.out.below hb1); clear G LX LY HA; have G := G_n; have LX := LX_n; have LY := LY_n; have HA := HA_n; clear G_n LX_n LY_n HA_n; clear hb1; (try clear x0 x1); (try clear y0 y1); have x0 : w1.cell? ⟨bx, 0, none⟩ = some (.int .i64 a1) := blk_cell LX.out.blk 0; have x1 : w1.cell? ⟨bx, 1, none⟩ = some (.string d1) := blk_cell LX.out.blk 1; have y0 : w1.cell? ⟨by_, 0, none⟩ = some (.int .i64 a2) := blk_cell LY.out.blk 0; have y1 : w1.cell? ⟨by_, 1, none⟩ = some (.string d2) := blk_cell LY.out.blk 1))
      clear hs1 hs2
      have HR1 := Aside0.mk (right_iff.1 hr1); have HR2 := Aside0.mk (right_iff.1 hr2)
      clear hr1 hr2
      go_upto_region 5 with (go_at_call 11; (with_reducible refine (get_calls HA.out dr_rd0 (by decide) dr_wf0 dr_ok0 0).mono ?_); rintro e w1 ⟨rfl, c1, hf, ha⟩; rw [dr_g0] at ha ⊢; simp only [] at ha ⊢; have G_n := Aside0.mk (G.out.step hf (by decide)); have LX_n := Aside0.mk (LX.out.keep hf (by decide)); have LY_n := Aside0.mk (LY.out.keep hf (by decide)); clear G LX LY; have G := G_n; have LX := LX_n; have LY := LY_n; clear G_n LX_n LY_n; clear HA; have HA := Aside0.mk ha; clear ha hf)
      go_upto_region 6 with (go_at_call 11; (with_reducible refine (get_calls HA.out dr_rd1 (by decide) dr_wf1 dr_ok1 1).mono ?_); rintro e w1 ⟨rfl, c1, hf, ha⟩; rw [dr_g1] at ha ⊢; simp only [] at ha ⊢; have G_n := Aside0.mk (G.out.step hf (by decide)); have LX_n := Aside0.mk (LX.out.keep hf (by decide)); have LY_n := Aside0.mk (LY.out.keep hf (by decide)); clear G LX LY; have G := G_n; have LX := LX_n; have LY := LY_n; clear G_n LX_n LY_n; clear HA; have HA := Aside0.mk ha; clear ha hf)
      (try clear x0 x1); (try clear y0 y1); have x0 : w1.cell? ⟨bx, 0, none⟩ = some (.int .i64 a1) := blk_cell LX.out.blk 0; have x1 : w1.cell? ⟨bx, 1, none⟩ = some (.string d1) := blk_cell LX.out.blk 1; have y0 : w1.cell? ⟨by_, 0, none⟩ = some (.int .i64 a2) := blk_cell LY.out.blk 0; have y1 : w1.cell? ⟨by_, 1, none⟩ = some (.string d2) := blk_cell LY.out.blk 1
      go_upto_region 8 with (first | (go_at_call 14; (with_reducible refine (put_calls HA.out dr_wf2 0 a1 d1).mono ?_); rintro e w1 ⟨rfl, c1, hf, ha⟩; rw [show putP dX2.P 0 a1 d1 = (0, dP3 a1 d1) from dr_p2 HR1.out] at ha ⊢; simp only [] at ha ⊢; have G_n := Aside0.mk (G.out.step hf (by decide)); have LX_n := Aside0.mk (LX.out.keep hf (by decide)); have LY_n := Aside0.mk (LY.out.keep hf (by decide)); clear G LX LY; have G := G_n; have LX := LX_n; have LY := LY_n; clear G_n LX_n LY_n; clear HA; have HA3 := Aside0.mk (show AO w1 c1 gp fb m gs gl ml g 2 cp 0 2 (dX3 a1 d1) from ha); clear ha hf; (try clear x0 x1); (try clear y0 y1); have x0 : w1.cell? ⟨bx, 0, none⟩ = some (.int .i64 a1) := blk_cell LX.out.blk 0; have x1 : w1.cell? ⟨bx, 1, none⟩ = some (.string d1) := blk_cell LX.out.blk 1; have y0 : w1.cell? ⟨by_, 0, none⟩ = some (.int .i64 a2) := blk_cell LY.out.blk 0; have y1 : w1.cell? ⟨by_, 1, none⟩ = some (.string d2) := blk_cell LY.out.blk 1) | (go_at_call 14; (with_reducible refine (put_calls HA3.out (dr_wf3 HR1.out) 1 a2 d2).mono ?_); rintro e w1 ⟨rfl, c1, hf, ha⟩; rw [show putP (dX3 a1 d1).P 1 a2 d2 = (0, dP4 a1 d1 a2 d2) from dr_p3 HR2.out] at ha ⊢; simp only [] at ha ⊢; have G_n := Aside0.mk (G.out.step hf (by decide)); have LX_n := Aside0.mk (LX.out.keep hf (by decide)); have LY_n := Aside0.mk (LY.out.keep hf (by decide)); clear G LX LY; have G := G_n; have LX := LX_n; have LY := LY_n; clear G_n LX_n LY_n; clear HA3; have HA4 := Aside0.mk (show AO w1 c1 gp fb m gs gl ml g 2 cp 0 2 (dX4 a1 d1 a2 d2) from ha); clear ha hf; (try clear x0 x1); (try clear y0 y1); have x0 : w1.cell? ⟨bx, 0, none⟩ = some (.int .i64 a1) := blk_cell LX.out.blk 0; have x1 : w1.cell? ⟨bx, 1, none⟩ = some (.string d1) := blk_cell LX.out.blk 1; have y0 : w1.cell? ⟨by_, 0, none⟩ = some (.int .i64 a2) := blk_cell LY.out.blk 0; have y1 : w1.cell? ⟨by_, 1, none⟩ = some (.string d2) := blk_cell LY.out.blk 1) | (go_at_call 15; (with_reducible refine (drop_calls HA4.out (dr_wf4 HR1.out HR2.out) 0).mono ?_); rintro e w1 ⟨rfl, c1, hf, ha⟩; rw [show dropP (dX4 a1 d1 a2 d2).P 0 = (0, dP5 a2 d2) from dr_d4 a1 d1 a2 d2] at ha ⊢; simp only [] at ha ⊢; have G_n := Aside0.mk (G.out.step hf (by decide)); have LX_n := Aside0.mk (LX.out.keep hf (by decide)); have LY_n := Aside0.mk (LY.out.keep hf (by decide)); clear G LX LY; have G := G_n; have LX := LX_n; have LY := LY_n; clear G_n LX_n LY_n; clear HA4; have HA5 := Aside0.mk (show AO w1 c1 gp fb m gs gl ml g 2 cp 0 2 (dX5 a2 d2) from ha); clear ha hf; (try clear x0 x1); (try clear y0 y1); have x0 : w1.cell? ⟨bx, 0, none⟩ = some (.int .i64 a1) := blk_cell LX.out.blk 0; have x1 : w1.cell? ⟨bx, 1, none⟩ = some (.string d1) := blk_cell LX.out.blk 1; have y0 : w1.cell? ⟨by_, 0, none⟩ = some (.int .i64 a2) := blk_cell LY.out.blk 0; have y1 : w1.cell? ⟨by_, 1, none⟩ = some (.string d2) := blk_cell LY.out.blk 1) | (go_at_call 15; (with_reducible refine (drop_calls HA5.out (dr_wf5 HR2.out) 0).mono ?_); rintro e w1 ⟨rfl, c1, hf, ha⟩; rw [show dropP (dX5 a2 d2).P 0 = (7, dP5 a2 d2) from dr_d5 a2 d2] at ha ⊢; simp only [] at ha ⊢; have G_n := Aside0.mk (G.out.step hf (by decide)); have LX_n := Aside0.mk (LX.out.keep hf (by decide)); have LY_n := Aside0.mk (LY.out.keep hf (by decide)); clear G LX LY; have G := G_n; have LX := LX_n; have LY := LY_n; clear G_n LX_n LY_n; clear HA5; have HA := Aside0.mk (show AO w1 c1 gp fb m gs gl ml g 2 cp 0 2 (dX5 a2 d2) from ha); clear ha hf; (try clear x0 x1); (try clear y0 y1); have x0 : w1.cell? ⟨bx, 0, none⟩ = some (.int .i64 a1) := blk_cell LX.out.blk 0; have x1 : w1.cell? ⟨bx, 1, none⟩ = some (.string d1) := blk_cell LX.out.blk 1; have y0 : w1.cell? ⟨by_, 0, none⟩ = some (.int .i64 a2) := blk_cell LY.out.blk 0; have y1 : w1.cell? ⟨by_, 1, none⟩ = some (.string d2) := blk_cell LY.out.blk 1))
      have HWF := Aside0.mk (dr_wf5 HR2.out); have HRD := Aside0.mk (dr_rd5 HR2.out)
      go_upto_region 9 with (go_at_call 16; (with_reducible refine (peek_calls HA.out HRD.out HWF.out 0).mono ?_); rintro e w1 ⟨rfl, hb1⟩; rw [dr_k0 a2 d2]; simp only []; have G_n := Aside0.mk (G.out.below hb1); have LX_n := Aside0.mk (LX.out.below hb1); have LY_n := Aside0.mk (LY.out.below hb1); have HA_n := Aside0.mk (HA.out.below hb1); clear G LX LY HA; have G := G_n; have LX := LX_n; have LY := LY_n; have HA := HA_n; clear G_n LX_n LY_n HA_n; clear hb1; (try clear x0 x1 y0 y1))
      have hf := fr_alloc [] w1 c1 9 (.cells #[.int .i64 0, .string (noughts 220)] 35)
      have G_n := Aside0.mk (G.out.step hf (by decide)); have LX_n := Aside0.mk (LX.out.keep hf (by decide)); have LY_n := Aside0.mk (LY.out.keep hf (by decide)); have HA_n := Aside0.mk (HA.out.keep hf (by decide) (by decide) (by decide) (by decide)); clear G LX LY HA; have G := G_n; have LX := LX_n; have LY := LY_n; have HA := HA_n; clear G_n LX_n LY_n HA_n
      have LU := Aside0.mk (loc_alloc w1 c1 9 #[.int .i64 0, .string (noughts 220)] 35)
      clear hf
      generalize Dk.paint c1 w1.heap.size 9 = cLU at *
      generalize w1.alloc (.cells #[.int .i64 0, .string (noughts 220)] 35) = W1 at *
      generalize w1.heap.size = bu at *
      go_upto_region 10 with (go_at_call 16; (with_reducible refine (peek_calls HA.out HRD.out HWF.out 1).mono ?_); rintro e w1 ⟨rfl, hb1⟩; rw [dr_k1 a2 d2]; simp only []; have G_n := Aside0.mk (G.out.below hb1); have LX_n := Aside0.mk (LX.out.below hb1); have LY_n := Aside0.mk (LY.out.below hb1); have HA_n := Aside0.mk (HA.out.below hb1); have LU_n := Aside0.mk (LU.out.below hb1); clear G LX LY HA LU; have G := G_n; have LX := LX_n; have LY := LY_n; have HA := HA_n; have LU := LU_n; clear G_n LX_n LY_n HA_n LU_n; clear hb1; (try clear x0 x1 y0 y1))
      have hf := fr_alloc [] w1 cLU 9 (.cells #[.int .i64 a2, .string d2] 35)
      have G_n := Aside0.mk (G.out.step hf (by decide)); have LX_n := Aside0.mk (LX.out.keep hf (by decide)); have LY_n := Aside0.mk (LY.out.keep hf (by decide)); have HA_n := Aside0.mk (HA.out.keep hf (by decide) (by decide) (by decide) (by decide)); have LU_n := Aside0.mk (LU.out.keep hf (by decide)); clear G LX LY HA LU; have G := G_n; have LX := LX_n; have LY := LY_n; have HA := HA_n; have LU := LU_n; clear G_n LX_n LY_n HA_n LU_n
      have LV := Aside0.mk (loc_alloc w1 cLU 9 #[.int .i64 a2, .string d2] 35)
      clear hf
      generalize Dk.paint cLU w1.heap.size 9 = cLV at *
      generalize w1.alloc (.cells #[.int .i64 a2, .string d2] 35) = W2 at *
      generalize w1.heap.size = bv at *
      go_upto_region 11 with (go_at_call 17; (with_reducible refine (read_o HA.out.so dr_ok5 (by decide) 1).mono ?_); rintro e w1 ⟨rfl, hb1⟩; rw [show storeR (dX5 a2 d2).d 0 2 1 = (0, noughts 220, 0) from dr_r5]; simp only []; have G_n := Aside0.mk (G.out.below hb1); have LX_n := Aside0.mk (LX.out.below hb1); have LY_n := Aside0.mk (LY.out.below hb1); have HA_n := Aside0.mk (HA.out.below hb1); have LU_n := Aside0.mk (LU.out.below hb1); have LV_n := Aside0.mk (LV.out.below hb1); clear G LX LY HA LU LV; have G := G_n; have LX := LX_n; have LY := LY_n; have HA := HA_n; have LU := LU_n; have LV := LV_n; clear G_n LX_n LY_n HA_n LU_n LV_n; clear hb1)
      have hf := fr_alloc [] w1 cLV 9 (.cells #[.int .i64 0, .string (noughts 220)] 35)
      have G_n := Aside0.mk (G.out.step hf (by decide)); have LX_n := Aside0.mk (LX.out.keep hf (by decide)); have LY_n := Aside0.mk (LY.out.keep hf (by decide)); have HA_n := Aside0.mk (HA.out.keep hf (by decide) (by decide) (by decide) (by decide)); have LU_n := Aside0.mk (LU.out.keep hf (by decide)); have LV_n := Aside0.mk (LV.out.keep hf (by decide)); clear G LX LY HA LU LV; have G := G_n; have LX := LX_n; have LY := LY_n; have HA := HA_n; have LU := LU_n; have LV := LV_n; clear G_n LX_n LY_n HA_n LU_n LV_n
      have LW := Aside0.mk (loc_alloc w1 cLV 9 #[.int .i64 0, .string (noughts 220)] 35)
      clear hf
      generalize Dk.paint cLV w1.heap.size 9 = cLW at *
      generalize w1.alloc (.cells #[.int .i64 0, .string (noughts 220)] 35) = W3 at *
      generalize w1.heap.size = bw at *
      have G_n := Aside0.mk (G.out.drew); have LX_n := Aside0.mk (LX.out.drew); have LY_n := Aside0.mk (LY.out.drew); have HA_n := Aside0.mk (HA.out.drew); have LU_n := Aside0.mk (LU.out.drew); have LV_n := Aside0.mk (LV.out.drew); have LW_n := Aside0.mk (LW.out.drew); clear G LX LY HA LU LV LW; have G := G_n; have LX := LX_n; have LY := LY_n; have HA := HA_n; have LU := LU_n; have LV := LV_n; have LW := LW_n; clear G_n LX_n LY_n HA_n LU_n LV_n LW_n
      refine start_ (n := 31) (S := fun w' => w'.cell? ⟨bu, 0, none⟩ = some (.int .i64 0) ∧ w'.cell? ⟨bu, 1, none⟩ = some (.string (noughts 220)) ∧ w'.cell? ⟨bv, 0, none⟩ = some (.int .i64 a2) ∧ w'.cell? ⟨bv, 1, none⟩ = some (.string d2) ∧ w'.cell? ⟨bw, 0, none⟩ = some (.int .i64 0) ∧ w'.cell? ⟨bw, 1, none⟩ = some (.string (noughts 220)) ∧ w'.cell? ⟨by_, 0, none⟩ = some (.int .i64 a2) ∧ w'.cell? ⟨by_, 1, none⟩ = some (.string d2)) (ds := []) #[false, false, false, false, false, false, false, false, false, false, false, false, false, false, false, false, false, false, false, false, false, false, false, false, false, false, false, false, false, false, false] (by kernel_rfl) rfl rfl ⟨blk_cell (w := W3.drew) LU.out.blk 0, blk_cell (w := W3.drew) LU.out.blk 1, blk_cell (w := W3.drew) LV.out.blk 0, blk_cell (w := W3.drew) LV.out.blk 1, blk_cell (w := W3.drew) LW.out.blk 0, blk_cell (w := W3.drew) LW.out.blk 1, blk_cell (w := W3.drew) LY.out.blk 0, blk_cell (w := W3.drew) LY.out.blk 1⟩ (fun hHeld => ?_)
      refine rgp 0 96 ?_
      refine rgp 1 97 ?_
      refine rgp 2 98 ?_
      refine rgp 3 99 ?_
      refine rgp 4 100 ?_
      refine rgp 5 101 ?_
      refine rgp 6 102 ?_
      refine rgp 7 103 ?_
      refine rgp 8 104 ?_
      refine rgp 9 105 ?_
      refine rgp 10 106 ?_
      refine rgt 11 107 hHeld ?_
      refine one_ (i := 12) (N := some 108) #[true, true, true, true, true, true, true, true, true, true, true, true, true, false, false, false, false, false, false, false, false, false, false, false, false, false, false, false, false, false, false] rfl rfl (by kernel_rfl) (by decide) (fun K hK => ?_)
      refine goes_ Try.func18 (by kernel_rfl) rfl #[] (by rfl) rfl rfl (by (try simp only [List.map_toArray, List.map_cons, List.map_nil]); first | done | rfl) ?_
      refine (refempty_calls _).mono ?_
      rintro e v1_ ⟨rfl, hb1⟩
      refine ⟨_, rfl, ?_⟩
      have G_n := Aside0.mk (G.out.below hb1); have LX_n := Aside0.mk (LX.out.below hb1); have LY_n := Aside0.mk (LY.out.below hb1); have HA_n := Aside0.mk (HA.out.below hb1); have LU_n := Aside0.mk (LU.out.below hb1); have LV_n := Aside0.mk (LV.out.below hb1); have LW_n := Aside0.mk (LW.out.below hb1); clear G LX LY HA LU LV LW; have G := G_n; have LX := LX_n; have LY := LY_n; have HA := HA_n; have LU := LU_n; have LV := LV_n; have LW := LW_n; clear G_n LX_n LY_n HA_n LU_n LV_n LW_n; clear hb1
      refine hK _ _ ⟨blk_cell (w := v1_) LU.out.blk 0, blk_cell (w := v1_) LU.out.blk 1, blk_cell (w := v1_) LV.out.blk 0, blk_cell (w := v1_) LV.out.blk 1, blk_cell (w := v1_) LW.out.blk 0, blk_cell (w := v1_) LW.out.blk 1, blk_cell (w := v1_) LY.out.blk 0, blk_cell (w := v1_) LY.out.blk 1⟩ (fun hHeld => ?_)
      clear hK K
      refine norm_ (a' := ?_) ?_ ?_
      rotate_left
      · show Act.put _ (some 108) _ = _
        simp only [Act.put, List.setIfInBounds_toArray, List.set_cons_zero, List.set_cons_succ, i64_w, i32_w]
        rfl
      refine rgp 13 109 ?_
      refine rgp 14 110 ?_
      refine rgp 15 111 ?_
      refine rgt 16 112 hHeld ?_
      refine rgt 17 113 hHeld ?_
      refine rgp 18 114 ?_
      refine rgp 19 115 ?_
      refine rgp 20 116 ?_
      refine rgt 21 117 hHeld ?_
      refine one_ (i := 22) (N := some 118) #[true, true, true, true, true, true, true, true, true, true, true, true, true, true, true, true, true, true, true, true, true, true, true, false, false, false, false, false, false, false, false] rfl rfl (by kernel_rfl) (by decide) (fun K hK => ?_)
      refine goes_ Try.func18 (by kernel_rfl) rfl #[] (by rfl) rfl rfl (by (try simp only [List.map_toArray, List.map_cons, List.map_nil]); first | done | rfl) ?_
      refine (refempty_calls _).mono ?_
      rintro e v2_ ⟨rfl, hb1⟩
      refine ⟨_, rfl, ?_⟩
      have G_n := Aside0.mk (G.out.below hb1); have LX_n := Aside0.mk (LX.out.below hb1); have LY_n := Aside0.mk (LY.out.below hb1); have HA_n := Aside0.mk (HA.out.below hb1); have LU_n := Aside0.mk (LU.out.below hb1); have LV_n := Aside0.mk (LV.out.below hb1); have LW_n := Aside0.mk (LW.out.below hb1); clear G LX LY HA LU LV LW; have G := G_n; have LX := LX_n; have LY := LY_n; have HA := HA_n; have LU := LU_n; have LV := LV_n; have LW := LW_n; clear G_n LX_n LY_n HA_n LU_n LV_n LW_n; clear hb1
      refine hK _ _ ⟨blk_cell (w := v2_) LU.out.blk 0, blk_cell (w := v2_) LU.out.blk 1, blk_cell (w := v2_) LV.out.blk 0, blk_cell (w := v2_) LV.out.blk 1, blk_cell (w := v2_) LW.out.blk 0, blk_cell (w := v2_) LW.out.blk 1, blk_cell (w := v2_) LY.out.blk 0, blk_cell (w := v2_) LY.out.blk 1⟩ (fun hHeld => ?_)
      clear hK K
      refine norm_ (a' := ?_) ?_ ?_
      rotate_left
      · show Act.put _ (some 118) _ = _
        simp only [Act.put, List.setIfInBounds_toArray, List.set_cons_zero, List.set_cons_succ, i64_w, i32_w]
        rfl
      refine rgp 23 119 ?_
      refine rgp 24 120 ?_
      refine rgp 25 121 ?_
      refine rgp 26 122 ?_
      refine one_ (i := 27) (N := some 123) #[true, true, true, true, true, true, true, true, true, true, true, true, true, true, true, true, true, true, true, true, true, true, true, true, true, true, true, true, false, false, false] rfl rfl (by kernel_rfl) (by decide) (fun K hK => ?_)
      refine goes_ Try.func12 (by kernel_rfl) rfl #[.pointer (some ⟨gp, 0, none⟩), .int .i64 0] (by rfl) rfl rfl (by (try simp only [List.map_toArray, List.map_cons, List.map_nil]); first | done | rfl) ?_
      refine (holds_calls HA.out.po 0).mono ?_
      rintro e v3_ ⟨rfl, hb1⟩
      rw [show holdsP (dX5 a2 d2).P 0 = -1 from rfl]
      refine ⟨_, rfl, ?_⟩
      have G_n := Aside0.mk (G.out.below hb1); have LX_n := Aside0.mk (LX.out.below hb1); have LY_n := Aside0.mk (LY.out.below hb1); have HA_n := Aside0.mk (HA.out.below hb1); have LU_n := Aside0.mk (LU.out.below hb1); have LV_n := Aside0.mk (LV.out.below hb1); have LW_n := Aside0.mk (LW.out.below hb1); clear G LX LY HA LU LV LW; have G := G_n; have LX := LX_n; have LY := LY_n; have HA := HA_n; have LU := LU_n; have LV := LV_n; have LW := LW_n; clear G_n LX_n LY_n HA_n LU_n LV_n LW_n; clear hb1
      refine hK _ _ ⟨blk_cell (w := v3_) LU.out.blk 0, blk_cell (w := v3_) LU.out.blk 1, blk_cell (w := v3_) LV.out.blk 0, blk_cell (w := v3_) LV.out.blk 1, blk_cell (w := v3_) LW.out.blk 0, blk_cell (w := v3_) LW.out.blk 1, blk_cell (w := v3_) LY.out.blk 0, blk_cell (w := v3_) LY.out.blk 1⟩ (fun hHeld => ?_)
      clear hK K
      refine norm_ (a' := ?_) ?_ ?_
      rotate_left
      · show Act.put _ (some 123) _ = _
        simp only [Act.put, List.setIfInBounds_toArray, List.set_cons_zero, List.set_cons_succ, i64_w, i32_w]
        rfl
      refine rgp 28 124 ?_
      refine rgp 29 125 ?_
      refine rgp 30 4 ?_
      refine done_ (by kernel_rfl) ?_
      go_wp2
      go_ret
      exact ⟨rfl, by first | exact G.out.bel | (rw [← hbx]; exact G.out.bel) | exact hbx ▸ G.out.bel⟩
def careenlaw08_PoolDrops.f (a0_0 : Int) (a0_1 : ByteArray) (a1_0 : Int) (a1_1 : ByteArray) : Option Bool := some true
theorem careenlaw08_PoolDrops.calls (a0_0 : Int) (a0_1 : ByteArray) (a1_0 : Int) (a1_1 : ByteArray) (r : Bool) (w : World) (h : careenlaw08_PoolDrops.f a0_0 a0_1 a1_0 a1_1 = some r) :
    Calls Try.prog 4 #[.agg #[.int .i64 a0_0, .string a0_1], .agg #[.int .i64 a1_0, .string a1_1]] w fun e w' => e = .returned (.bool r) ∧ Below w.heap.size w w' := by
  obtain rfl := Option.some.inj h
  exact drops_walk a0_0 a0_1 a1_0 a1_1 w
end Go.Proofs.Ytcelfhoomhmioaa.X4
