import Derived.Test.YtcelfhoomhmioaaPEZ0
import Derived.Test.YtcelfhoomhmioaaPEZ1
import Derived.Test.YtcelfhoomhmioaaPEZ2
import Derived.Test.YtcelfhoomhmioaaPEZ3
import Derived.Test.YtcelfhoomhmioaaPEZ4
import Derived.Test.YtcelfhoomhmioaaPEZ5
import Derived.Test.YtcelfhoomhmioaaPEZ6
import Derived.Test.YtcelfhoomhmioaaPEZ7
import Derived.Test.YtcelfhoomhmioaaPEZ8
import Derived.Test.YtcelfhoomhmioaaPEZ9
import Derived.Test.YtcelfhoomhmioaaPEZ10
import Derived.Test.YtcelfhoomhmioaaPEZ11
import Derived.Test.YtcelfhoomhmioaaPEZ12
import Derived.Test.YtcelfhoomhmioaaPEZ13
import Derived.Test.YtcelfhoomhmioaaPEZ14
import Derived.Test.YtcelfhoomhmioaaPEZ15
import Derived.Test.YtcelfhoomhmioaaPEZ16
import Derived.Test.YtcelfhoomhmioaaPEZ17
set_option maxRecDepth 8192
namespace Go.Proofs.Ytcelfhoomhmioaa.X4
open Go Go.RowKit Go.ChangeMaps Go.Proofs.Ytcelfhoomhmioaa.Pl Go.Proofs.Ytcelfhoomhmioaa.Arr Go.Proofs.Ytcelfhoomhmioaa.Ow Go.Proofs.Ytcelfhoomhmioaa.Dk Go.Proofs.Ytcelfhoomhmioaa.Fr Go.Proofs.YtcelfhoomhmioaaW.PrintWords Go.Proofs.YtcelfhoomhmioaaW.PrintLast Go.Proofs.YtcelfhoomhmioaaW.PrintMore Go.Proofs.Ytcelfhoomhmioaa.Wl Go.Proofs.Ytcelfhoomhmioaa.St
set_option linter.unusedVariables false
set_option linter.unusedSimpArgs false
/-- A map of the law's own, of colour 8. -/
structure SM (w : World) (c : Nat → Nat) (m : Nat) (f : Int → Option Int) : Prop where
  mp : Mi.MP w m f
  col : c m = 8
theorem SM.keep {M : List Nat} {w w' : World} {c c' : Nat → Nat} {m : Nat} {f : Int → Option Int} (h : SM w c m f) (hf : Fr M w c w' c') (hx : 8 ∉ M) : SM w' c' m f := ⟨h.mp.same (hf.blk m h.mp.lt (by rw [h.col]; exact hx)), (hf.col m h.mp.lt).trans h.col⟩
theorem sm_turn {w : World} {c : Nat → Nat} {m : Nat} {f f' : Int → Option Int} (h : SM w c m f) {o : Obj} (ho : Mi.MP (setBlock w m o) m f') : SM (setBlock w m o) c m f' ∧ Fr [8] w c (setBlock w m o) c :=
  ⟨⟨ho, h.col⟩, Fr.of_fs ((FS.refl (fun k => k = m) w).setBlock (m := m) (.inl rfl) o) (fun _ _ => rfl) (fun k _ e => by rw [e, h.col]; simp)⟩
theorem lookup1 {P : Program} {t k e : TypeId} {w : World} {m : Nat} {f : Int → Option Int} (ht : P.underlying t = some (.map k e)) (hk : P.underlying k = some (.int .i64)) (hz : ∀ w, (zeroValue e).run P w = .ok (.int .i64 0) w) (h : Mi.MP w m f) (i : Int) :
    (Instr.lookup t (.map (some m)) (.int .i64 i) false).run P w = .ok (.int .i64 ((f i).getD 0)) w := by
  obtain ⟨L, c, h1, h2, h3⟩ := h
  have hf : (Instr.findKey k (.int .i64 i) (L.map Mi.ent)).run P w = .ok ((Mi.findM L i 0).map fun p => (p.1, .int .i64 p.2)) w := by
    simp [Instr.findKey, run_underlying hk, Mi.findNow_eq]
  have hg := Mi.find_get i L 0
  rw [h3] at hg
  cases hq : Mi.findM L i 0 with
  | none =>
    rw [hq] at hf hg
    have : f i = none := hg.symm
    simp [Instr.lookup, run_underlying ht, MapKept.run_getObj_map h1, Mi.checkKey_int hk, Mi.ents, hf, hz, this, Result.andThen]
  | some p =>
    rw [hq] at hf hg
    have : f i = some p.2 := hg.symm
    simp [Instr.lookup, run_underlying ht, MapKept.run_getObj_map h1, Mi.checkKey_int hk, Mi.ents, hf, hz, this, Result.andThen]
theorem lookup8 {w : World} {m : Nat} {f : Int → Option Int} (h : Mi.MP w m f) (i : Int) : (Instr.lookup 47 (.map (some m)) (.int .i64 i) false).run Try.prog w = .ok (.int .i64 ((f i).getD 0)) w := by
  have ht : Try.prog.underlying 47 = some (.map 3 3) := by kernel_rfl
  have hk : Try.prog.underlying 3 = some (.int .i64) := by kernel_rfl
  have hz : ∀ w, (zeroValue 3).run Try.prog w = .ok (.int .i64 0) w := fun w => by kernel_rfl
  exact lookup1 ht hk hz h i
theorem update8 {w : World} {m : Nat} {f : Int → Option Int} (h : Mi.MP w m f) (i s : Int) : ∃ o, (Instr.mapUpdate 47 (.map (some m)) (.int .i64 i) (.int .i64 s)).run Try.prog w = .ok () (setBlock w m o) ∧ Mi.MP (setBlock w m o) m (fun j => if j = i then some s else f j) :=
  Mi.run_update_mp (P := Try.prog) (t := 47) (k := 3) (e := 3) (by kernel_rfl) (by kernel_rfl) h i s
/-- What was seen of the first k pages. -/
def Seen (P : PS) (k : Nat) (f : Int → Option Int) : Prop := ∀ x, 0 ≤ x → f x = none ∨ f x = some 1 ∧ ∃ j : Nat, j < k ∧ holdsP P (j : Int) = x
theorem Seen.more {P : PS} {k : Nat} {f : Int → Option Int} (h : Seen P k f) : Seen P (k + 1) f := fun x hx => (h x hx).imp id (fun ⟨e, j, h1, h2⟩ => ⟨e, j, by omega, h2⟩)
theorem Seen.none {pn : Int} {P : PS} (hw : WF pn P) {k : Nat} {f : Int → Option Int} (h : Seen P k f) (hk : 0 ≤ holdsP P (k : Int)) : f (holdsP P (k : Int)) = none := by
  rcases h _ hk with h | ⟨_, j, h1, h2⟩
  · exact h
  · have := hw.one hk h2.symm
    omega
theorem Seen.put {P : PS} {k : Nat} {f : Int → Option Int} (h : Seen P k f) : Seen P (k + 1) (fun j => if j = holdsP P (k : Int) then some 1 else f j) := fun x hx => by
  by_cases e : x = holdsP P (k : Int)
  · exact .inr ⟨if_pos e, k, by omega, e.symm⟩
  · rcases h x hx with h1 | ⟨h1, j, h2, h3⟩
    · exact .inl ((if_neg e).trans h1)
    · exact .inr ⟨(if_neg e).trans h1, j, by omega, h3⟩
theorem k_le {k : Nat} {z : Int} (h : (k : Int) < z) : ((k + 1 : Nat) : Int) ≤ z := by omega
theorem k_ms {k : Nat} {z : Int} (h : (k : Int) < z) : z.toNat - (intOf (.int .i64 ((k + 1 : Nat) : Int))).toNat < z.toNat - (intOf (.int .i64 (k : Int))).toNat := by
  simp only [intOf]
  omega
theorem k_wr {k : Nat} {z : Int} (h : (k : Int) < z) (hz : z ≤ 8) : wrap64 ((k : Int) + 1) = ((k + 1 : Nat) : Int) := by
  unfold wrap64
  omega
theorem r_ms {r n : Nat} (h : r < n) : n - (intOf (.int .i64 ((r + 1 : Nat) : Int))).toNat < n - (intOf (.int .i64 (r : Int))).toNat := by
  simp only [intOf]
  omega
theorem umod {n i : Int} (h0 : 1 ≤ n) (h1 : n < 1000) : 0 ≤ wrap64 ((IntKind.u64.wrap i).tmod (IntKind.u64.wrap n)) ∧ wrap64 ((IntKind.u64.wrap i).tmod (IntKind.u64.wrap n)) < n := by
  have e : IntKind.u64.wrap n = n := by rw [IntKind.wrap_u64]; omega
  rw [e]
  exact Lv.mod_ok n i (by omega) (by omega)
theorem made_okG {zp zl : Int} {nf : Nat} (h : 1 ≤ zp ∧ zp ≤ 8) (hl : 8 ≤ zl ∧ zl ≤ 64) (hf : 1 ≤ nf ∧ nf ≤ 8) {w0 w : World} {c : Nat → Nat} (_ : Gr w0 w c) : Calls Try.prog 7 #[.agg #[.int .i64 zp, .int .i64 (nf : Int), .int .i64 zl]] w fun e w' => ∃ g gs gl ml gp fb m cp c', e = .returned (.tuple #[.pointer (some ⟨g, 0, none⟩), .pointer (some ⟨gs, 0, none⟩), .pointer (some ⟨gl, 0, none⟩), .pointer (some ⟨gp, 0, none⟩), .int .i64 0]) ∧ Fr [] w c w' c' ∧ AO w' c' gp fb m gs gl ml g nf cp 0 zp ⟨newP nf, 1, newW 30 zl, newD 100⟩ := made_ok zp zl nf h hl hf w c
set_option maxHeartbeats 16000000 in
set_option maxRecDepth 20000 in
theorem holds_bad (zp zf zl : Int) (hzi : -9223372036854775808 ≤ zl ∧ zl < 9223372036854775808) (hb : zp < 1 ∨ 8 < zp ∨ zl < 8 ∨ 64 < zl ∨ zf < 1 ∨ 8 < zf) (A0 : Option Addr) (c0 : Nat) (l : List S41) (w : World) (hr : Kd.C k41 w A0 l.length l) (hc0 : l.length ≤ c0) : Calls Try.prog 3 #[.agg #[.int .i64 zp, .int .i64 zf, .int .i64 zl], .slice A0 l.length c0] w fun e w' => e = .returned (.bool true) ∧ Below w.heap.size w w' := by
  have HB := Aside0.mk hb; have HZI := Aside0.mk hzi
  clear hb hzi hr hc0
  have G := Aside0.mk (Gr.refl w)
  go_enter Try.func3, Try.ntmps3
  go_upto_region 1 with (fail)
  have hf := fr_alloc [] w (fun _ => 0) 9 (.cells #[.int .i64 zp, .int .i64 zf, .int .i64 zl] 23)
  have G_n := Aside0.mk (G.out.step hf (by decide)); clear G; have G := G_n; clear G_n
  have LZ := Aside0.mk (loc_alloc w (fun _ => 0) 9 #[.int .i64 zp, .int .i64 zf, .int .i64 zl] 23)
  clear hf
  generalize Dk.paint (fun _ => 0) w.heap.size 9 = cLZ at *
  generalize w.alloc (.cells #[.int .i64 zp, .int .i64 zf, .int .i64 zl] 23) = W0 at *
  generalize w.heap.size = zb at *
  (try clear z0 z1 z2); have z0 : W0.cell? ⟨zb, 0, none⟩ = some (.int .i64 zp) := blk_cell LZ.out.blk 0; have z1 : W0.cell? ⟨zb, 1, none⟩ = some (.int .i64 zf) := blk_cell LZ.out.blk 1; have z2 : W0.cell? ⟨zb, 2, none⟩ = some (.int .i64 zl) := blk_cell LZ.out.blk 2
  go_wp2_with (first | (go_at_call 7; (with_reducible refine (made_bad zp zf zl HZI.out HB.out _).mono ?_); rintro e w1 ⟨⟨g_, p2_, p3_, p4_, rfl⟩, hb1⟩; have G_n := Aside0.mk (G.out.below hb1); have LZ_n := Aside0.mk (LZ.out.below hb1); clear G LZ; have G := G_n; have LZ := LZ_n; clear G_n LZ_n; clear hb1) | (go_at_call 8; (with_reducible refine (awake_calls _).mono ?_); rintro e w1 ⟨rfl, hb1⟩; have G_n := Aside0.mk (G.out.below hb1); have LZ_n := Aside0.mk (LZ.out.below hb1); clear G LZ; have G := G_n; have LZ := LZ_n; clear G_n LZ_n; clear hb1))
  go_ret
  exact ⟨rfl, G.out.bel⟩
set_option maxHeartbeats 16000000 in
set_option maxRecDepth 20000 in
theorem holds_walk (zp zl : Int) (nf : Nat) (h : 1 ≤ zp ∧ zp ≤ 8) (hl : 8 ≤ zl ∧ zl ≤ 64) (hf : 1 ≤ nf ∧ nf ≤ 8) (A0 : Option Addr) (c0 : Nat) (l : List S41) (w : World) (hr : Kd.C k41 w A0 l.length l) (hc0 : l.length ≤ c0) : Calls Try.prog 3 #[.agg #[.int .i64 zp, .int .i64 (nf : Int), .int .i64 zl], .slice A0 l.length c0] w fun e w' => e = .returned (.bool true) ∧ Below w.heap.size w w' := by
  have hm := Kd.C_max hr
  have HR := Aside0.mk hr; have HC0 := Aside0.mk hc0; have HZP := Aside0.mk h; have HZL := Aside0.mk hl; have HNF := Aside0.mk hf
  have HKP := Aside0.mk (kp_new (pn := zp) (nl := zl) (n := nf) h hl hf.1)
  clear hr hc0 h hl hf
  have G := Aside0.mk (Gr.refl w)
  go_enter Try.func3, Try.ntmps3
  go_upto_region 1 with (fail)
  have hf := fr_alloc [] w (fun _ => 0) 9 (.cells #[.int .i64 zp, .int .i64 (nf : Int), .int .i64 zl] 23)
  have G_n := Aside0.mk (G.out.step hf (by decide)); clear G; have G := G_n; clear G_n
  have LZ := Aside0.mk (loc_alloc w (fun _ => 0) 9 #[.int .i64 zp, .int .i64 (nf : Int), .int .i64 zl] 23)
  clear hf
  generalize Dk.paint (fun _ => 0) w.heap.size 9 = cLZ at *
  generalize w.alloc (.cells #[.int .i64 zp, .int .i64 (nf : Int), .int .i64 zl] 23) = W0 at *
  generalize w.heap.size = zb at *
  (try clear z0 z1 z2); have z0 : W0.cell? ⟨zb, 0, none⟩ = some (.int .i64 zp) := blk_cell LZ.out.blk 0; have z1 : W0.cell? ⟨zb, 1, none⟩ = some (.int .i64 (nf : Int)) := blk_cell LZ.out.blk 1; have z2 : W0.cell? ⟨zb, 2, none⟩ = some (.int .i64 zl) := blk_cell LZ.out.blk 2
  go_upto_region 2 with (go_at_call 7; (with_reducible refine (made_okG HZP.out HZL.out HNF.out G.out).mono ?_); rintro e w1 ⟨g, gs, gl, ml, gp, fb, m, cp, c1, rfl, hf, ha⟩; have G_n := Aside0.mk (G.out.step hf (by decide)); have LZ_n := Aside0.mk (LZ.out.keep hf (by decide)); clear G LZ; have G := G_n; have LZ := LZ_n; clear G_n LZ_n; have HA := Aside0.mk ha; clear ha hf; (try clear z0 z1 z2); have z0 : w1.cell? ⟨zb, 0, none⟩ = some (.int .i64 zp) := blk_cell LZ.out.blk 0; have z1 : w1.cell? ⟨zb, 1, none⟩ = some (.int .i64 (nf : Int)) := blk_cell LZ.out.blk 1; have z2 : w1.cell? ⟨zb, 2, none⟩ = some (.int .i64 zl) := blk_cell LZ.out.blk 2)
  generalize (⟨newP nf, 1, newW 30 zl, newD 100⟩ : XS) = X0 at *
  cases hlg : longP l with
  | true =>
    go_wp2_with (first | (go_at_call 8; (with_reducible refine (awake_calls _).mono ?_); rintro e w1 ⟨rfl, hb1⟩; have G_n := Aside0.mk (G.out.below hb1); have HA_n := Aside0.mk (HA.out.below hb1); have LZ_n := Aside0.mk (LZ.out.below hb1); clear G HA LZ; have G := G_n; have HA := HA_n; have LZ := LZ_n; clear G_n HA_n LZ_n; clear hb1; (try clear z0 z1 z2); have z0 : w1.cell? ⟨zb, 0, none⟩ = some (.int .i64 zp) := blk_cell LZ.out.blk 0; have z1 : w1.cell? ⟨zb, 1, none⟩ = some (.int .i64 (nf : Int)) := blk_cell LZ.out.blk 1; have z2 : w1.cell? ⟨zb, 2, none⟩ = some (.int .i64 zl) := blk_cell LZ.out.blk 2) | (go_at_call 9; (with_reducible refine (longP_calls _ _ _ _ (Kd.C_below HR.out G.out.bel) HC0.out).mono ?_); rintro e w1 ⟨rfl, hb1⟩; have G_n := Aside0.mk (G.out.below hb1); have HA_n := Aside0.mk (HA.out.below hb1); have LZ_n := Aside0.mk (LZ.out.below hb1); clear G HA LZ; have G := G_n; have HA := HA_n; have LZ := LZ_n; clear G_n HA_n LZ_n; clear hb1; (try clear z0 z1 z2); have z0 : w1.cell? ⟨zb, 0, none⟩ = some (.int .i64 zp) := blk_cell LZ.out.blk 0; have z1 : w1.cell? ⟨zb, 1, none⟩ = some (.int .i64 (nf : Int)) := blk_cell LZ.out.blk 1; have z2 : w1.cell? ⟨zb, 2, none⟩ = some (.int .i64 zl) := blk_cell LZ.out.blk 2))
    go_ret
    exact ⟨rfl, G.out.bel⟩
  | false =>
    have HLG := Aside0.mk (longP_no hlg)
    go_upto_region 4 with (first | (go_at_call 8; (with_reducible refine (awake_calls _).mono ?_); rintro e w1 ⟨rfl, hb1⟩; have G_n := Aside0.mk (G.out.below hb1); have HA_n := Aside0.mk (HA.out.below hb1); have LZ_n := Aside0.mk (LZ.out.below hb1); clear G HA LZ; have G := G_n; have HA := HA_n; have LZ := LZ_n; clear G_n HA_n LZ_n; clear hb1; (try clear z0 z1 z2); have z0 : w1.cell? ⟨zb, 0, none⟩ = some (.int .i64 zp) := blk_cell LZ.out.blk 0; have z1 : w1.cell? ⟨zb, 1, none⟩ = some (.int .i64 (nf : Int)) := blk_cell LZ.out.blk 1; have z2 : w1.cell? ⟨zb, 2, none⟩ = some (.int .i64 zl) := blk_cell LZ.out.blk 2) | (go_at_call 9; (with_reducible refine (longP_calls _ _ _ _ (Kd.C_below HR.out G.out.bel) HC0.out).mono ?_); rintro e w1 ⟨rfl, hb1⟩; have G_n := Aside0.mk (G.out.below hb1); have HA_n := Aside0.mk (HA.out.below hb1); have LZ_n := Aside0.mk (LZ.out.below hb1); clear G HA LZ; have G := G_n; have HA := HA_n; have LZ := LZ_n; clear G_n HA_n LZ_n; clear hb1; (try clear z0 z1 z2); have z0 : w1.cell? ⟨zb, 0, none⟩ = some (.int .i64 zp) := blk_cell LZ.out.blk 0; have z1 : w1.cell? ⟨zb, 1, none⟩ = some (.int .i64 (nf : Int)) := blk_cell LZ.out.blk 1; have z2 : w1.cell? ⟨zb, 2, none⟩ = some (.int .i64 zl) := blk_cell LZ.out.blk 2))
    clear hlg
    go_upto_region 5 with (fail)
    go_loopw [39] (fun v wr => ∃ (r : Nat) (X : XS) (ws : Int → Int × ByteArray) (c : Nat → Nat), v = .int .i64 r ∧ Aside0 (r ≤ l.length) ∧ Aside0 (Gr w wr c) ∧ Aside0 (AO wr c gp fb m gs gl ml g nf cp 0 zp X) ∧ Aside0 (Fr.Loc wr c zb 9 #[.int .i64 zp, .int .i64 (nf : Int), .int .i64 zl] 23) ∧ Aside0 (KP zp zl 1 (1 + (r : Int)) X ws nP)) (fun v _ => l.length - (intOf v).toNat)
    case atStart => exact ⟨0, _, _, _, rfl, ⟨Nat.zero_le _⟩, G, HA, LZ, HKP⟩
    case round =>
      clear G HA LZ HKP z0 z1 z2
      obtain ⟨r, X, ws, c, rfl, HRL, G, HA, LZ, HKP⟩ := hrel
      by_cases hlt : r < l.length
      · have hlt1 : (r : Int) < (l.length : Int) := by omega
        have hwk : wrap64 ((r : Int) + 1) = ((r + 1 : Nat) : Int) := by unfold wrap64; omega
        have HLT := Aside0.mk hlt
        have HBB := Aside0.mk (show 1 + (r : Int) < 4294967290 by have := HLG.out.1; omega)
        obtain ⟨ad, A14, c14, A15, c15, hA, q0, q1, q2, q3, q4, q5, q6, q7, q8, q9, q10, q11, q12, q13, q14, q15, l14, g14, l15, g15⟩ := at_T41 HR.out (r : Int) (by omega) hlt1
        subst hA
        rw [Int.toNat_natCast] at q0 q1 q2 q3 q4 q5 q6 q7 q8 q9 q10 q11 q12 q13 q14 q15
        replace q0 := pw_cell_below G.out.bel q0
        replace q1 := pw_cell_below G.out.bel q1
        replace q2 := pw_cell_below G.out.bel q2
        replace q3 := pw_cell_below G.out.bel q3
        replace q4 := pw_cell_below G.out.bel q4
        replace q5 := pw_cell_below G.out.bel q5
        replace q6 := pw_cell_below G.out.bel q6
        replace q7 := pw_cell_below G.out.bel q7
        replace q8 := pw_cell_below G.out.bel q8
        replace q9 := pw_cell_below G.out.bel q9
        replace q10 := pw_cell_below G.out.bel q10
        replace q11 := pw_cell_below G.out.bel q11
        replace q12 := pw_cell_below G.out.bel q12
        replace q13 := pw_cell_below G.out.bel q13
        replace q14 := pw_cell_below G.out.bel q14
        replace q15 := pw_cell_below G.out.bel q15
        clear l14 g14 l15 g15
        generalize rd_T41 l (r : Nat) = o_ at *
        (try clear z0 z1 z2); have z0 : wr.cell? ⟨zb, 0, none⟩ = some (.int .i64 zp) := blk_cell LZ.out.blk 0; have z1 : wr.cell? ⟨zb, 1, none⟩ = some (.int .i64 (nf : Int)) := blk_cell LZ.out.blk 1; have z2 : wr.cell? ⟨zb, 2, none⟩ = some (.int .i64 zl) := blk_cell LZ.out.blk 2
        go_upto_region 7 with (fail)
        have hf := fr_alloc [] wr c 9 (.cells #[.int .i64 o_.f0, .int .i64 o_.f1, .int .i64 o_.f2, .int .i64 o_.f3.f0, .string o_.f3.f1, .int .i64 o_.f4.f0, .int .i64 o_.f4.f1, .int .i64 o_.f4.f2, .int .i64 o_.f4.f3, .int .i64 o_.f4.f4, .int .i64 o_.f4.f5, .int .i64 o_.f4.f6, .string o_.f4.f7, .string o_.f4.f8, .slice A14 o_.f4.f9.length c14, .slice A15 o_.f4.f10.length c15] 41)
        have G_n := Aside0.mk (G.out.step hf (by decide)); have HA_n := Aside0.mk (HA.out.keep hf (by decide) (by decide) (by decide) (by decide)); have LZ_n := Aside0.mk (LZ.out.keep hf (by decide)); clear G HA LZ; have G := G_n; have HA := HA_n; have LZ := LZ_n; clear G_n HA_n LZ_n
        have LO := Aside0.mk (loc_alloc wr c 9 #[.int .i64 o_.f0, .int .i64 o_.f1, .int .i64 o_.f2, .int .i64 o_.f3.f0, .string o_.f3.f1, .int .i64 o_.f4.f0, .int .i64 o_.f4.f1, .int .i64 o_.f4.f2, .int .i64 o_.f4.f3, .int .i64 o_.f4.f4, .int .i64 o_.f4.f5, .int .i64 o_.f4.f6, .string o_.f4.f7, .string o_.f4.f8, .slice A14 o_.f4.f9.length c14, .slice A15 o_.f4.f10.length c15] 41)
        clear hf
        generalize Dk.paint c wr.heap.size 9 = cLO at *
        generalize wr.alloc (.cells #[.int .i64 o_.f0, .int .i64 o_.f1, .int .i64 o_.f2, .int .i64 o_.f3.f0, .string o_.f3.f1, .int .i64 o_.f4.f0, .int .i64 o_.f4.f1, .int .i64 o_.f4.f2, .int .i64 o_.f4.f3, .int .i64 o_.f4.f4, .int .i64 o_.f4.f5, .int .i64 o_.f4.f6, .string o_.f4.f7, .string o_.f4.f8, .slice A14 o_.f4.f9.length c14, .slice A15 o_.f4.f10.length c15] 41) = W4 at *
        generalize wr.heap.size = ob at *
        clear q0 q1 q2 q3 q4 q5 q6 q7 q8 q9 q10 q11 q12 q13 q14 q15
        have hcs := LO.out.blk
        have q0 : W4.cell? ⟨ob, 0, none⟩ = some (.int .i64 o_.f0) := blk_cell hcs 0
        have q1 : W4.cell? ⟨ob, 1, none⟩ = some (.int .i64 o_.f1) := blk_cell hcs 1
        have q2 : W4.cell? ⟨ob, 2, none⟩ = some (.int .i64 o_.f2) := blk_cell hcs 2
        have q3 : W4.cell? ⟨ob, 3, none⟩ = some (.int .i64 o_.f3.f0) := blk_cell hcs 3
        have q4 : W4.cell? ⟨ob, 4, none⟩ = some (.string o_.f3.f1) := blk_cell hcs 4
        have q5 : W4.cell? ⟨ob, 5, none⟩ = some (.int .i64 o_.f4.f0) := blk_cell hcs 5
        have q6 : W4.cell? ⟨ob, 6, none⟩ = some (.int .i64 o_.f4.f1) := blk_cell hcs 6
        have q7 : W4.cell? ⟨ob, 7, none⟩ = some (.int .i64 o_.f4.f2) := blk_cell hcs 7
        have q8 : W4.cell? ⟨ob, 8, none⟩ = some (.int .i64 o_.f4.f3) := blk_cell hcs 8
        have q9 : W4.cell? ⟨ob, 9, none⟩ = some (.int .i64 o_.f4.f4) := blk_cell hcs 9
        have q10 : W4.cell? ⟨ob, 10, none⟩ = some (.int .i64 o_.f4.f5) := blk_cell hcs 10
        have q11 : W4.cell? ⟨ob, 11, none⟩ = some (.int .i64 o_.f4.f6) := blk_cell hcs 11
        have q12 : W4.cell? ⟨ob, 12, none⟩ = some (.string o_.f4.f7) := blk_cell hcs 12
        have q13 : W4.cell? ⟨ob, 13, none⟩ = some (.string o_.f4.f8) := blk_cell hcs 13
        have q14 : W4.cell? ⟨ob, 14, none⟩ = some (.slice A14 o_.f4.f9.length c14) := blk_cell hcs 14
        have q15 : W4.cell? ⟨ob, 15, none⟩ = some (.slice A15 o_.f4.f10.length c15) := blk_cell hcs 15
        clear hcs
        (try clear z0 z1 z2); have z0 : W4.cell? ⟨zb, 0, none⟩ = some (.int .i64 zp) := blk_cell LZ.out.blk 0; have z1 : W4.cell? ⟨zb, 1, none⟩ = some (.int .i64 (nf : Int)) := blk_cell LZ.out.blk 1; have z2 : W4.cell? ⟨zb, 2, none⟩ = some (.int .i64 zl) := blk_cell LZ.out.blk 2
        have hnz : (IntKind.u64.wrap zp = 0) = False := eq_false (by rw [IntKind.wrap_u64]; have := HZP.out; omega)
        have hnz2 : (IntKind.u64.wrap (nf : Int) = 0) = False := eq_false (by rw [IntKind.wrap_u64]; have := HNF.out; omega)
        have HI := Aside0.mk (umod (n := zp) (i := o_.f1) HZP.out.1 (by have := HZP.out; omega))
        have HRD := Aside0.mk (HKP.out.rdy HBB.out)
        go_upto_region 8 with (fail)
        generalize wrap64 ((IntKind.u64.wrap o_.f1).tmod (IntKind.u64.wrap zp)) = i_ at *
        by_cases hk3 : o_.f0 = 3
        · have hb3 : (o_.f0 == (3 : Int)) = true := beq_iff_eq.2 hk3
          obtain ⟨_, _, ws', hKP'⟩ := HKP.out.evict HBB.out (wrap64 ((IntKind.u64.wrap o_.f2).tmod (IntKind.u64.wrap (nf : Int))))
          have HKP2 := Aside0.mk (show KP zp zl 1 (1 + ((r + 1 : Nat) : Int)) _ ws' nP from (by rw [show 1 + ((r + 1 : Nat) : Int) = 1 + (r : Int) + 1 by omega]; exact hKP'))
          clear hKP'
          go_wp2_with (go_at_call 10; (with_reducible refine (evict_calls HA.out HRD.out (by decide) (wrap64 ((IntKind.u64.wrap o_.f2).tmod (IntKind.u64.wrap (nf : Int))))).mono ?_); rintro e w1 ⟨rfl, c1, hf, ha⟩; have G_n := Aside0.mk (G.out.step hf (by decide)); have LZ_n := Aside0.mk (LZ.out.keep hf (by decide)); clear G LZ; have G := G_n; have LZ := LZ_n; clear G_n LZ_n; clear HA; have HA := Aside0.mk ha; clear ha hf)
          go_roundw
          case rel => exact ⟨r + 1, _, ws', _, by first | rfl | (rw [hwk]) | go_num, ⟨by have := HLT.out; omega⟩, G, HA, LZ, HKP2⟩
          case measure =>
            have := HLT.out
            (try rw [hwk])
            show l.length - (intOf (.int .i64 ((r + 1 : Nat) : Int))).toNat < l.length - (intOf (.int .i64 (r : Int))).toNat
            simp only [intOf]; omega
        · have hb3 : (o_.f0 == (3 : Int)) = false := beq_eq_false_iff_ne.2 hk3
          have HWF := Aside0.mk HKP.out.wf; have HOR := Aside0.mk (HKP.out.okr HBB.out)
          obtain ⟨e1, e2, e3, e4, ⟨kf, e5⟩, ws', hKP'⟩ := HKP.out.get HBB.out HI.out
          generalize hgp : getP 0 zp X i_ = gq at *
          obtain ⟨⟨pa, pb⟩, pe, X'⟩ := gq
          have HGP := Aside0.mk hgp
          simp only [] at e2 e5 hKP'
          subst e2
          clear hgp e1 e3 e4
          have HKP2 := Aside0.mk (show KP zp zl 1 (1 + ((r + 1 : Nat) : Int)) X' ws' nP from (by rw [show 1 + ((r + 1 : Nat) : Int) = 1 + (r : Int) + 1 by omega]; exact hKP'))
          clear hKP'
          have HH := Aside0.mk (show holdsP X'.P i_ = (kf : Int) by unfold holdsP; rw [e5]; rfl)
          clear e5
          go_upto_region 11 with (go_at_call 11; (with_reducible refine (get_calls HA.out HRD.out (by decide) HWF.out HOR.out i_).mono ?_); rintro e w1 ⟨rfl, c1, hf, ha⟩; rw [HGP.out] at ha ⊢; simp only [] at ha ⊢; have G_n := Aside0.mk (G.out.step hf (by decide)); have LZ_n := Aside0.mk (LZ.out.keep hf (by decide)); clear G LZ; have G := G_n; have LZ := LZ_n; clear G_n LZ_n; clear HA; have HA := Aside0.mk ha; clear ha hf; (try clear z0 z1 z2); have z0 : w1.cell? ⟨zb, 0, none⟩ = some (.int .i64 zp) := blk_cell LZ.out.blk 0; have z1 : w1.cell? ⟨zb, 1, none⟩ = some (.int .i64 (nf : Int)) := blk_cell LZ.out.blk 1; have z2 : w1.cell? ⟨zb, 2, none⟩ = some (.int .i64 zl) := blk_cell LZ.out.blk 2)
          have hf := fr_alloc [] w1 c1 9 (.cells #[.int .i64 pa, .string pb] 35)
          have G_n := Aside0.mk (G.out.step hf (by decide)); have HA_n := Aside0.mk (HA.out.keep hf (by decide) (by decide) (by decide) (by decide)); have LZ_n := Aside0.mk (LZ.out.keep hf (by decide)); clear G HA LZ; have G := G_n; have HA := HA_n; have LZ := LZ_n; clear G_n HA_n LZ_n
          have LP := Aside0.mk (loc_alloc w1 c1 9 #[.int .i64 pa, .string pb] 35)
          clear hf
          generalize Dk.paint c1 w1.heap.size 9 = cLP at *
          generalize w1.alloc (.cells #[.int .i64 pa, .string pb] 35) = W5 at *
          generalize w1.heap.size = pb_ at *
          clear LP LO q0 q1 q2 q3 q4 q5 q6 q7 q8 q9 q10 q11 q12 q13 q14 q15
          have hk0 : ¬ ((kf : Int) < 0) := by omega
          go_upto_region 13 with (go_at_call 12; (with_reducible refine (holds_calls HA.out.po i_).mono ?_); rintro e w1 ⟨rfl, hb1⟩; rw [HH.out]; have G_n := Aside0.mk (G.out.below hb1); have HA_n := Aside0.mk (HA.out.below hb1); have LZ_n := Aside0.mk (LZ.out.below hb1); clear G HA LZ; have G := G_n; have HA := HA_n; have LZ := LZ_n; clear G_n HA_n LZ_n; clear hb1; (try clear z0 z1 z2); have z0 : w1.cell? ⟨zb, 0, none⟩ = some (.int .i64 zp) := blk_cell LZ.out.blk 0; have z1 : w1.cell? ⟨zb, 1, none⟩ = some (.int .i64 (nf : Int)) := blk_cell LZ.out.blk 1; have z2 : w1.cell? ⟨zb, 2, none⟩ = some (.int .i64 zl) := blk_cell LZ.out.blk 2)
          clear hk0
          have hmm : ∀ W : World, (Instr.makeMap 47 none).run Try.prog W = .ok (.map (some W.heap.size)) (W.alloc (.map #[] 0)) := fun W => rfl
          go_upto_region 14 with (fail)
          clear hmm
          have hmp := Mi.MP.made w1
          have hf := fr_alloc [] w1 cLP 8 (.map #[] 0)
          have G_n := Aside0.mk (G.out.step hf (by decide)); have HA_n := Aside0.mk (HA.out.keep hf (by decide) (by decide) (by decide) (by decide)); have LZ_n := Aside0.mk (LZ.out.keep hf (by decide)); clear G HA LZ; have G := G_n; have HA := HA_n; have LZ := LZ_n; clear G_n HA_n LZ_n
          have HSM := Aside0.mk (SM.mk hmp (paint_new (c := cLP) (x := 8) (Nat.le_refl w1.heap.size)))
          clear hf hmp
          generalize Dk.paint cLP w1.heap.size 8 = cM at *
          generalize w1.alloc (.map #[] 0) = W6 at *
          generalize w1.heap.size = ms at *
          (try clear z0 z1 z2); have z0 : W6.cell? ⟨zb, 0, none⟩ = some (.int .i64 zp) := blk_cell LZ.out.blk 0; have z1 : W6.cell? ⟨zb, 1, none⟩ = some (.int .i64 (nf : Int)) := blk_cell LZ.out.blk 1; have z2 : W6.cell? ⟨zb, 2, none⟩ = some (.int .i64 zl) := blk_cell LZ.out.blk 2
          have HSN := Aside0.mk (show Seen X'.P 0 (fun _ => none) from fun _ _ => .inl rfl)
          generalize (fun _ => none : Int → Option Int) = f0 at *
          go_upto_region 15 with (fail)
          go_loopw [81] (fun v wr => ∃ (k : Nat) (f : Int → Option Int) (c : Nat → Nat), v = .int .i64 k ∧ Aside0 ((k : Int) ≤ zp) ∧ Aside0 (Gr w wr c) ∧ Aside0 (AO wr c gp fb m gs gl ml g nf cp 0 zp X') ∧ Aside0 (Fr.Loc wr c zb 9 #[.int .i64 zp, .int .i64 (nf : Int), .int .i64 zl] 23) ∧ Aside0 (SM wr c ms f) ∧ Aside0 (Seen X'.P k f)) (fun v _ => zp.toNat - (intOf v).toNat)
          case atStart => exact ⟨0, _, _, rfl, ⟨by have := HZP.out; omega⟩, G, HA, LZ, HSM, HSN⟩
          case round =>
            clear G HA LZ HSM HSN z0 z1 z2
            obtain ⟨k, f, c', rfl, HK, G, HA, LZ, HSM, HSN⟩ := hrel
            by_cases hlk : (k : Int) < zp
            · have hwj : wrap64 ((k : Int) + 1) = ((k + 1 : Nat) : Int) := by have := HZP.out; unfold wrap64; omega
              have HKL := Aside0.mk hlk
              have HLN := Aside0.mk HA.out.po.len
              (try clear z0 z1 z2); have z0 : wr.cell? ⟨zb, 0, none⟩ = some (.int .i64 zp) := blk_cell LZ.out.blk 0; have z1 : wr.cell? ⟨zb, 1, none⟩ = some (.int .i64 (nf : Int)) := blk_cell LZ.out.blk 1; have z2 : wr.cell? ⟨zb, 2, none⟩ = some (.int .i64 zl) := blk_cell LZ.out.blk 2
              rcases HKP2.out.wf.lt (k : Int) with hh | hh
              · have HHK := Aside0.mk hh; have HSN2 := Aside0.mk HSN.out.more
                clear hh
                have hh0 : ¬ ((0 : Int) ≤ -1) := by decide
                go_upto_region 18 with (go_at_call 12; (with_reducible refine (holds_calls HA.out.po (k : Int)).mono ?_); rintro e w1 ⟨rfl, hb1⟩; rw [HHK.out]; have G_n := Aside0.mk (G.out.below hb1); have HA_n := Aside0.mk (HA.out.below hb1); have LZ_n := Aside0.mk (LZ.out.below hb1); have HSM_n := Aside0.mk (HSM.out.keep (Fr.of_below (M := []) hb1) (by decide)); clear G HA LZ HSM; have G := G_n; have HA := HA_n; have LZ := LZ_n; have HSM := HSM_n; clear G_n HA_n LZ_n HSM_n; clear hb1; (try clear z0 z1 z2); have z0 : w1.cell? ⟨zb, 0, none⟩ = some (.int .i64 zp) := blk_cell LZ.out.blk 0; have z1 : w1.cell? ⟨zb, 1, none⟩ = some (.int .i64 (nf : Int)) := blk_cell LZ.out.blk 1; have z2 : w1.cell? ⟨zb, 2, none⟩ = some (.int .i64 zl) := blk_cell LZ.out.blk 2)
                go_wp2
                go_roundw
                case rel => exact ⟨k + 1, f, _, by first | rfl | (rw [hwj]) | go_num, ⟨by have := HKL.out; omega⟩, G, HA, LZ, HSM, HSN2⟩
                case measure =>
                  have := HKL.out
                  (try rw [hwj])
                  show zp.toNat - (intOf (.int .i64 ((k + 1 : Nat) : Int))).toNat < zp.toNat - (intOf (.int .i64 (k : Int))).toNat
                  simp only [intOf]; omega
              · have HHK := Aside0.mk hh; have HFN := Aside0.mk (HSN.out.none HKP2.out.wf hh.1); have HSN2 := Aside0.mk HSN.out.put
                clear hh
                obtain ⟨hq, hqe⟩ : ∃ hq, hq = holdsP X'.P (k : Int) := ⟨_, rfl⟩
                rw [← hqe] at HHK HFN HSN2
                have HQE := Aside0.mk hqe; clear hqe
                have t1 : (0 : Int) ≤ hq := HHK.out.1
                have t2 : ¬ ((nf : Int) ≤ hq) := by have := HHK.out; have := HLN.out; omega
                go_upto_region 19 with (go_at_call 12; (with_reducible refine (holds_calls HA.out.po (k : Int)).mono ?_); rintro e w1 ⟨rfl, hb1⟩; rw [← HQE.out]; have G_n := Aside0.mk (G.out.below hb1); have HA_n := Aside0.mk (HA.out.below hb1); have LZ_n := Aside0.mk (LZ.out.below hb1); have HSM_n := Aside0.mk (HSM.out.keep (Fr.of_below (M := []) hb1) (by decide)); clear G HA LZ HSM; have G := G_n; have HA := HA_n; have LZ := LZ_n; have HSM := HSM_n; clear G_n HA_n LZ_n HSM_n; clear hb1; (try clear z0 z1 z2); have z0 : w1.cell? ⟨zb, 0, none⟩ = some (.int .i64 zp) := blk_cell LZ.out.blk 0; have z1 : w1.cell? ⟨zb, 1, none⟩ = some (.int .i64 (nf : Int)) := blk_cell LZ.out.blk 1; have z2 : w1.cell? ⟨zb, 2, none⟩ = some (.int .i64 zl) := blk_cell LZ.out.blk 2)
                have hlu := lookup8 HSM.out.mp hq
                rw [HFN.out] at hlu
                have hlu : (Instr.lookup 47 (.map (some ms)) (.int .i64 hq) false).run Try.prog w1 = .ok (.int .i64 0) w1 := hlu
                obtain ⟨ob2, hrun, hmp⟩ := update8 HSM.out.mp hq 1
                have HM := Aside0.mk hmp; clear hmp
                go_upto_region 20 with (fail)
                clear hlu hrun
                have hT := sm_turn HSM.out HM.out
                have hf := hT.2
                clear HSM
                have HSM := Aside0.mk hT.1
                have G_n := Aside0.mk (G.out.step hf (by decide)); have HA_n := Aside0.mk (HA.out.keep hf (by decide) (by decide) (by decide) (by decide)); have LZ_n := Aside0.mk (LZ.out.keep hf (by decide)); clear G HA LZ; have G := G_n; have HA := HA_n; have LZ := LZ_n; clear G_n HA_n LZ_n
                clear hT hf HM
                generalize setBlock w1 ms ob2 = W7 at *
                (try clear z0 z1 z2); have z0 : W7.cell? ⟨zb, 0, none⟩ = some (.int .i64 zp) := blk_cell LZ.out.blk 0; have z1 : W7.cell? ⟨zb, 1, none⟩ = some (.int .i64 (nf : Int)) := blk_cell LZ.out.blk 1; have z2 : W7.cell? ⟨zb, 2, none⟩ = some (.int .i64 zl) := blk_cell LZ.out.blk 2
                have hlu := lookup8 HSM.out.mp hq
                simp only [if_true] at hlu
                have hlu : (Instr.lookup 47 (.map (some ms)) (.int .i64 hq) false).run Try.prog W7 = .ok (.int .i64 1) W7 := hlu
                go_wp2
                go_roundw
                case rel => exact ⟨k + 1, _, _, by first | rfl | (rw [hwj]) | go_num, ⟨by have := HKL.out; omega⟩, G, HA, LZ, HSM, HSN2⟩
                case measure =>
                  have := HKL.out
                  (try rw [hwj])
                  show zp.toNat - (intOf (.int .i64 ((k + 1 : Nat) : Int))).toNat < zp.toNat - (intOf (.int .i64 (k : Int))).toNat
                  simp only [intOf]; omega
            · go_wp2
              go_roundw
              case rel => exact ⟨r + 1, _, ws', _, by first | rfl | (rw [hwk]) | go_num, ⟨by have := HLT.out; omega⟩, G, HA, LZ, HKP2⟩
              case measure =>
                have := HLT.out
                (try rw [hwk])
                show l.length - (intOf (.int .i64 ((r + 1 : Nat) : Int))).toNat < l.length - (intOf (.int .i64 (r : Int))).toNat
                simp only [intOf]; omega
      · obtain rfl : r = l.length := by have := HRL.out; omega
        clear hlt
        go_wp2
        go_ret
        exact ⟨rfl, G.out.bel⟩
theorem careenlaw08_PoolHolds.wfz {x : Int} (h : (Lit.int .i64 x).wf = true) : -9223372036854775808 ≤ x ∧ x < 9223372036854775808 := by
  simp only [Lit.wf, Bool.and_eq_true, decide_eq_true_eq] at h
  have h2 : IntKind.i64.min ≤ x ∧ x ≤ IntKind.i64.max := h
  simp only [show IntKind.i64.min = -9223372036854775808 from rfl, show IntKind.i64.max = 9223372036854775807 from rfl] at h2
  omega
def careenlaw08_PoolHolds.f (a0_0 a0_1 a0_2 : Int) (l1 : List S41) : Option Bool := if -9223372036854775808 ≤ a0_2 ∧ a0_2 < 9223372036854775808 then some true else none
theorem careenlaw08_PoolHolds.calls (a0_0 a0_1 a0_2 : Int) (A1 : Option Addr) (c1 : Nat) (l1 : List S41) (r : Bool) (w : World) (hr1 : Kd.C k41 w A1 l1.length l1) (hc1 : l1.length ≤ c1) (h : careenlaw08_PoolHolds.f a0_0 a0_1 a0_2 l1 = some r) :
    Calls Try.prog 3 #[.agg #[.int .i64 a0_0, .int .i64 a0_1, .int .i64 a0_2], .slice A1 l1.length c1] w fun e w' => e = .returned (.bool r) ∧ Below w.heap.size w w' := by
  unfold careenlaw08_PoolHolds.f at h
  by_cases hz : -9223372036854775808 ≤ a0_2 ∧ a0_2 < 9223372036854775808
  · rw [if_pos hz] at h
    obtain rfl := Option.some.inj h
    by_cases hb : a0_0 < 1 ∨ 8 < a0_0 ∨ a0_2 < 8 ∨ 64 < a0_2 ∨ a0_1 < 1 ∨ 8 < a0_1
    · exact holds_bad a0_0 a0_1 a0_2 hz hb A1 c1 l1 w hr1 hc1
    · obtain ⟨nf, hn⟩ : ∃ nf : Nat, a0_1 = (nf : Int) := ⟨a0_1.toNat, by omega⟩
      subst hn
      exact holds_walk a0_0 a0_2 nf (by omega) (by omega) (by omega) A1 c1 l1 w hr1 hc1
  · rw [if_neg hz] at h
    cases h
end Go.Proofs.Ytcelfhoomhmioaa.X4
