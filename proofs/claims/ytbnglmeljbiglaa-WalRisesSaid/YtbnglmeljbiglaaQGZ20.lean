import Derived.Test.YtbnglmeljbiglaaQGZ0
import Derived.Test.YtbnglmeljbiglaaQGZ1
import Derived.Test.YtbnglmeljbiglaaQGZ2
import Derived.Test.YtbnglmeljbiglaaQGZ3
import Derived.Test.YtbnglmeljbiglaaQGZ4
import Derived.Test.YtbnglmeljbiglaaQGZ5
import Derived.Test.YtbnglmeljbiglaaQGZ6
import Derived.Test.YtbnglmeljbiglaaQGZ7
import Derived.Test.YtbnglmeljbiglaaQGZ8
import Derived.Test.YtbnglmeljbiglaaQGZ9
import Derived.Test.YtbnglmeljbiglaaQGZ10
import Derived.Test.YtbnglmeljbiglaaQGZ11
import Derived.Test.YtbnglmeljbiglaaQGZ12
import Derived.Test.YtbnglmeljbiglaaQGZ13
import Derived.Test.YtbnglmeljbiglaaQGZ14
import Derived.Test.YtbnglmeljbiglaaQGZ15
import Derived.Test.YtbnglmeljbiglaaQGZ16
import Derived.Test.YtbnglmeljbiglaaQGZ17
import Derived.Test.YtbnglmeljbiglaaQGZ18
import Derived.Test.YtbnglmeljbiglaaQGZ19
set_option maxRecDepth 8192
namespace Go.Proofs.Ytbnglmeljbiglaa.Wl
open Go.Proofs.Ytbnglmeljbiglaa.Rgn
open Go.Proofs.Ytbnglmeljbiglaa.X4 Go.Proofs.Ytbnglmeljbiglaa.Pt Go.Proofs.Ytbnglmeljbiglaa.Ptb Go Go.RowKit Go.ChangeMaps Go.Proofs.Ytbnglmeljbiglaa.Arr Go.Proofs.Ytbnglmeljbiglaa.Mp Go.Proofs.Ytbnglmeljbiglaa.Ow Go.Proofs.Ytbnglmeljbiglaa.Dk Go.Proofs.Ytbnglmeljbiglaa.Fr Go.Proofs.YtbnglmeljbiglaaW.PrintWords Go.Proofs.YtbnglmeljbiglaaW.PrintLast Go.Proofs.YtbnglmeljbiglaaW.PrintMore
set_option linter.unusedVariables false
set_option linter.unusedSimpArgs false
/-- An entry's cells that are only read: where its rows lie. -/
theorem ent_rows {w : World} {ok : Nat → Prop} {x : S44} {cs : List Value} (h : Kd.FK X4.k44 w ok x cs) : ∃ (A10 : Option Addr) (c10 : Nat) (A11 : Option Addr) (c11 : Nat), cs = [.int .i64 x.f0, .int .i64 x.f1.f0, .int .i64 x.f1.f1, .int .i64 x.f1.f2, .int .i64 x.f1.f3, .int .i64 x.f1.f4, .int .i64 x.f1.f5, .int .i64 x.f1.f6, .string x.f1.f7, .string x.f1.f8, .slice A10 x.f1.f9.length c10, .slice A11 x.f1.f10.length c11] ∧ x.f1.f9.length ≤ c10 ∧ Kd.F X4.k107 w ok A10 x.f1.f9.length x.f1.f9 ∧ x.f1.f10.length ≤ c11 ∧ Kd.F X4.k109 w ok A11 x.f1.f10.length x.f1.f10 := by
  obtain ⟨A10, c10, A11, c11, rfl, l10, g10, l11, g11⟩ := X4.k44_open (Kd.FK_now h)
  refine ⟨A10, c10, A11, c11, rfl, l10, fun W' hW => ?_, l11, fun W' hW => ?_⟩
  · obtain ⟨B10, d10, B11, d11, he, _, k10, _, k11⟩ := X4.k44_open (h W' hW)
    simp only [List.cons.injEq, Value.slice.injEq] at he
    obtain ⟨_, _, _, _, _, _, _, _, _, _, ⟨e1, _⟩, ⟨e2, _⟩, _⟩ := he
    rw [e1]; exact k10
  · obtain ⟨B10, d10, B11, d11, he, _, k10, _, k11⟩ := X4.k44_open (h W' hW)
    simp only [List.cons.injEq, Value.slice.injEq] at he
    obtain ⟨_, _, _, _, _, _, _, _, _, _, ⟨e1, _⟩, ⟨e2, _⟩, _⟩ := he
    rw [e2]; exact k11
theorem set_blk_to {w : World} {g : Nat} {cs : Array Value} {t : TypeId} {fr : Nat × Nat} (h : w.heap[g]? = some (.cells cs t fr)) (i : Nat) (u : Value) (cs' : Array Value) (hc : cs.setIfInBounds i u = cs') : (w.setCell ⟨g, i, none⟩ u).heap[g]? = some (.cells cs' t fr) := by
  rw [set_blk h i u, hc]
/-- The record at a place, if there is one. -/
def findW (W : WS) (p : Int) : Option En_ := if 0 ≤ p then (entL (sctr p) (bdy W (sctr p))).find? (fun x => x.f0 == p) else none
def recW (W : WS) (p : Int) : S37 := match findW W p with | some x => x.f1 | none => ⟨0, 0, 0, 0, 0, 0, 0, ⟨#[]⟩, ⟨#[]⟩, [], []⟩
def errW (W : WS) (p : Int) : Int := match findW W p with | some _ => 0 | none => 7
/-- A record that is told: its rows are only read, and lie in ok. -/
def RecT (w' : World) (ok : Nat → Prop) (r : S37) (v : Value) : Prop := ∃ (A9 : Option Addr) (c9 : Nat) (A10 : Option Addr) (c10 : Nat), v = .agg #[.int .i64 r.f0, .int .i64 r.f1, .int .i64 r.f2, .int .i64 r.f3, .int .i64 r.f4, .int .i64 r.f5, .int .i64 r.f6, .string r.f7, .string r.f8, .slice A9 r.f9.length c9, .slice A10 r.f10.length c10] ∧ r.f9.length ≤ c9 ∧ Kd.F X4.k107 w' ok A9 r.f9.length r.f9 ∧ r.f10.length ≤ c10 ∧ Kd.F X4.k109 w' ok A10 r.f10.length r.f10
section
variable {w : World} {c : Nat → Nat} {gl m g N : Nat} {W : WS}
set_option maxHeartbeats 16000000 in
theorem lread_calls (h : LO w c gl m g W) (hbd : ∀ i, (bdy W i).size ≤ 112) (p : Int) (hp : -9223372036854775808 ≤ p ∧ p < 1000000000000) :
    Calls Try.prog 27 #[.pointer (some ⟨gl, 0, none⟩), .int .i64 p] w fun e w' => (∃ v : Value, e = .returned (.tuple #[v, .int .i64 (errW W p)]) ∧ RecT w' (fun k => w.heap.size ≤ k) (recW W p) v) ∧ Below w.heap.size w w' := by
  have HL0 := Aside0.mk h; have HBD := Aside0.mk hbd; have HP := Aside0.mk hp
  have HA := Aside0.mk (heap_alloc_new w (.cells #[.int .i64 0, .int .i64 0, .int .i64 0, .int .i64 0, .int .i64 0, .int .i64 0, .int .i64 0, .string ⟨#[]⟩, .string ⟨#[]⟩, .slice none 0 0, .slice none 0 0] 37))
  have HB := Aside0.mk ((Below.refl w.heap.size w).alloc (Nat.le_refl _) (.cells #[.int .i64 0, .int .i64 0, .int .i64 0, .int .i64 0, .int .i64 0, .int .i64 0, .int .i64 0, .string ⟨#[]⟩, .string ⟨#[]⟩, .slice none 0 0, .slice none 0 0] 37))
  have HL := Aside0.mk (HL0.out.below HB.out)
  clear h hbd hp HL0
  go_enter Try.func27, Try.ntmps27
  go_upto_region 1 with (fail)
  generalize w.alloc (.cells #[.int .i64 0, .int .i64 0, .int .i64 0, .int .i64 0, .int .i64 0, .int .i64 0, .int .i64 0, .string ⟨#[]⟩, .string ⟨#[]⟩, .slice none 0 0, .slice none 0 0] 37) = w0 at *
  by_cases h0 : 0 ≤ p
  rotate_left
  · have HQ := Aside0.mk (show findW W p = none by unfold findW; rw [if_neg h0])
    have h1 : ¬ (0 : Int) ≤ p := h0
    have z0 : w0.cell? ⟨w.heap.size, 0, none⟩ = some (.int .i64 0) := blk_cell HA.out 0; have y0 : w0.frozen? ⟨w.heap.size, 0, none⟩ = false := blk_frozen HA.out 0
    have z1 : w0.cell? ⟨w.heap.size, 1, none⟩ = some (.int .i64 0) := blk_cell HA.out 1; have y1 : w0.frozen? ⟨w.heap.size, 1, none⟩ = false := blk_frozen HA.out 1
    have z2 : w0.cell? ⟨w.heap.size, 2, none⟩ = some (.int .i64 0) := blk_cell HA.out 2; have y2 : w0.frozen? ⟨w.heap.size, 2, none⟩ = false := blk_frozen HA.out 2
    have z3 : w0.cell? ⟨w.heap.size, 3, none⟩ = some (.int .i64 0) := blk_cell HA.out 3; have y3 : w0.frozen? ⟨w.heap.size, 3, none⟩ = false := blk_frozen HA.out 3
    have z4 : w0.cell? ⟨w.heap.size, 4, none⟩ = some (.int .i64 0) := blk_cell HA.out 4; have y4 : w0.frozen? ⟨w.heap.size, 4, none⟩ = false := blk_frozen HA.out 4
    have z5 : w0.cell? ⟨w.heap.size, 5, none⟩ = some (.int .i64 0) := blk_cell HA.out 5; have y5 : w0.frozen? ⟨w.heap.size, 5, none⟩ = false := blk_frozen HA.out 5
    have z6 : w0.cell? ⟨w.heap.size, 6, none⟩ = some (.int .i64 0) := blk_cell HA.out 6; have y6 : w0.frozen? ⟨w.heap.size, 6, none⟩ = false := blk_frozen HA.out 6
    have z7 : w0.cell? ⟨w.heap.size, 7, none⟩ = some (.string ⟨#[]⟩) := blk_cell HA.out 7; have y7 : w0.frozen? ⟨w.heap.size, 7, none⟩ = false := blk_frozen HA.out 7
    have z8 : w0.cell? ⟨w.heap.size, 8, none⟩ = some (.string ⟨#[]⟩) := blk_cell HA.out 8; have y8 : w0.frozen? ⟨w.heap.size, 8, none⟩ = false := blk_frozen HA.out 8
    have z9 : w0.cell? ⟨w.heap.size, 9, none⟩ = some (.slice none 0 0) := blk_cell HA.out 9; have y9 : w0.frozen? ⟨w.heap.size, 9, none⟩ = false := blk_frozen HA.out 9
    have z10 : w0.cell? ⟨w.heap.size, 10, none⟩ = some (.slice none 0 0) := blk_cell HA.out 10; have y10 : w0.frozen? ⟨w.heap.size, 10, none⟩ = false := blk_frozen HA.out 10
    go_wp2
    refine bodyPost_ret (results_ct rfl _ _ _ _ _ _ _ rfl (set_blk_to (set_blk_to (set_blk_to (set_blk_to (set_blk_to (set_blk_to (set_blk_to (set_blk_to (set_blk_to (set_blk_to (set_blk_to HA.out 0 (.int .i64 0) #[.int .i64 0, .int .i64 0, .int .i64 0, .int .i64 0, .int .i64 0, .int .i64 0, .int .i64 0, .string ⟨#[]⟩, .string ⟨#[]⟩, .slice none 0 0, .slice none 0 0] rfl) 1 (.int .i64 0) #[.int .i64 0, .int .i64 0, .int .i64 0, .int .i64 0, .int .i64 0, .int .i64 0, .int .i64 0, .string ⟨#[]⟩, .string ⟨#[]⟩, .slice none 0 0, .slice none 0 0] rfl) 2 (.int .i64 0) #[.int .i64 0, .int .i64 0, .int .i64 0, .int .i64 0, .int .i64 0, .int .i64 0, .int .i64 0, .string ⟨#[]⟩, .string ⟨#[]⟩, .slice none 0 0, .slice none 0 0] rfl) 3 (.int .i64 0) #[.int .i64 0, .int .i64 0, .int .i64 0, .int .i64 0, .int .i64 0, .int .i64 0, .int .i64 0, .string ⟨#[]⟩, .string ⟨#[]⟩, .slice none 0 0, .slice none 0 0] rfl) 4 (.int .i64 0) #[.int .i64 0, .int .i64 0, .int .i64 0, .int .i64 0, .int .i64 0, .int .i64 0, .int .i64 0, .string ⟨#[]⟩, .string ⟨#[]⟩, .slice none 0 0, .slice none 0 0] rfl) 5 (.int .i64 0) #[.int .i64 0, .int .i64 0, .int .i64 0, .int .i64 0, .int .i64 0, .int .i64 0, .int .i64 0, .string ⟨#[]⟩, .string ⟨#[]⟩, .slice none 0 0, .slice none 0 0] rfl) 6 (.int .i64 0) #[.int .i64 0, .int .i64 0, .int .i64 0, .int .i64 0, .int .i64 0, .int .i64 0, .int .i64 0, .string ⟨#[]⟩, .string ⟨#[]⟩, .slice none 0 0, .slice none 0 0] rfl) 7 (.string ⟨#[]⟩) #[.int .i64 0, .int .i64 0, .int .i64 0, .int .i64 0, .int .i64 0, .int .i64 0, .int .i64 0, .string ⟨#[]⟩, .string ⟨#[]⟩, .slice none 0 0, .slice none 0 0] rfl) 8 (.string ⟨#[]⟩) #[.int .i64 0, .int .i64 0, .int .i64 0, .int .i64 0, .int .i64 0, .int .i64 0, .int .i64 0, .string ⟨#[]⟩, .string ⟨#[]⟩, .slice none 0 0, .slice none 0 0] rfl) 9 (.slice none 0 0) #[.int .i64 0, .int .i64 0, .int .i64 0, .int .i64 0, .int .i64 0, .int .i64 0, .int .i64 0, .string ⟨#[]⟩, .string ⟨#[]⟩, .slice none 0 0, .slice none 0 0] rfl) 10 (.slice none 0 0) #[.int .i64 0, .int .i64 0, .int .i64 0, .int .i64 0, .int .i64 0, .int .i64 0, .int .i64 0, .string ⟨#[]⟩, .string ⟨#[]⟩, .slice none 0 0, .slice none 0 0] rfl) Try.underlying37 rfl rfl) rfl ⟨⟨_, by unfold errW; rw [HQ.out]; rfl, ?_⟩, (((((((((((HB.out.setCell (by simp) _).setCell (by simp) _).setCell (by simp) _).setCell (by simp) _).setCell (by simp) _).setCell (by simp) _).setCell (by simp) _).setCell (by simp) _).setCell (by simp) _).setCell (by simp) _).setCell (by simp) _)⟩
    unfold recW
    rw [HQ.out]
    exact ⟨none, 0, none, 0, rfl, Nat.le_refl _, Kd.F_nil _ _ _, Nat.le_refl _, Kd.F_nil _ _ _⟩
  have hw : wrap64 (p.tdiv 128) = p.tdiv 128 := by
    have h1 : (p.tdiv 128).natAbs = p.natAbs / 128 := Int.natAbs_tdiv p 128
    have := HP.out
    unfold wrap64; omega
  have HS := Aside0.mk (show -1000000000000 ≤ p.tdiv 128 ∧ p.tdiv 128 ≤ 1000000000000 by
    have h1 : (p.tdiv 128).natAbs = p.natAbs / 128 := Int.natAbs_tdiv p 128
    have := HP.out
    omega)
  go_upto_region 5 with (go_at_call 55; (with_reducible refine (entries_calls HL.out (p.tdiv 128) HS.out (Nat.le_trans (HBD.out _) (by decide))).mono ?_); rintro e w1 ⟨rv, rfl, hv, hb1⟩; obtain ⟨A, cp, rfl⟩ := Kd.R_slice hv; have HE1 := Aside0.mk hv; have HB1 := Aside0.mk hb1; clear hv hb1)
  have hE := HE1.out
  have HQ := Aside0.mk (show findW W p = (entL (p.tdiv 128) (bdy W (p.tdiv 128))).find? (fun x => x.f0 == p) by unfold findW; rw [if_pos h0]; rfl)
  generalize hL : entL (p.tdiv 128) (bdy W (p.tdiv 128)) = L at *
  have HLN := Aside0.mk (show L.length ≤ 1000 by rw [← hL]; unfold entL; rw [List.length_map]; exact Nat.le_trans (all_le _) (Nat.le_trans (HBD.out _) (by decide)))
  clear hL hw
  have hF := Kd.F_mono (ok' := fun q => w.heap.size + 1 ≤ q) (Kd.R_F (Kd.R_bound hE)) (fun q hq => by have h1 := hq.2.1; have h2 := blk_lt HA.out; omega)
  have HFF := Aside0.mk hF
  have HA1 := Aside0.mk ((HB1.out.block _ (blk_lt HA.out)).trans HA.out)
  have HBB := Aside0.mk (Arr.below_trans HB.out HB1.out)
  clear hE hF HE1 HL HB HB1 HA
  go_loopw [18] (fun jv wq => ∃ j : Nat, jv = .int .i64 j ∧ Aside0 (j ≤ L.length) ∧ Aside0 ((L.take j).find? (fun x => x.f0 == p) = none) ∧ Aside0 (Kd.F X4.k44 wq (fun q => w.heap.size + 1 ≤ q) A L.length L) ∧ Aside0 (wq.heap[w.heap.size]? = some (.cells #[.int .i64 0, .int .i64 0, .int .i64 0, .int .i64 0, .int .i64 0, .int .i64 0, .int .i64 0, .string ⟨#[]⟩, .string ⟨#[]⟩, .slice none 0 0, .slice none 0 0] 37 (0, 0))) ∧ Aside0 (Below w.heap.size w wq)) (fun jv _ => L.length - (intOf jv).toNat)
  case atStart => exact ⟨0, rfl, ⟨Nat.zero_le _⟩, ⟨rfl⟩, HFF, HA1, HBB⟩
  case round =>
    clear HFF HA1 HBB
    obtain ⟨j, rfl, J, HN, HFF, HA, HB⟩ := hrel
    by_cases hlt : j < L.length
    · have h1 : (j : Int) < (L.length : Int) := by omega
      have hwj : wrap64 ((j : Int) + 1) = ((j + 1 : Nat) : Int) := by have := HLN.out; unfold wrap64; omega
      have HLT := Aside0.mk hlt
      obtain ⟨ad, cs, rfl, hcl, hFK, hcc, _⟩ := Kd.F_get HFF.out X4.z44 (j : Int) (by omega) h1
      rw [Int.toNat_natCast] at hFK hcc
      have hxd : L.getD j X4.z44 = L[j] := by rw [List.getD_eq_getElem?_getD, List.getElem?_eq_getElem hlt]; rfl
      rw [hxd] at hFK
      generalize hx : L[j] = x at *
      have HTK := Aside0.mk (show (L.take (j + 1)).find? (fun x => x.f0 == p) = (if x.f0 = p then some x else none) by
        rw [List.take_add_one, List.getElem?_eq_getElem hlt, hx, List.find?_append, HN.out]
        by_cases h : x.f0 = p
        · simp [h]
        · simp [h])
      have HTA := Aside0.mk (show x.f0 = p → L.find? (fun x => x.f0 == p) = some x from fun h => by
        have h2 := HTK.out
        rw [if_pos h] at h2
        rw [← List.take_append_drop (j + 1) L, List.find?_append, h2]
        rfl)
      obtain ⟨A10, c10, A11, c11, rfl, l10, g10, l11, g11⟩ := ent_rows hFK
      have HFK := Aside0.mk hFK; have HL10 := Aside0.mk l10; have HL11 := Aside0.mk l11; have HG10 := Aside0.mk g10; have HG11 := Aside0.mk g11
      have q0 : wr.cell? (ad.add (j * 12)) = some (.int .i64 x.f0) := hcc 0 _ rfl
      have q1 : wr.cell? ⟨(ad.add (j * 12)).block, (ad.add (j * 12)).off + 1, none⟩ = some (.int .i64 x.f1.f0) := by rw [← add_field _ _ 1 (by omega)]; exact hcc 1 _ rfl
      have q2 : wr.cell? ⟨(ad.add (j * 12)).block, (ad.add (j * 12)).off + 2, none⟩ = some (.int .i64 x.f1.f1) := by rw [← add_field _ _ 2 (by omega)]; exact hcc 2 _ rfl
      have q3 : wr.cell? ⟨(ad.add (j * 12)).block, (ad.add (j * 12)).off + 3, none⟩ = some (.int .i64 x.f1.f2) := by rw [← add_field _ _ 3 (by omega)]; exact hcc 3 _ rfl
      have q4 : wr.cell? ⟨(ad.add (j * 12)).block, (ad.add (j * 12)).off + 4, none⟩ = some (.int .i64 x.f1.f3) := by rw [← add_field _ _ 4 (by omega)]; exact hcc 4 _ rfl
      have q5 : wr.cell? ⟨(ad.add (j * 12)).block, (ad.add (j * 12)).off + 5, none⟩ = some (.int .i64 x.f1.f4) := by rw [← add_field _ _ 5 (by omega)]; exact hcc 5 _ rfl
      have q6 : wr.cell? ⟨(ad.add (j * 12)).block, (ad.add (j * 12)).off + 6, none⟩ = some (.int .i64 x.f1.f5) := by rw [← add_field _ _ 6 (by omega)]; exact hcc 6 _ rfl
      have q7 : wr.cell? ⟨(ad.add (j * 12)).block, (ad.add (j * 12)).off + 7, none⟩ = some (.int .i64 x.f1.f6) := by rw [← add_field _ _ 7 (by omega)]; exact hcc 7 _ rfl
      have q8 : wr.cell? ⟨(ad.add (j * 12)).block, (ad.add (j * 12)).off + 8, none⟩ = some (.string x.f1.f7) := by rw [← add_field _ _ 8 (by omega)]; exact hcc 8 _ rfl
      have q9 : wr.cell? ⟨(ad.add (j * 12)).block, (ad.add (j * 12)).off + 9, none⟩ = some (.string x.f1.f8) := by rw [← add_field _ _ 9 (by omega)]; exact hcc 9 _ rfl
      have q10 : wr.cell? ⟨(ad.add (j * 12)).block, (ad.add (j * 12)).off + 10, none⟩ = some (.slice A10 x.f1.f9.length c10) := by rw [← add_field _ _ 10 (by omega)]; exact hcc 10 _ rfl
      have q11 : wr.cell? ⟨(ad.add (j * 12)).block, (ad.add (j * 12)).off + 11, none⟩ = some (.slice A11 x.f1.f10.length c11) := by rw [← add_field _ _ 11 (by omega)]; exact hcc 11 _ rfl
      clear hcc hFK l10 g10 l11 g11 hx hcl hxd
      go_upto_region 7 with (fail)
      have hba := (Below.refl wr.heap.size wr).alloc (Nat.le_refl _) (.cells #[.int .i64 x.f0, .int .i64 x.f1.f0, .int .i64 x.f1.f1, .int .i64 x.f1.f2, .int .i64 x.f1.f3, .int .i64 x.f1.f4, .int .i64 x.f1.f5, .int .i64 x.f1.f6, .string x.f1.f7, .string x.f1.f8, .slice A10 x.f1.f9.length c10, .slice A11 x.f1.f10.length c11] 44)
      have HT := Aside0.mk (heap_alloc_new wr (.cells #[.int .i64 x.f0, .int .i64 x.f1.f0, .int .i64 x.f1.f1, .int .i64 x.f1.f2, .int .i64 x.f1.f3, .int .i64 x.f1.f4, .int .i64 x.f1.f5, .int .i64 x.f1.f6, .string x.f1.f7, .string x.f1.f8, .slice A10 x.f1.f9.length c10, .slice A11 x.f1.f10.length c11] 44))
      have HF1 := Aside0.mk (Kd.F_below HFF.out hba); have HG10b := Aside0.mk (Kd.F_below HG10.out hba); have HG11b := Aside0.mk (Kd.F_below HG11.out hba); have HA1 := Aside0.mk ((hba.block _ (blk_lt HA.out)).trans HA.out); have HB1 := Aside0.mk (HB.out.alloc HB.out.size (.cells #[.int .i64 x.f0, .int .i64 x.f1.f0, .int .i64 x.f1.f1, .int .i64 x.f1.f2, .int .i64 x.f1.f3, .int .i64 x.f1.f4, .int .i64 x.f1.f5, .int .i64 x.f1.f6, .string x.f1.f7, .string x.f1.f8, .slice A10 x.f1.f9.length c10, .slice A11 x.f1.f10.length c11] 44))
      clear hba HFF HFK HG10 HG11 HA HB q0 q1 q2 q3 q4 q5 q6 q7 q8 q9 q10 q11
      generalize wr.alloc (.cells #[.int .i64 x.f0, .int .i64 x.f1.f0, .int .i64 x.f1.f1, .int .i64 x.f1.f2, .int .i64 x.f1.f3, .int .i64 x.f1.f4, .int .i64 x.f1.f5, .int .i64 x.f1.f6, .string x.f1.f7, .string x.f1.f8, .slice A10 x.f1.f9.length c10, .slice A11 x.f1.f10.length c11] 44) = w4 at *
      generalize wr.heap.size = bx at *
      obtain ⟨x0, x1, x2, x3, x4, x5, x6, x7, x8, x9, x10, x11⟩ := cells12 w4 bx HT.out
      by_cases hge : x.f0 = p
      · have b1 : (x.f0 == p) = true := beq_iff_eq.2 hge
        have HQ2 := Aside0.mk (show findW W p = some x by rw [HQ.out]; exact HTA.out hge)
        clear hge
        have z0 : w4.cell? ⟨w.heap.size, 0, none⟩ = some (.int .i64 0) := blk_cell HA1.out 0; have y0 : w4.frozen? ⟨w.heap.size, 0, none⟩ = false := blk_frozen HA1.out 0
        have z1 : w4.cell? ⟨w.heap.size, 1, none⟩ = some (.int .i64 0) := blk_cell HA1.out 1; have y1 : w4.frozen? ⟨w.heap.size, 1, none⟩ = false := blk_frozen HA1.out 1
        have z2 : w4.cell? ⟨w.heap.size, 2, none⟩ = some (.int .i64 0) := blk_cell HA1.out 2; have y2 : w4.frozen? ⟨w.heap.size, 2, none⟩ = false := blk_frozen HA1.out 2
        have z3 : w4.cell? ⟨w.heap.size, 3, none⟩ = some (.int .i64 0) := blk_cell HA1.out 3; have y3 : w4.frozen? ⟨w.heap.size, 3, none⟩ = false := blk_frozen HA1.out 3
        have z4 : w4.cell? ⟨w.heap.size, 4, none⟩ = some (.int .i64 0) := blk_cell HA1.out 4; have y4 : w4.frozen? ⟨w.heap.size, 4, none⟩ = false := blk_frozen HA1.out 4
        have z5 : w4.cell? ⟨w.heap.size, 5, none⟩ = some (.int .i64 0) := blk_cell HA1.out 5; have y5 : w4.frozen? ⟨w.heap.size, 5, none⟩ = false := blk_frozen HA1.out 5
        have z6 : w4.cell? ⟨w.heap.size, 6, none⟩ = some (.int .i64 0) := blk_cell HA1.out 6; have y6 : w4.frozen? ⟨w.heap.size, 6, none⟩ = false := blk_frozen HA1.out 6
        have z7 : w4.cell? ⟨w.heap.size, 7, none⟩ = some (.string ⟨#[]⟩) := blk_cell HA1.out 7; have y7 : w4.frozen? ⟨w.heap.size, 7, none⟩ = false := blk_frozen HA1.out 7
        have z8 : w4.cell? ⟨w.heap.size, 8, none⟩ = some (.string ⟨#[]⟩) := blk_cell HA1.out 8; have y8 : w4.frozen? ⟨w.heap.size, 8, none⟩ = false := blk_frozen HA1.out 8
        have z9 : w4.cell? ⟨w.heap.size, 9, none⟩ = some (.slice none 0 0) := blk_cell HA1.out 9; have y9 : w4.frozen? ⟨w.heap.size, 9, none⟩ = false := blk_frozen HA1.out 9
        have z10 : w4.cell? ⟨w.heap.size, 10, none⟩ = some (.slice none 0 0) := blk_cell HA1.out 10; have y10 : w4.frozen? ⟨w.heap.size, 10, none⟩ = false := blk_frozen HA1.out 10
        go_wp2
        refine bodyPost_ret (results_ct rfl _ _ _ _ _ _ _ rfl (set_blk_to (set_blk_to (set_blk_to (set_blk_to (set_blk_to (set_blk_to (set_blk_to (set_blk_to (set_blk_to (set_blk_to (set_blk_to HA1.out 0 (.int .i64 x.f1.f0) #[.int .i64 x.f1.f0, .int .i64 0, .int .i64 0, .int .i64 0, .int .i64 0, .int .i64 0, .int .i64 0, .string ⟨#[]⟩, .string ⟨#[]⟩, .slice none 0 0, .slice none 0 0] rfl) 1 (.int .i64 x.f1.f1) #[.int .i64 x.f1.f0, .int .i64 x.f1.f1, .int .i64 0, .int .i64 0, .int .i64 0, .int .i64 0, .int .i64 0, .string ⟨#[]⟩, .string ⟨#[]⟩, .slice none 0 0, .slice none 0 0] rfl) 2 (.int .i64 x.f1.f2) #[.int .i64 x.f1.f0, .int .i64 x.f1.f1, .int .i64 x.f1.f2, .int .i64 0, .int .i64 0, .int .i64 0, .int .i64 0, .string ⟨#[]⟩, .string ⟨#[]⟩, .slice none 0 0, .slice none 0 0] rfl) 3 (.int .i64 x.f1.f3) #[.int .i64 x.f1.f0, .int .i64 x.f1.f1, .int .i64 x.f1.f2, .int .i64 x.f1.f3, .int .i64 0, .int .i64 0, .int .i64 0, .string ⟨#[]⟩, .string ⟨#[]⟩, .slice none 0 0, .slice none 0 0] rfl) 4 (.int .i64 x.f1.f4) #[.int .i64 x.f1.f0, .int .i64 x.f1.f1, .int .i64 x.f1.f2, .int .i64 x.f1.f3, .int .i64 x.f1.f4, .int .i64 0, .int .i64 0, .string ⟨#[]⟩, .string ⟨#[]⟩, .slice none 0 0, .slice none 0 0] rfl) 5 (.int .i64 x.f1.f5) #[.int .i64 x.f1.f0, .int .i64 x.f1.f1, .int .i64 x.f1.f2, .int .i64 x.f1.f3, .int .i64 x.f1.f4, .int .i64 x.f1.f5, .int .i64 0, .string ⟨#[]⟩, .string ⟨#[]⟩, .slice none 0 0, .slice none 0 0] rfl) 6 (.int .i64 x.f1.f6) #[.int .i64 x.f1.f0, .int .i64 x.f1.f1, .int .i64 x.f1.f2, .int .i64 x.f1.f3, .int .i64 x.f1.f4, .int .i64 x.f1.f5, .int .i64 x.f1.f6, .string ⟨#[]⟩, .string ⟨#[]⟩, .slice none 0 0, .slice none 0 0] rfl) 7 (.string x.f1.f7) #[.int .i64 x.f1.f0, .int .i64 x.f1.f1, .int .i64 x.f1.f2, .int .i64 x.f1.f3, .int .i64 x.f1.f4, .int .i64 x.f1.f5, .int .i64 x.f1.f6, .string x.f1.f7, .string ⟨#[]⟩, .slice none 0 0, .slice none 0 0] rfl) 8 (.string x.f1.f8) #[.int .i64 x.f1.f0, .int .i64 x.f1.f1, .int .i64 x.f1.f2, .int .i64 x.f1.f3, .int .i64 x.f1.f4, .int .i64 x.f1.f5, .int .i64 x.f1.f6, .string x.f1.f7, .string x.f1.f8, .slice none 0 0, .slice none 0 0] rfl) 9 (.slice A10 x.f1.f9.length c10) #[.int .i64 x.f1.f0, .int .i64 x.f1.f1, .int .i64 x.f1.f2, .int .i64 x.f1.f3, .int .i64 x.f1.f4, .int .i64 x.f1.f5, .int .i64 x.f1.f6, .string x.f1.f7, .string x.f1.f8, .slice A10 x.f1.f9.length c10, .slice none 0 0] rfl) 10 (.slice A11 x.f1.f10.length c11) #[.int .i64 x.f1.f0, .int .i64 x.f1.f1, .int .i64 x.f1.f2, .int .i64 x.f1.f3, .int .i64 x.f1.f4, .int .i64 x.f1.f5, .int .i64 x.f1.f6, .string x.f1.f7, .string x.f1.f8, .slice A10 x.f1.f9.length c10, .slice A11 x.f1.f10.length c11] rfl) Try.underlying37 rfl rfl) rfl ⟨⟨_, by unfold errW; rw [HQ2.out]; rfl, ?_⟩, (((((((((((HB1.out.setCell (by simp) _).setCell (by simp) _).setCell (by simp) _).setCell (by simp) _).setCell (by simp) _).setCell (by simp) _).setCell (by simp) _).setCell (by simp) _).setCell (by simp) _).setCell (by simp) _).setCell (by simp) _)⟩
        unfold recW
        rw [HQ2.out]
        exact ⟨_, _, _, _, rfl, HL10.out, (Kd.F_mono (Kd.F_far (Kd.F_far (Kd.F_far (Kd.F_far (Kd.F_far (Kd.F_far (Kd.F_far (Kd.F_far (Kd.F_far (Kd.F_far (Kd.F_far HG10b.out (fun k hk => by show k ≠ w.heap.size; have h9 : w.heap.size + 1 ≤ k := hk; omega) _) (fun k hk => by show k ≠ w.heap.size; have h9 : w.heap.size + 1 ≤ k := hk; omega) _) (fun k hk => by show k ≠ w.heap.size; have h9 : w.heap.size + 1 ≤ k := hk; omega) _) (fun k hk => by show k ≠ w.heap.size; have h9 : w.heap.size + 1 ≤ k := hk; omega) _) (fun k hk => by show k ≠ w.heap.size; have h9 : w.heap.size + 1 ≤ k := hk; omega) _) (fun k hk => by show k ≠ w.heap.size; have h9 : w.heap.size + 1 ≤ k := hk; omega) _) (fun k hk => by show k ≠ w.heap.size; have h9 : w.heap.size + 1 ≤ k := hk; omega) _) (fun k hk => by show k ≠ w.heap.size; have h9 : w.heap.size + 1 ≤ k := hk; omega) _) (fun k hk => by show k ≠ w.heap.size; have h9 : w.heap.size + 1 ≤ k := hk; omega) _) (fun k hk => by show k ≠ w.heap.size; have h9 : w.heap.size + 1 ≤ k := hk; omega) _) (fun k hk => by show k ≠ w.heap.size; have h9 : w.heap.size + 1 ≤ k := hk; omega) _) (fun k hk => by have h9 : w.heap.size + 1 ≤ k := hk; show w.heap.size ≤ k; omega)), HL11.out, (Kd.F_mono (Kd.F_far (Kd.F_far (Kd.F_far (Kd.F_far (Kd.F_far (Kd.F_far (Kd.F_far (Kd.F_far (Kd.F_far (Kd.F_far (Kd.F_far HG11b.out (fun k hk => by show k ≠ w.heap.size; have h9 : w.heap.size + 1 ≤ k := hk; omega) _) (fun k hk => by show k ≠ w.heap.size; have h9 : w.heap.size + 1 ≤ k := hk; omega) _) (fun k hk => by show k ≠ w.heap.size; have h9 : w.heap.size + 1 ≤ k := hk; omega) _) (fun k hk => by show k ≠ w.heap.size; have h9 : w.heap.size + 1 ≤ k := hk; omega) _) (fun k hk => by show k ≠ w.heap.size; have h9 : w.heap.size + 1 ≤ k := hk; omega) _) (fun k hk => by show k ≠ w.heap.size; have h9 : w.heap.size + 1 ≤ k := hk; omega) _) (fun k hk => by show k ≠ w.heap.size; have h9 : w.heap.size + 1 ≤ k := hk; omega) _) (fun k hk => by show k ≠ w.heap.size; have h9 : w.heap.size + 1 ≤ k := hk; omega) _) (fun k hk => by show k ≠ w.heap.size; have h9 : w.heap.size + 1 ≤ k := hk; omega) _) (fun k hk => by show k ≠ w.heap.size; have h9 : w.heap.size + 1 ≤ k := hk; omega) _) (fun k hk => by show k ≠ w.heap.size; have h9 : w.heap.size + 1 ≤ k := hk; omega) _) (fun k hk => by have h9 : w.heap.size + 1 ≤ k := hk; show w.heap.size ≤ k; omega))⟩
      · have b1 : (x.f0 == p) = false := beq_eq_false_iff_ne.2 hge
        have HTK2 := Aside0.mk (show (L.take (j + 1)).find? (fun x => x.f0 == p) = none by rw [HTK.out, if_neg hge])
        go_wp2
        go_roundw
        case rel => exact ⟨j + 1, by first | rfl | (rw [hwj]) | go_num, ⟨by have := HLT.out; omega⟩, HTK2, HF1, HA1, HB1⟩
        case measure =>
          have := HLT.out
          (try rw [hwj])
          simp only [intOf]; omega
    · obtain rfl : j = L.length := by have := J.out; omega
      have HQ2 := Aside0.mk (show findW W p = none by rw [HQ.out]; have := HN.out; rw [List.take_length] at this; exact this)
      have z0 : wr.cell? ⟨w.heap.size, 0, none⟩ = some (.int .i64 0) := blk_cell HA.out 0; have y0 : wr.frozen? ⟨w.heap.size, 0, none⟩ = false := blk_frozen HA.out 0
      have z1 : wr.cell? ⟨w.heap.size, 1, none⟩ = some (.int .i64 0) := blk_cell HA.out 1; have y1 : wr.frozen? ⟨w.heap.size, 1, none⟩ = false := blk_frozen HA.out 1
      have z2 : wr.cell? ⟨w.heap.size, 2, none⟩ = some (.int .i64 0) := blk_cell HA.out 2; have y2 : wr.frozen? ⟨w.heap.size, 2, none⟩ = false := blk_frozen HA.out 2
      have z3 : wr.cell? ⟨w.heap.size, 3, none⟩ = some (.int .i64 0) := blk_cell HA.out 3; have y3 : wr.frozen? ⟨w.heap.size, 3, none⟩ = false := blk_frozen HA.out 3
      have z4 : wr.cell? ⟨w.heap.size, 4, none⟩ = some (.int .i64 0) := blk_cell HA.out 4; have y4 : wr.frozen? ⟨w.heap.size, 4, none⟩ = false := blk_frozen HA.out 4
      have z5 : wr.cell? ⟨w.heap.size, 5, none⟩ = some (.int .i64 0) := blk_cell HA.out 5; have y5 : wr.frozen? ⟨w.heap.size, 5, none⟩ = false := blk_frozen HA.out 5
      have z6 : wr.cell? ⟨w.heap.size, 6, none⟩ = some (.int .i64 0) := blk_cell HA.out 6; have y6 : wr.frozen? ⟨w.heap.size, 6, none⟩ = false := blk_frozen HA.out 6
      have z7 : wr.cell? ⟨w.heap.size, 7, none⟩ = some (.string ⟨#[]⟩) := blk_cell HA.out 7; have y7 : wr.frozen? ⟨w.heap.size, 7, none⟩ = false := blk_frozen HA.out 7
      have z8 : wr.cell? ⟨w.heap.size, 8, none⟩ = some (.string ⟨#[]⟩) := blk_cell HA.out 8; have y8 : wr.frozen? ⟨w.heap.size, 8, none⟩ = false := blk_frozen HA.out 8
      have z9 : wr.cell? ⟨w.heap.size, 9, none⟩ = some (.slice none 0 0) := blk_cell HA.out 9; have y9 : wr.frozen? ⟨w.heap.size, 9, none⟩ = false := blk_frozen HA.out 9
      have z10 : wr.cell? ⟨w.heap.size, 10, none⟩ = some (.slice none 0 0) := blk_cell HA.out 10; have y10 : wr.frozen? ⟨w.heap.size, 10, none⟩ = false := blk_frozen HA.out 10
      go_wp2
      refine bodyPost_ret (results_ct rfl _ _ _ _ _ _ _ rfl (set_blk_to (set_blk_to (set_blk_to (set_blk_to (set_blk_to (set_blk_to (set_blk_to (set_blk_to (set_blk_to (set_blk_to (set_blk_to HA.out 0 (.int .i64 0) #[.int .i64 0, .int .i64 0, .int .i64 0, .int .i64 0, .int .i64 0, .int .i64 0, .int .i64 0, .string ⟨#[]⟩, .string ⟨#[]⟩, .slice none 0 0, .slice none 0 0] rfl) 1 (.int .i64 0) #[.int .i64 0, .int .i64 0, .int .i64 0, .int .i64 0, .int .i64 0, .int .i64 0, .int .i64 0, .string ⟨#[]⟩, .string ⟨#[]⟩, .slice none 0 0, .slice none 0 0] rfl) 2 (.int .i64 0) #[.int .i64 0, .int .i64 0, .int .i64 0, .int .i64 0, .int .i64 0, .int .i64 0, .int .i64 0, .string ⟨#[]⟩, .string ⟨#[]⟩, .slice none 0 0, .slice none 0 0] rfl) 3 (.int .i64 0) #[.int .i64 0, .int .i64 0, .int .i64 0, .int .i64 0, .int .i64 0, .int .i64 0, .int .i64 0, .string ⟨#[]⟩, .string ⟨#[]⟩, .slice none 0 0, .slice none 0 0] rfl) 4 (.int .i64 0) #[.int .i64 0, .int .i64 0, .int .i64 0, .int .i64 0, .int .i64 0, .int .i64 0, .int .i64 0, .string ⟨#[]⟩, .string ⟨#[]⟩, .slice none 0 0, .slice none 0 0] rfl) 5 (.int .i64 0) #[.int .i64 0, .int .i64 0, .int .i64 0, .int .i64 0, .int .i64 0, .int .i64 0, .int .i64 0, .string ⟨#[]⟩, .string ⟨#[]⟩, .slice none 0 0, .slice none 0 0] rfl) 6 (.int .i64 0) #[.int .i64 0, .int .i64 0, .int .i64 0, .int .i64 0, .int .i64 0, .int .i64 0, .int .i64 0, .string ⟨#[]⟩, .string ⟨#[]⟩, .slice none 0 0, .slice none 0 0] rfl) 7 (.string ⟨#[]⟩) #[.int .i64 0, .int .i64 0, .int .i64 0, .int .i64 0, .int .i64 0, .int .i64 0, .int .i64 0, .string ⟨#[]⟩, .string ⟨#[]⟩, .slice none 0 0, .slice none 0 0] rfl) 8 (.string ⟨#[]⟩) #[.int .i64 0, .int .i64 0, .int .i64 0, .int .i64 0, .int .i64 0, .int .i64 0, .int .i64 0, .string ⟨#[]⟩, .string ⟨#[]⟩, .slice none 0 0, .slice none 0 0] rfl) 9 (.slice none 0 0) #[.int .i64 0, .int .i64 0, .int .i64 0, .int .i64 0, .int .i64 0, .int .i64 0, .int .i64 0, .string ⟨#[]⟩, .string ⟨#[]⟩, .slice none 0 0, .slice none 0 0] rfl) 10 (.slice none 0 0) #[.int .i64 0, .int .i64 0, .int .i64 0, .int .i64 0, .int .i64 0, .int .i64 0, .int .i64 0, .string ⟨#[]⟩, .string ⟨#[]⟩, .slice none 0 0, .slice none 0 0] rfl) Try.underlying37 rfl rfl) rfl ⟨⟨_, by unfold errW; rw [HQ2.out]; rfl, ?_⟩, (((((((((((HB.out.setCell (by simp) _).setCell (by simp) _).setCell (by simp) _).setCell (by simp) _).setCell (by simp) _).setCell (by simp) _).setCell (by simp) _).setCell (by simp) _).setCell (by simp) _).setCell (by simp) _).setCell (by simp) _)⟩
      unfold recW
      rw [HQ2.out]
      exact ⟨none, 0, none, 0, rfl, Nat.le_refl _, Kd.F_nil _ _ _, Nat.le_refl _, Kd.F_nil _ _ _⟩
end
end Go.Proofs.Ytbnglmeljbiglaa.Wl
