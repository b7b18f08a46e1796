import Derived.Test.YtcelfhoomhmioaaPEZ0
import Derived.Test.YtcelfhoomhmioaaPEZ1
import Derived.Test.YtcelfhoomhmioaaPEZ2
import Derived.Test.YtcelfhoomhmioaaPEZ3
import Derived.Test.YtcelfhoomhmioaaPEZ4
import Derived.Test.YtcelfhoomhmioaaPEZ5
import Derived.Test.YtcelfhoomhmioaaPEZ6
set_option maxRecDepth 8192
namespace Go.Proofs.Ytcelfhoomhmioaa.St
open Go Go.RowKit Go.ChangeMaps Go.Proofs.Ytcelfhoomhmioaa.Arr Go.Proofs.Ytcelfhoomhmioaa.Mp Go.Proofs.Ytcelfhoomhmioaa.Ow Go.Proofs.Ytcelfhoomhmioaa.Dk Go.Proofs.YtcelfhoomhmioaaW.PrintWords Go.Proofs.YtcelfhoomhmioaaW.PrintLast Go.Proofs.YtcelfhoomhmioaaW.PrintMore
set_option linter.unusedVariables false
set_option linter.unusedSimpArgs false
abbrev TP : TypeId := 35
theorem fs_one (w : World) (p : Addr) (v : Value) : FS (fun k => k = p.block) w (w.setCell p v) := (FS.refl (fun k => k = p.block) w).setCell (.inl rfl) v
theorem fs_mono {S S2 : Nat → Prop} {w w' : World} (h : FS S w w') (hs : ∀ k, S k → S2 k) : FS S2 w w' := h.mono fun k _ e => hs k e
section
variable {w w' : World} {S S1 : Nat → Prop} {gs g : Nat} {base n t : Int} {d d' : DS}
theorem SK.less (h : SK w S gs g base n t d) (hs : ∀ k, k < w.heap.size → S k → S1 k) (h1 : ∀ k, S1 k → S k) : SK w S1 gs g base n t d := ⟨h.blk, fun e => h.off (h1 _ e), h.dk.mono hs⟩
theorem SK.more (h : SK w S1 gs g base n t d) (h1 : ∀ k, S1 k → S k) (ho : ¬ S gs) : SK w S gs g base n t d := ⟨h.blk, ho, h.dk.mono fun k _ e => h1 k e⟩
theorem SK.far (h : SK w S gs g base n t d) {o : Nat} (ho : ¬ S o) (hg : gs ≠ o) (j : Nat) (v : Value) : SK (w.setCell ⟨o, j, none⟩ v) S gs g base n t d :=
  ⟨(Below.heap_setCell w ⟨o, j, none⟩ v gs hg).trans h.blk, h.off, h.dk.kept (fs_one w ⟨o, j, none⟩ v) fun k hk e => ho (by have e2 : k = o := e; exact e2 ▸ hk)⟩
theorem SK.bump (h : SK w S gs g base n t d) (t' : Int) : SK (w.setCell ⟨gs, 3, none⟩ (.int .u32 t')) S gs g base n t' d :=
  ⟨set_blk h.blk 3 (.int .u32 t'), h.off, h.dk.kept (fs_one w ⟨gs, 3, none⟩ _) fun k hk e => h.off (by have e2 : k = gs := e; exact e2 ▸ hk)⟩
end
/-- The journal, and the homes. -/
abbrev byte1 (i : Int) : ByteArray := strOfNums [i % 256]
theorem byte1_size (i : Int) : (byte1 i).size = 1 := strOfNums_size _
def jourS (base t i : Int) (b : ByteArray) : Step := thenS (bothS base 0 t b) (thenS (putS (base + 2) 2 t (byte1 i)) (thenS syS (bothS (base + (3 + 2 * i)) (2 * i) t b)))
/-- What Write does: the error, the next ticket, the disk. -/
def storeW (base n t i a : Int) (dta : ByteArray) (d : DS) : Int × Int × DS :=
  if i < 0 ∨ n ≤ i then (2, t, d) else if (Page.packF a dta).2 ≠ 0 then ((Page.packF a dta).2, t, d)
  else ((jourS base t i (Page.packF a dta).1 d).1, t + 1, (jourS base t i (Page.packF a dta).1 d).2)
theorem pack_sz {a : Int} {dta : ByteArray} (h : (Page.packF a dta).2 = 0) : (Page.packF a dta).1.size = 224 := by
  unfold Page.packF at h ⊢
  split
  · rename_i c
    show (splice _ 4 dta).size = 224
    rw [splice_size, Page.laid_size, noughts_size]
    rw [Page.laid_size, noughts_size]
    omega
  · rename_i c
    rw [if_neg c] at h
    cases h
theorem ok_both {N : Nat} {d : DS} {p index t : Int} {b : ByteArray} (h : OkN N d) (hN : N < 900000) : OkN (N + 2) (bothS p index t b d).2 := by
  unfold bothS
  by_cases e1 : (putS p index t (b.extract 0 112) d).1 = 0
  · rw [then_some e1]
    by_cases e2 : (putS (p + 1) (index + 1) t (b.extract 112 224) (putS p index t (b.extract 0 112) d).2).1 = 0
    · rw [then_some e2]
      exact ok_sync (ok_put (ok_put h (by omega)) (by omega))
    · rw [then_none e2]
      exact ok_put (ok_put h (by omega)) (by omega)
  · rw [then_none e1]
    exact (ok_put h (by omega)).mono (by omega)
set_option maxHeartbeats 8000000 in
set_option maxRecDepth 8192 in
theorem swrite_calls {N : Nat} (d : DS) (g gs : Nat) (base n tk i a : Int) (dta : ByteArray) (S : Nat → Prop) (w : World) (hS : Top S w) (h : SK w S gs g base n tk d) (ho : OkN N d) (hN : N < 800000) (hi : (0 ≤ base ∧ base ≤ 900) ∧ 0 ≤ n ∧ n ≤ 8) (ht : 0 ≤ tk ∧ tk < 4294967295) :
    Calls Try.prog 46 #[.pointer (some ⟨gs, 0, none⟩), .int .i64 i, .agg #[.int .i64 a, .string dta]] w fun x w' => x = .returned (.int .i64 (storeW base n tk i a dta d).1) ∧ SK w' S gs g base n (storeW base n tk i a dta d).2.1 (storeW base n tk i a dta d).2.2 ∧ FS (fun k => S k ∨ k = gs) w w' := by
  have HSO := Aside0.mk h.off
  have hgl := h.lt
  have HG1 := Aside0.mk (show gs ≠ w.heap.size by omega); have HG2 := Aside0.mk (show gs ≠ w.heap.size + 1 by omega)
  have HO := Aside0.mk ho; have HN := Aside0.mk hN; have HI := Aside0.mk hi; have HT := Aside0.mk (show 0 ≤ tk ∧ tk < 4294967296 by omega)
  obtain ⟨S1, hS1⟩ : ∃ S1 : Nat → Prop, S1 = fun k => S k ∧ k ≠ w.heap.size ∧ k ≠ w.heap.size + 1 := ⟨_, rfl⟩
  have hin : ∀ k, S1 k → S k := fun k e => by rw [hS1] at e; exact e.1
  have HIN := Aside0.mk hin
  have hx1 : ¬ S1 w.heap.size := fun e => by rw [hS1] at e; exact e.2.1 rfl
  have hx2 : ¬ S1 (w.heap.size + 1) := fun e => by rw [hS1] at e; exact e.2.2 rfl
  have HX1 := Aside0.mk hx1; have HX2 := Aside0.mk hx2
  have hK1 : SK w S1 gs g base n tk d := h.less (fun k hk e => by rw [hS1]; exact ⟨e, by omega, by omega⟩) hin
  have hwcv : IntKind.u32.wrap (tk + 1) = tk + 1 := by rw [IntKind.wrap_u32]; exact Int.emod_eq_of_lt (by omega) (by omega)
  obtain ⟨W0, hW0, hP, hE, hB, hT1⟩ : ∃ W0, W0 = (w.alloc (.cells #[.int .i64 a, .string dta] TP)).alloc (.cells #[.int .i64 0] TE) ∧ W0.heap[w.heap.size]? = some (.cells #[.int .i64 a, .string dta] TP (0, 0)) ∧ W0.heap[w.heap.size + 1]? = some (.cells #[.int .i64 0] TE (0, 0)) ∧ Below w.heap.size w W0 ∧ Top S1 W0 := by
    refine ⟨_, rfl, ?_, ?_, ?_, ?_⟩
    · exact ((Below.refl _ _).alloc (Nat.le_refl _) _ |>.block w.heap.size (by simp)).trans (heap_alloc_new w _)
    · have h2 := heap_alloc_new (w.alloc (.cells #[.int .i64 a, .string dta] TP)) (.cells #[.int .i64 0] TE)
      rw [show (w.alloc (.cells #[.int .i64 a, .string dta] TP)).heap.size = w.heap.size + 1 by simp] at h2
      exact h2
    · exact ((Below.refl _ _).alloc (Nat.le_refl _) _).alloc (by simp) _
    · intro k hk
      simp at hk
      rw [hS1]
      exact ⟨hS k (by omega), by omega, by omega⟩
  have HK := Aside0.mk (hK1.below hB)
  have HP := Aside0.mk hP; have HE := Aside0.mk hE; have HB := Aside0.mk hB; have HTOP := Aside0.mk hT1
  clear hP hE hB hT1 hK1 hS1 hin hx1 hx2 h ho hN hS
  go_enter_defers Try.func46, Try.ntmps46
  go_upto_region 1 with (fail)
  rw [← hW0]
  clear hW0
  have e0 : W0.cell? ⟨w.heap.size + 1, 0, none⟩ = some (.int .i64 0) := blk_cell HE.out 0
  have f0 := blk_frozen HE.out 0
  have c2 := HK.out.c2
  have p0 : W0.cell? ⟨w.heap.size, 0, none⟩ = some (.int .i64 a) := blk_cell HP.out 0
  have p1 : W0.cell? ⟨w.heap.size, 1, none⟩ = some (.string dta) := blk_cell HP.out 1
  by_cases i0 : i < 0
  · have q0 : decide (i < 0) = true := decide_eq_true i0
    have q0n : (i < 0) = True := by rw [eq_iff_iff, iff_true]; exact i0
    have HR := Aside0.mk (show storeW base n tk i a dta d = (2, tk, d) by unfold storeW; rw [if_pos (by omega)])
    clear hi ht
    go_wp2
    have hc1 : _ = some (Value.int .i64 2) := blk_cell (set_blk HE.out 0 (.int .i64 2)) 0
    refine ⟨.int .i64 2, ?_, ?_⟩
    · simp [results, Try.results46, go_sem, hc1]
    rw [HR.out]
    exact ⟨rfl, (HK.out.far HX2.out HG2.out 0 _).more HIN.out HSO.out, ((FS.refl _ w).below HB.out).setCell (p := ⟨w.heap.size + 1, 0, none⟩) (.inr (by simp)) _⟩
  have q0 : decide (i < 0) = false := decide_eq_false i0
  have q0n : (i < 0) = False := by rw [eq_iff_iff, iff_false]; exact i0
  by_cases i1 : n ≤ i
  · have q1 : decide (n ≤ i) = true := decide_eq_true i1
    have q1n : (n ≤ i) = True := by rw [eq_iff_iff, iff_true]; exact i1
    have HR := Aside0.mk (show storeW base n tk i a dta d = (2, tk, d) by unfold storeW; rw [if_pos (by omega)])
    clear hi ht
    go_wp2
    have hc1 : _ = some (Value.int .i64 2) := blk_cell (set_blk HE.out 0 (.int .i64 2)) 0
    refine ⟨.int .i64 2, ?_, ?_⟩
    · simp [results, Try.results46, go_sem, hc1]
    rw [HR.out]
    exact ⟨rfl, (HK.out.far HX2.out HG2.out 0 _).more HIN.out HSO.out, ((FS.refl _ w).below HB.out).setCell (p := ⟨w.heap.size + 1, 0, none⟩) (.inr (by simp)) _⟩
  have q1 : decide (n ≤ i) = false := decide_eq_false i1
  have q1n : (n ≤ i) = False := by rw [eq_iff_iff, iff_false]; exact i1
  have HI2 := Aside0.mk (show 0 ≤ i ∧ i < n by omega)
  clear i0 i1 hi ht
  by_cases pe : (Page.packF a dta).2 = 0
  rotate_left
  · have HR := Aside0.mk (show storeW base n tk i a dta d = ((Page.packF a dta).2, tk, d) by unfold storeW; rw [if_neg (by have := HI2.out; omega), if_pos pe])
    have pn : ((Page.packF a dta).2 == 0) = false := by simpa using pe
    have pm : ((Page.packF a dta).2 != 0) = true := by simpa using pe
    clear pe
    go_wp2_with (go_at_call 59; (with_reducible refine (Page.pack_calls a dta _).mono ?_); rintro e w1 ⟨rfl, hb1⟩; have HK1 := Aside0.mk (HK.out.below hb1); have HB1 := Aside0.mk (Arr.below_trans HB.out hb1); have HE1 := Aside0.mk ((hb1.block _ (blk_lt HE.out)).trans HE.out); clear hb1 e0 f0; have e0 : w1.cell? ⟨w.heap.size + 1, 0, none⟩ = some (.int .i64 0) := blk_cell HE1.out 0; have f0 := blk_frozen HE1.out 0)
    have hc1 : _ = some (Value.int .i64 (Page.packF a dta).2) := blk_cell (set_blk (set_blk HE1.out 0 (.int .i64 (Page.packF a dta).2)) 0 (.int .i64 (Page.packF a dta).2)) 0
    refine ⟨.int .i64 (Page.packF a dta).2, ?_, ?_⟩
    · simp [results, Try.results46, go_sem, hc1]
    rw [HR.out]
    exact ⟨rfl, ((HK1.out.far HX2.out HG2.out 0 _).far HX2.out HG2.out 0 _).more HIN.out HSO.out, (((FS.refl _ w).below HB1.out).setCell (p := ⟨w.heap.size + 1, 0, none⟩) (.inr (by simp)) _).setCell (p := ⟨w.heap.size + 1, 0, none⟩) (.inr (by simp)) _⟩
  have HR := Aside0.mk (show storeW base n tk i a dta d = ((jourS base tk i (Page.packF a dta).1 d).1, tk + 1, (jourS base tk i (Page.packF a dta).1 d).2) by unfold storeW; rw [if_neg (by have := HI2.out; omega), if_neg (by simp [pe])])
  have HBZ := Aside0.mk (pack_sz pe)
  have HPE := Aside0.mk pe
  clear pe
  go_upto_region 8 with (go_at_call 59; (with_reducible refine (Page.pack_calls a dta _).mono ?_); rintro e w1 ⟨rfl, hb1⟩; rw [HPE.out]; have HK1 := Aside0.mk (HK.out.below hb1); have HB1 := Aside0.mk (Arr.below_trans HB.out hb1); have HE1 := Aside0.mk ((hb1.block _ (blk_lt HE.out)).trans HE.out); have HTOP1 := Aside0.mk (HTOP.out.next hb1.size); clear hb1 e0 f0; have e0 : w1.cell? ⟨w.heap.size + 1, 0, none⟩ = some (.int .i64 0) := blk_cell HE1.out 0; have f0 := blk_frozen HE1.out 0)
  clear HK HB HE HP HTOP e0 f0 c2 p0 p1 q0 q0n q1 q1n HPE
  have HK2 := Aside0.mk (HK1.out.far HX2.out HG2.out 0 (.int .i64 0))
  have HE2 := Aside0.mk (show (w1.setCell ⟨w.heap.size + 1, 0, none⟩ (.int .i64 0)).heap[w.heap.size + 1]? = some (.cells #[.int .i64 0] TE (0, 0)) from set_blk HE1.out 0 (.int .i64 0))
  have F2 := Aside0.mk (((FS.refl (fun k => S k ∨ k = gs) w).below HB1.out).setCell (p := ⟨w.heap.size + 1, 0, none⟩) (.inr (by simp)) (.int .i64 0))
  have HTOP2 := Aside0.mk (show Top S1 (w1.setCell ⟨w.heap.size + 1, 0, none⟩ (.int .i64 0)) from HTOP1.out.next (by simp))
  clear HK1 HE1 HB1 HTOP1
  generalize w1.setCell ⟨w.heap.size + 1, 0, none⟩ (.int .i64 0) = W2 at *
  generalize hb : (Page.packF a dta).1 = b at *
  clear hb
  have c3 := HK2.out.c3
  have f3 := blk_frozen HK2.out.blk 3
  go_upto_region 11 with (fail)
  clear c3 f3
  have HK3 := Aside0.mk (HK2.out.bump (tk + 1))
  have HE3 := Aside0.mk ((Below.heap_setCell W2 ⟨gs, 3, none⟩ (.int .u32 (tk + 1)) (w.heap.size + 1) (show w.heap.size + 1 ≠ gs from HG2.out.symm)).trans HE2.out)
  have F3 := Aside0.mk (F2.out.setCell (p := ⟨gs, 3, none⟩) (.inl (.inr rfl)) (.int .u32 (tk + 1)))
  have HTOP3 := Aside0.mk (show Top S1 (W2.setCell ⟨gs, 3, none⟩ (.int .u32 (tk + 1))) from HTOP2.out.next (by simp))
  clear HK2 HE2 F2 HTOP2
  generalize W2.setCell ⟨gs, 3, none⟩ (.int .u32 (tk + 1)) = W3 at *
  have HUP := Aside0.mk (show ∀ k, S1 k → S k ∨ k = gs from fun k e => .inl (HIN.out k e))
  have hB1 := both_calls d g gs base n (tk + 1) 0 0 tk b S1 W3 HTOP3.out HK3.out HO.out (by have := HI.out; omega) (by omega) HT.out (by have := HN.out; omega) HBZ.out
  rw [Int.add_zero] at hB1
  have HB1 := Aside0.mk hB1
  clear hB1
  have HJ := Aside0.mk (show jourS base tk i b = thenS (bothS base 0 tk b) (thenS (putS (base + 2) 2 tk (byte1 i)) (thenS syS (bothS (base + (3 + 2 * i)) (2 * i) tk b))) from rfl)
  by_cases e1 : (bothS base 0 tk b d).1 = 0
  rotate_left
  · have EN := Aside0.mk (show endS (bothS base 0 tk b d).1 = gaveUp (bothS base 0 tk b d).1 from if_neg e1)
    have HV := Aside0.mk (show jourS base tk i b d = (bothS base 0 tk b d) by rw [HJ.out]; exact then_none e1)
    clear e1
    go_wp2_with (go_at_call 61; (with_reducible refine HB1.out.mono ?_); rintro e w8 ⟨hx, hk, hf⟩; rw [EN.out] at hx; subst hx)
    have K9 := Aside0.mk hk; have E9 := Aside0.mk (hf.old HE3.out HX2.out); have F9 := Aside0.mk (F3.out.trans (fs_mono hf HUP.out)); clear hk hf
    refine leaves_cons (f := 60) (args := #[.pointer (some ⟨w.heap.size + 1, 0, none⟩)]) (by simp) (by simp [go_sem]) ?_
    refine (caught_up ⟨w.heap.size + 1, 0, none⟩ 0 (bothS base 0 tk b d).1 [] _ (blk_cell E9.out 0) (blk_frozen E9.out 0)).mono ?_
    rintro e u' w'' ⟨rfl, rfl, rfl⟩
    have hc1 : _ = some (Value.int .i64 (bothS base 0 tk b d).1) := blk_cell (set_blk E9.out 0 (.int .i64 (bothS base 0 tk b d).1)) 0
    refine ⟨.int .i64 (bothS base 0 tk b d).1, ?_, ?_⟩
    · simp [results, Try.results46, go_sem, hc1]
    rw [HR.out, HV.out]
    exact ⟨rfl, (K9.out.far HX2.out HG2.out 0 _).more HIN.out HSO.out, F9.out.setCell (p := ⟨w.heap.size + 1, 0, none⟩) (.inr (by simp)) _⟩
  have EN := Aside0.mk (show endS (bothS base 0 tk b d).1 = .returned (.tuple #[]) from if_pos e1)
  have HO1 := Aside0.mk (ok_both (N := N) (p := base) (index := 0) (t := tk) (b := b) HO.out (by have := HN.out; omega))
  have HJ1 := Aside0.mk (show jourS base tk i b d = thenS (putS (base + 2) 2 tk (byte1 i)) (thenS syS (bothS (base + (3 + 2 * i)) (2 * i) tk b)) (bothS base 0 tk b d).2 by rw [HJ.out]; exact then_some e1)
  clear e1 HJ
  generalize hd1 : (bothS base 0 tk b d).2 = d1 at *
  have HD1 := Aside0.mk hd1
  clear hd1
  go_upto_region 12 with (go_at_call 61; (with_reducible refine HB1.out.mono ?_); rintro e w4 ⟨hx, hk, hf⟩; rw [EN.out] at hx; subst hx; have HK4 := Aside0.mk hk; have HE4 := Aside0.mk (hf.old HE3.out HX2.out); have F4 := Aside0.mk (F3.out.trans (fs_mono hf HUP.out)); have HTOP4 := Aside0.mk (HTOP3.out.next hf.size); clear hk hf)
  clear HB1 EN HK3 HE3 F3 HTOP3 HD1
  have HPC := Aside0.mk (fun (W : World) (h1 : Top S1 W) (h2 : SK W S1 gs g base n (tk + 1) d1) => put_calls d1 g gs base n (tk + 1) 2 2 tk (byte1 i) S1 W h1 h2 HO1.out (by have := HI.out; omega) (by omega) HT.out (by rw [byte1_size]; omega))
  by_cases e2 : (putS (base + 2) 2 tk (byte1 i) d1).1 = 0
  rotate_left
  · have EN := Aside0.mk (show endS (putS (base + 2) 2 tk (byte1 i) d1).1 = gaveUp (putS (base + 2) 2 tk (byte1 i) d1).1 from if_neg e2)
    have HV := Aside0.mk (show jourS base tk i b d = (putS (base + 2) 2 tk (byte1 i) d1) by rw [HJ1.out]; exact then_none e2)
    clear e2
    go_wp2_with (first | ((with_reducible refine gate_dst (N := 50) rfl ?_); refine Kd.R_lit (Kd.int .u8) _ 5 ?hg (N := 50) ?hd (xs := ([i % 256] : List Int)) (inner := [.int .u8 (i % 256)]) (ok := fun _ => True) (okp := fun _ => True) ?hr ?hp (fun _ hk => hk) trivial (Below.refl _ _) (Nat.le_refl _) (by simp) ?_; (case hd => rfl); (case hg => rfl); (case hr => first | (go_simp; done) | (go_simp; rfl)); (case hp => exact (Reps.one (show Kd.M (Kd.int .u8) _ _ _ (i % 256) [.int .u8 (i % 256)] from rfl) (Reps.none _ _))); intro v5 w5 ho5 hb5 hg5_ hn5_; clear hg5_ hn5_; have hcv5 := own_string (P := Try.prog) Try.underlying92 Try.underlying5 Try.underlying9 (Kd.own_of_R ho5); have HK5 := Aside0.mk (HK4.out.below hb5); have HE5 := Aside0.mk ((hb5.block _ (blk_lt HE4.out)).trans HE4.out); have F5 := Aside0.mk (F4.out.below hb5); have HTOP5 := Aside0.mk (HTOP4.out.next hb5.size); clear hb5 ho5) | (go_at_call 62; (with_reducible refine (HPC.out _ HTOP5.out HK5.out).mono ?_); rintro e w8 ⟨hx, hk, hf⟩; rw [EN.out] at hx; subst hx))
    have K9 := Aside0.mk hk; have E9 := Aside0.mk (hf.old HE5.out HX2.out); have F9 := Aside0.mk (F5.out.trans (fs_mono hf HUP.out)); clear hk hf
    refine leaves_cons (f := 60) (args := #[.pointer (some ⟨w.heap.size + 1, 0, none⟩)]) (by simp) (by simp [go_sem]) ?_
    refine (caught_up ⟨w.heap.size + 1, 0, none⟩ 0 (putS (base + 2) 2 tk (byte1 i) d1).1 [] _ (blk_cell E9.out 0) (blk_frozen E9.out 0)).mono ?_
    rintro e u' w'' ⟨rfl, rfl, rfl⟩
    have hc1 : _ = some (Value.int .i64 (putS (base + 2) 2 tk (byte1 i) d1).1) := blk_cell (set_blk E9.out 0 (.int .i64 (putS (base + 2) 2 tk (byte1 i) d1).1)) 0
    refine ⟨.int .i64 (putS (base + 2) 2 tk (byte1 i) d1).1, ?_, ?_⟩
    · simp [results, Try.results46, go_sem, hc1]
    rw [HR.out, HV.out]
    exact ⟨rfl, (K9.out.far HX2.out HG2.out 0 _).more HIN.out HSO.out, F9.out.setCell (p := ⟨w.heap.size + 1, 0, none⟩) (.inr (by simp)) _⟩
  have EN := Aside0.mk (show endS (putS (base + 2) 2 tk (byte1 i) d1).1 = .returned (.tuple #[]) from if_pos e2)
  have HO2 := Aside0.mk (ok_put (p := base + 2) (index := 2) (t := tk) (b := byte1 i) HO1.out (by have := HN.out; omega))
  have HJ2 := Aside0.mk (show jourS base tk i b d = thenS syS (bothS (base + (3 + 2 * i)) (2 * i) tk b) (putS (base + 2) 2 tk (byte1 i) d1).2 by rw [HJ1.out]; exact then_some e2)
  clear e2 HJ1
  generalize (putS (base + 2) 2 tk (byte1 i) d1).2 = d2 at *
  go_upto_region 13 with (first | ((with_reducible refine gate_dst (N := 50) rfl ?_); refine Kd.R_lit (Kd.int .u8) _ 5 ?hg (N := 50) ?hd (xs := ([i % 256] : List Int)) (inner := [.int .u8 (i % 256)]) (ok := fun _ => True) (okp := fun _ => True) ?hr ?hp (fun _ hk => hk) trivial (Below.refl _ _) (Nat.le_refl _) (by simp) ?_; (case hd => rfl); (case hg => rfl); (case hr => first | (go_simp; done) | (go_simp; rfl)); (case hp => exact (Reps.one (show Kd.M (Kd.int .u8) _ _ _ (i % 256) [.int .u8 (i % 256)] from rfl) (Reps.none _ _))); intro v5 w5 ho5 hb5 hg5_ hn5_; clear hg5_ hn5_; have hcv5 := own_string (P := Try.prog) Try.underlying92 Try.underlying5 Try.underlying9 (Kd.own_of_R ho5); have HK5 := Aside0.mk (HK4.out.below hb5); have HE5 := Aside0.mk ((hb5.block _ (blk_lt HE4.out)).trans HE4.out); have F5 := Aside0.mk (F4.out.below hb5); have HTOP5 := Aside0.mk (HTOP4.out.next hb5.size); clear hb5 ho5) | (go_at_call 62; (with_reducible refine (HPC.out _ HTOP5.out HK5.out).mono ?_); rintro e w6 ⟨hx, hk, hf⟩; rw [EN.out] at hx; subst hx; have HK6 := Aside0.mk hk; have HE6 := Aside0.mk (hf.old HE5.out HX2.out); have F6 := Aside0.mk (F5.out.trans (fs_mono hf HUP.out)); have HTOP6 := Aside0.mk (HTOP5.out.next hf.size); clear hk hf))
  clear HPC EN HK4 HE4 F4 HTOP4 HK5 HE5 F5 HTOP5 hcv5
  have c0 := HK6.out.c0
  by_cases e3 : syncE d2 = 0
  rotate_left
  · have E3 := Aside0.mk e3
    have HV := Aside0.mk (show jourS base tk i b d = (syncE d2, syncD d2) by rw [HJ2.out]; exact then_none e3)
    clear e3
    go_wp2_with (first | (go_at_call 58; (with_reducible refine (sync_calls d2 g S1 _ HTOP6.out HK6.out.dk HO2.out.ok).mono ?_); rintro e w7 ⟨rfl, hk7, hf⟩; have hk := HK6.out.step hf hk7; clear hk7) | (go_at_call 63; (with_reducible refine (must_no _ E3.out _).mono ?_); rintro e w8 ⟨rfl, rfl⟩))
    have K9 := Aside0.mk hk; have E9 := Aside0.mk (hf.old HE6.out HX2.out); have F9 := Aside0.mk (F6.out.trans (fs_mono hf HUP.out)); clear hk hf
    refine leaves_cons (f := 60) (args := #[.pointer (some ⟨w.heap.size + 1, 0, none⟩)]) (by simp) (by simp [go_sem]) ?_
    refine (caught_up ⟨w.heap.size + 1, 0, none⟩ 0 (syncE d2) [] _ (blk_cell E9.out 0) (blk_frozen E9.out 0)).mono ?_
    rintro e u' w'' ⟨rfl, rfl, rfl⟩
    have hc1 : _ = some (Value.int .i64 (syncE d2)) := blk_cell (set_blk E9.out 0 (.int .i64 (syncE d2))) 0
    refine ⟨.int .i64 (syncE d2), ?_, ?_⟩
    · simp [results, Try.results46, go_sem, hc1]
    rw [HR.out, HV.out]
    exact ⟨rfl, (K9.out.far HX2.out HG2.out 0 _).more HIN.out HSO.out, F9.out.setCell (p := ⟨w.heap.size + 1, 0, none⟩) (.inr (by simp)) _⟩
  have E3 := Aside0.mk e3
  have HO3 := Aside0.mk (ok_sync HO2.out)
  have HJ3 := Aside0.mk (show jourS base tk i b d = bothS (base + (3 + 2 * i)) (2 * i) tk b (syncD d2) by rw [HJ2.out]; exact then_some e3)
  clear e3 HJ2
  go_upto_region 14 with (first | (go_at_call 58; (with_reducible refine (sync_calls d2 g S1 _ HTOP6.out HK6.out.dk HO2.out.ok).mono ?_); rintro e w7 ⟨rfl, hk7, hf⟩; rw [E3.out]; have HK7 := Aside0.mk (HK6.out.step hf hk7); have HE7 := Aside0.mk (hf.old HE6.out HX2.out); have F7 := Aside0.mk (F6.out.trans (fs_mono hf HUP.out)); have HTOP7 := Aside0.mk (HTOP6.out.next hf.size); clear hk7 hf) | (go_at_call 63; (with_reducible refine (must_yes _).mono ?_); rintro e w8 ⟨rfl, rfl⟩))
  clear HK6 HE6 F6 HTOP6 c0 E3
  generalize syncD d2 = d3 at *
  have u1 : wrap64 (2 * i) = 2 * i := by have := HI.out; have := HI2.out; unfold wrap64; omega
  have u2 : wrap64 (3 + 2 * i) = 3 + 2 * i := by have := HI.out; have := HI2.out; unfold wrap64; omega
  have HBC := Aside0.mk (fun (W : World) (h1 : Top S1 W) (h2 : SK W S1 gs g base n (tk + 1) d3) => both_calls d3 g gs base n (tk + 1) (3 + 2 * i) (2 * i) tk b S1 W h1 h2 HO3.out (by have := HI.out; have := HI2.out; omega) (by have := HI.out; have := HI2.out; omega) HT.out (by have := HN.out; omega) HBZ.out)
  by_cases e4 : (bothS (base + (3 + 2 * i)) (2 * i) tk b d3).1 = 0
  rotate_left
  · have EN := Aside0.mk (show endS (bothS (base + (3 + 2 * i)) (2 * i) tk b d3).1 = gaveUp (bothS (base + (3 + 2 * i)) (2 * i) tk b d3).1 from if_neg e4)
    have HV := HJ3
    clear e4
    go_wp2_with (go_at_call 61; (with_reducible refine (HBC.out _ HTOP7.out HK7.out).mono ?_); rintro e w8 ⟨hx, hk, hf⟩; rw [EN.out] at hx; subst hx)
    have K9 := Aside0.mk hk; have E9 := Aside0.mk (hf.old HE7.out HX2.out); have F9 := Aside0.mk (F7.out.trans (fs_mono hf HUP.out)); clear hk hf
    refine leaves_cons (f := 60) (args := #[.pointer (some ⟨w.heap.size + 1, 0, none⟩)]) (by simp) (by simp [go_sem]) ?_
    refine (caught_up ⟨w.heap.size + 1, 0, none⟩ 0 (bothS (base + (3 + 2 * i)) (2 * i) tk b d3).1 [] _ (blk_cell E9.out 0) (blk_frozen E9.out 0)).mono ?_
    rintro e u' w'' ⟨rfl, rfl, rfl⟩
    have hc1 : _ = some (Value.int .i64 (bothS (base + (3 + 2 * i)) (2 * i) tk b d3).1) := blk_cell (set_blk E9.out 0 (.int .i64 (bothS (base + (3 + 2 * i)) (2 * i) tk b d3).1)) 0
    refine ⟨.int .i64 (bothS (base + (3 + 2 * i)) (2 * i) tk b d3).1, ?_, ?_⟩
    · simp [results, Try.results46, go_sem, hc1]
    rw [HR.out, HV.out]
    exact ⟨rfl, (K9.out.far HX2.out HG2.out 0 _).more HIN.out HSO.out, F9.out.setCell (p := ⟨w.heap.size + 1, 0, none⟩) (.inr (by simp)) _⟩
  have EN := Aside0.mk (show endS (bothS (base + (3 + 2 * i)) (2 * i) tk b d3).1 = .returned (.tuple #[]) from if_pos e4)
  have E4 := Aside0.mk e4
  clear e4
  go_upto_region 15 with (go_at_call 61; (with_reducible refine (HBC.out _ HTOP7.out HK7.out).mono ?_); rintro e w8 ⟨hx, hk, hf⟩; rw [EN.out] at hx; subst hx; have HK8 := Aside0.mk hk; have HE8 := Aside0.mk (hf.old HE7.out HX2.out); have F8 := Aside0.mk (F7.out.trans (fs_mono hf HUP.out)); clear hk hf)
  have e0 : w8.cell? ⟨w.heap.size + 1, 0, none⟩ = some (.int .i64 0) := blk_cell HE8.out 0
  have f0 := blk_frozen HE8.out 0
  go_wp2
  refine leaves_cons (f := 60) (args := #[.pointer (some ⟨w.heap.size + 1, 0, none⟩)]) (by simp) (by simp [go_sem]) ?_
  refine (caught_idle ⟨w.heap.size + 1, 0, none⟩ _).mono ?_
  rintro e u' w'' ⟨rfl, rfl, rfl⟩
  have hc1 : _ = some (Value.int .i64 0) := blk_cell (set_blk HE8.out 0 (.int .i64 0)) 0
  refine ⟨.int .i64 0, ?_, ?_⟩
  · simp [results, Try.results46, go_sem, hc1]
  rw [HR.out, HJ3.out, E4.out]
  exact ⟨rfl, (HK8.out.far HX2.out HG2.out 0 _).more HIN.out HSO.out, F8.out.setCell (p := ⟨w.heap.size + 1, 0, none⟩) (.inr (by simp)) _⟩
end Go.Proofs.Ytcelfhoomhmioaa.St
