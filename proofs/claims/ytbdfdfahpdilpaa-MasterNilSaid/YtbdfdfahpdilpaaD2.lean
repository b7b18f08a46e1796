import Derived.Test.YtbdfdfahpdilpaaD1
/-! Layer 3: Write. -/
namespace Go.Proofs.Ytbdfdfahpdilpaa.Dk
open Go Go.RowKit Go.ChangeMaps Go.Proofs.Ytbdfdfahpdilpaa.Arr Go.Proofs.Ytbdfdfahpdilpaa.Mp Go.Proofs.Ytbdfdfahpdilpaa.Ow Go.Proofs.YtbdfdfahpdilpaaW.PrintWords Go.Proofs.YtbdfdfahpdilpaaW.PrintLast Go.Proofs.YtbdfdfahpdilpaaW.PrintMore
set_option linter.unusedVariables false
set_option linter.unusedSimpArgs false
theorem infoW : (Try.prog.info? TW).map (fun i => (i.zero, i.size, i.bytes)) = some (some (.agg #[.int .i64 0, .string ⟨#[]⟩]), 2, 24) := by kernel_rfl
theorem append_row {w : World} {S : Nat → Prop} {rv : Value} (row : List (Int × ByteArray)) (i : Int) (s : ByteArray) (h : Ow w S TW 2 rv row.length (wc row)) {g0 : Nat} (hg : w.heap[g0]? = some (.cells #[.int .i64 i, .string s] TW (0, 0))) (hl : row.length ≤ 1000000) (ty : TypeId) :
    ∃ v' w', (Builtin.append_ #[79, 79] ty #[rv, .slice (some ⟨g0, 0, none⟩) 1 1]).run Try.prog w = .ok v' w' ∧ Ow w' (fun k => S k ∨ k = w.heap.size) TW 2 v' (row ++ [(i, s)]).length (wc (row ++ [(i, s)])) ∧ w.grownBy w' rv.ownBlock ∧ (v'.ownBlock = rv.ownBlock ∨ v'.ownBlock = some w.heap.size) ∧ ∃ g' c', v' = .slice (some ⟨g', 0, none⟩) (row.length + 1) c' := by
  obtain ⟨i0, hi, h2⟩ := Option.map_eq_some_iff.1 infoW
  have hz : i0.zero = some (.agg #[.int .i64 0, .string ⟨#[]⟩]) := congrArg Prod.fst h2
  have hs : i0.size = 2 := congrArg (fun p => p.2.1) h2
  have hb : i0.bytes = 24 := congrArg (fun p => p.2.2) h2
  have r := run_append_ow (P := Try.prog) (ty := ty) 79 TW i0 _ 2 24 (by kernel_rfl) hi hz hs hb rfl (by decide) rv row.length _ h ⟨g0, 0, none⟩ 1 1 [.int .i64 i, .string s] rfl (fun j u hj => ?_) (fun u hu => ?_) (by simp only [maxLen]; omega) (by omega) (by decide)
  · rw [wc_push, List.length_append]
    exact r
  · match j with
    | 0 => exact (blk_cell hg 0).trans (by simpa using hj)
    | 1 => exact (blk_cell hg 1).trans (by simpa using hj)
    | j + 2 => simp at hj
  · rcases List.mem_cons.1 hu with rfl | hu
    · rfl
    · rcases List.mem_cons.1 hu with rfl | hu
      · rfl
      · cases hu
theorem grown_blk {w w' : World} {row : Option Nat} (h : w.grownBy w' row) {g : Nat} {o : Obj} (hg : w.heap[g]? = some o) (hn : row ≠ some g) : w'.heap[g]? = some o := by
  have hl : g < w.heap.size := by
    rcases Nat.lt_or_ge g w.heap.size with h1 | h1
    · exact h1
    · simp [Array.getElem?_eq_none h1] at hg
  exact (h.block g hl (fun e => hn e.symm)).trans hg
theorem DV.grown {w w' : World} {S : Nat → Prop} {g : Nat} {d : DS} {f : Int → Option ByteArray} {sv rv rv' : Value} {m : Nat} {row' : List (Int × ByteArray)} (h : DV w S g d f sv rv m) (hg : w.grownBy w' rv.ownBlock) (hr : Ow w' S TW 2 rv' row'.length (wc row')) :
    w'.heap[g]? = some (.cells #[sv, rv, .map (some m), .bool d.gone, .int .i64 d.fuse] TD (0, 0)) ∧ DV (w'.setCell ⟨g, 1, none⟩ rv') S g { d with row := row' } f sv rv' m := by
  have hb := grown_blk hg h.blk (fun e => ow_ne h.row h.blk (by decide) g e rfl)
  refine ⟨hb, ?_⟩
  have hs : Ow w' S TS 1 sv d.safe.length (d.safe.map .string) := h.safe.same fun k hk => hg.block k (h.safe.own.lt k hk).2 (fun e => ow_ne2 h.safe h.row (by decide) k hk e.symm)
  have hm : MP w' m f := h.map.same (hg.block m h.map.lt (fun e => ow_nem h.row h.map m e.symm rfl))
  have hb2 : (w'.setCell ⟨g, 1, none⟩ rv').heap[g]? = some (.cells #[sv, rv', .map (some m), .bool d.gone, .int .i64 d.fuse] TD (0, 0)) := by
    simp only [World.setCell]
    rw [Array.getElem?_modify, if_pos rfl, hb]
    rfl
  exact ⟨hb2, hs.same fun k hk => Below.heap_setCell w' ⟨g, 1, none⟩ rv' k (ow_ne hs hb (by decide) k hk), hr.same fun k hk => Below.heap_setCell w' ⟨g, 1, none⟩ rv' k (ow_ne hr hb (by decide) k hk), hm.same (Below.heap_setCell w' ⟨g, 1, none⟩ rv' m (MP.ne_cells hm hb)), h.sg, h.sm⟩
set_option maxHeartbeats 4000000 in
theorem write_calls (d : DS) (g : Nat) (i : Int) (s : ByteArray) (S : Nat → Prop) (w : World) (hS : Top S w) (h : DK w S g d) (ho : OkD d) : Calls Try.prog 16 #[.pointer (some ⟨g, 0, none⟩), .int .i64 i, .string s] w fun e w' => e = .returned (.int .i64 (writeE d i s)) ∧ DK w' S g (writeD d i s) ∧ FS S w w' := by
  obtain ⟨sv, rv, m, hv⟩ := h
  have HV := Aside0.mk hv; have HO := Aside0.mk ho; have HS := Aside0.mk hS; clear hv ho hS
  obtain ⟨⟨c0, c1, c2, c3, c4⟩, fr_⟩ := HV.out.cells; have f0 := fr_ 0; have f1 := fr_ 1; have f2 := fr_ 2; have f3 := fr_ 3; have f4 := fr_ 4; clear fr_
  cases hT : thereD d i with
  | false =>
    have e1 : writeE d i s = 2 := by simp [writeE, hT]
    have e2 : writeD d i s = d := by simp [writeD, hT]
    rw [e1, e2]
    clear e1 e2
    go_enter Try.func16, Try.ntmps16
    go_wp2_with (go_at_call 40; with_reducible refine (there_calls d g i S _ HV.out.dk HO.out).mono ?_; rintro e w1 ⟨rfl, hb1⟩; have v_ := HV.out.below hb1; have F_ := (FS.refl S w).below hb1; clear HV hb1; have HV := Aside0.mk v_; have F := Aside0.mk F_; clear v_ F_ c0 c1 c2 c3 c4 f0 f1 f2 f3 f4; obtain ⟨⟨c0, c1, c2, c3, c4⟩, fr_⟩ := HV.out.cells; have f0 := fr_ 0; have f1 := fr_ 1; have f2 := fr_ 2; have f3 := fr_ 3; have f4 := fr_ 4; clear fr_)
    go_ret
    exact ⟨rfl, ⟨sv, rv, m, HV.out⟩, F.out⟩
  | true =>
    by_cases h128 : s.size = 128
    · have t2 : ((s.size : Int) == 128) = true := by simp [h128]
      rcases (show bearsE d = 4 ∨ bearsE d = 0 by unfold bearsE; split <;> simp) with hE | hE
      · have e1 : writeE d i s = 4 := by simp [writeE, hT, h128, hE]
        have e2 : writeD d i s = bearsD d := by simp [writeD, hT, h128, hE]
        rw [e1, e2]
        clear e1 e2 h128
        go_enter Try.func16, Try.ntmps16
        go_wp2_with (first | (go_at_call 40; with_reducible refine (there_calls d g i S _ HV.out.dk HO.out).mono ?_; rintro e w1 ⟨rfl, hb1⟩; have v_ := HV.out.below hb1; have F_ := (FS.refl S w).below hb1; clear HV hb1; have HV := Aside0.mk v_; have F := Aside0.mk F_; clear v_ F_ c0 c1 c2 c3 c4 f0 f1 f2 f3 f4; obtain ⟨⟨c0, c1, c2, c3, c4⟩, fr_⟩ := HV.out.cells; have f0 := fr_ 0; have f1 := fr_ 1; have f2 := fr_ 2; have f3 := fr_ 3; have f4 := fr_ 4; clear fr_) | (go_at_call 41; with_reducible refine (bears_calls d g S _ HV.out.dk HO.out).mono ?_; rintro e w2 ⟨rfl, hk2, hf2⟩; have F_ := F.out.trans hf2; clear HV F hf2; have F := Aside0.mk F_; have HK := Aside0.mk hk2; clear F_ hk2 c0 c1 c2 c3 c4 f0 f1 f2 f3 f4))
        go_ret
        exact ⟨rfl, HK.out, F.out⟩
      · have e1 : writeE d i s = 0 := by simp [writeE, hT, h128, hE]
        have e2 : writeD d i s = pushD (bearsD d) i s := by simp [writeD, hT, h128, hE]
        rw [e1, e2]
        clear e1 e2 h128
        go_enter Try.func16, Try.ntmps16
        go_upto_region 10 with (first | (go_at_call 40; with_reducible refine (there_calls d g i S _ HV.out.dk HO.out).mono ?_; rintro e w1 ⟨rfl, hb1⟩; have v_ := HV.out.below hb1; have F_ := (FS.refl S w).below hb1; clear HV hb1; have HV := Aside0.mk v_; have F := Aside0.mk F_; clear v_ F_ c0 c1 c2 c3 c4 f0 f1 f2 f3 f4; obtain ⟨⟨c0, c1, c2, c3, c4⟩, fr_⟩ := HV.out.cells; have f0 := fr_ 0; have f1 := fr_ 1; have f2 := fr_ 2; have f3 := fr_ 3; have f4 := fr_ 4; clear fr_) | (go_at_call 41; with_reducible refine (bears_calls d g S _ HV.out.dk HO.out).mono ?_; rintro e w2 ⟨rfl, hk2, hf2⟩; have F_ := F.out.trans hf2; clear HV F hf2; have F := Aside0.mk F_; have HK := Aside0.mk hk2; clear F_ hk2 c0 c1 c2 c3 c4 f0 f1 f2 f3 f4))
        obtain ⟨sv, rv, m, hv⟩ := HK.out
        clear HK
        have hrow := bears_row d
        rw [hrow] at hv
        have L := Aside0.mk (show (bearsD d).row.length ≤ 1000000 by rw [hrow]; exact HO.out.1)
        have HF := Aside0.mk hrow
        clear hrow
        generalize hD : bearsD d = d2 at hv L HF
        have HD := Aside0.mk hD; clear hD
        have HV := Aside0.mk hv; clear hv
        obtain ⟨⟨c0, c1, c2, c3, c4⟩, fr_⟩ := HV.out.cells; have f0 := fr_ 0; have f1 := fr_ 1; have f2 := fr_ 2; have f3 := fr_ 3; have f4 := fr_ 4; clear fr_
        have hrw := (HV.out.below ((Below.refl w2.heap.size w2).alloc (Nat.le_refl _) (.cells #[.int .i64 i, .string s] TW))).row
        obtain ⟨rv', W4, hrun, how, hgr, hsame, g', c', hrv⟩ := append_row d2.row i s hrw (heap_alloc_new w2 _) L.out 79
        have hF3 := (F.out.alloc (.cells #[.int .i64 i, .string s] TW)).grown hgr (fun k hk => .inl (HV.out.row.mem k hk))
        have hv3 : DV (w2.alloc (.cells #[.int .i64 i, .string s] TW)) S g d2 (lastOf d.row) sv rv m := HV.out.below ((Below.refl _ _).alloc (Nat.le_refl _) _)
        have hb4 := hv3.grown hgr (how.mono (fun k _ hk => hk.elim id (fun e => HS.out k (by rw [e]; have := F.out.size; simp; omega))))
        have k1 : W4.cell? ⟨g, 1, none⟩ = some rv := (blk_cell hb4.1 1); have k2 : W4.frozen? ⟨g, 1, none⟩ = false := blk_frozen hb4.1 1
        have HG := Aside0.mk hb4.2; have HF3 := Aside0.mk (hF3.setCell (p := ⟨g, 1, none⟩) (.inl HV.out.sg) rv')
        clear hv3 hgr how hF3 hrw hb4 hsame
        subst hrv
        have HR := Aside0.mk hrun; clear hrun
        go_upto_region 11 with ((with_reducible refine gate_builtin (b := .append) (xs := #[.tmp 29, .tmp 33]) rfl ?_); at_builtin; refine ev_append (.tmp 29) (.tmp 33) 79 rfl rfl _ _ rfl rfl HR.out ?_)
        clear c0 c1 c2 c3 c4 f0 f1 f2 f3 f4 k1 k2 HV F HR
        generalize hW : W4.setCell ⟨g, 1, none⟩ (.slice (some ⟨g', 0, none⟩) (d2.row.length + 1) c') = W at *
        clear hW
        have HV := HG; have F := HF3; clear HG HF3
        obtain ⟨⟨c0, c1, c2, c3, c4⟩, fr_⟩ := HV.out.cells; have f0 := fr_ 0; have f1 := fr_ 1; have f2 := fr_ 2; have f3 := fr_ 3; have f4 := fr_ 4; clear fr_
        obtain ⟨o, hrun, hmp⟩ := run_update_mp (P := Try.prog) (t := 78) (k := 3) (e := 9) (by kernel_rfl) (by kernel_rfl) HV.out.map i s
        have HM := Aside0.mk hmp; clear hmp
        go_wp2
        go_ret
        refine ⟨rfl, ⟨sv, .slice (some ⟨g', 0, none⟩) (d2.row.length + 1) c', m, ?_⟩, F.out.setBlock (.inl HV.out.sm) o⟩
        have q := HV.out.set_map HM.out
        rw [← last_push, ← HF.out] at q
        rw [HD.out]
        exact q
    · have t2 : ((s.size : Int) == 128) = false := by simp; omega
      have e1 : writeE d i s = 1 := by simp [writeE, hT, h128]
      have e2 : writeD d i s = d := by simp [writeD, hT, h128]
      rw [e1, e2]
      clear e1 e2 h128
      go_enter Try.func16, Try.ntmps16
      go_wp2_with (go_at_call 40; with_reducible refine (there_calls d g i S _ HV.out.dk HO.out).mono ?_; rintro e w1 ⟨rfl, hb1⟩; have v_ := HV.out.below hb1; have F_ := (FS.refl S w).below hb1; clear HV hb1; have HV := Aside0.mk v_; have F := Aside0.mk F_; clear v_ F_ c0 c1 c2 c3 c4 f0 f1 f2 f3 f4; obtain ⟨⟨c0, c1, c2, c3, c4⟩, fr_⟩ := HV.out.cells; have f0 := fr_ 0; have f1 := fr_ 1; have f2 := fr_ 2; have f3 := fr_ 3; have f4 := fr_ 4; clear fr_)
      go_ret
      exact ⟨rfl, ⟨sv, rv, m, HV.out⟩, F.out⟩
end Go.Proofs.Ytbdfdfahpdilpaa.Dk
