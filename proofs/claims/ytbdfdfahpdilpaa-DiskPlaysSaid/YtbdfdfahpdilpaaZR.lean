import Derived.Test.YtbdfdfahpdilpaaZA
import Derived.Test.YtbdfdfahpdilpaaZB
/-! Layer 3, the document's disk: its state, borne, zero. -/
namespace Go.Proofs.Ytbdfdfahpdilpaa.Rd
open Go Go.RowKit Go.ChangeMaps Go.Proofs.Ytbdfdfahpdilpaa.Arr Go.Proofs.Ytbdfdfahpdilpaa.Mp Go.Proofs.Ytbdfdfahpdilpaa.Ow Go.Proofs.Ytbdfdfahpdilpaa.Dk Go.Proofs.YtbdfdfahpdilpaaW.PrintWords Go.Proofs.YtbdfdfahpdilpaaW.PrintLast Go.Proofs.YtbdfdfahpdilpaaW.PrintMore
set_option linter.unusedVariables false
set_option linter.unusedSimpArgs false
abbrev TE : TypeId := 54
abbrev TV : TypeId := 90
structure RV (w : World) (S : Nat → Prop) (g : Nat) (d : DS) (sv rv : Value) : Prop where
  blk : w.heap[g]? = some (.cells #[sv, rv, .bool d.gone, .int .i64 d.fuse] TE (0, 0))
  safe : Ow w S TS 1 sv d.safe.length (d.safe.map .string)
  row : Ow w S TV 2 rv d.row.length (wc d.row)
  sg : S g
/-- Pointer g's reference disk is d. -/
def RK (w : World) (S : Nat → Prop) (g : Nat) (d : DS) : Prop := ∃ sv rv, RV w S g d sv rv
section
variable {w w' : World} {S S2 : Nat → Prop} {g : Nat} {d : DS} {sv rv : Value}
theorem RV.lt (h : RV w S g d sv rv) : g < w.heap.size := blk_lt h.blk
theorem RV.below (h : RV w S g d sv rv) (hb : Below w.heap.size w w') : RV w' S g d sv rv :=
  ⟨blk_below h.blk hb, h.safe.same fun k hk => hb.block k (h.safe.own.lt k hk).2, h.row.same fun k hk => hb.block k (h.row.own.lt k hk).2, h.sg⟩
theorem RV.drew (h : RV w S g d sv rv) : RV w.drew S g d sv rv := h.below ((Below.refl _ _).drew)
theorem RV.mono (h : RV w S g d sv rv) (hs : ∀ k, k < w.heap.size → S k → S2 k) : RV w S2 g d sv rv := ⟨h.blk, h.safe.mono hs, h.row.mono hs, hs g h.lt h.sg⟩
theorem RV.kept (h : RV w S g d sv rv) (hf : FS S2 w w') (hd : ∀ k, S k → ¬ S2 k) : RV w' S g d sv rv := ⟨hf.old h.blk (hd g h.sg), h.safe.kept hf hd, h.row.kept hf hd, h.sg⟩
theorem RV.cells (h : RV w S g d sv rv) : (w.cell? ⟨g, 0, none⟩ = some sv ∧ w.cell? ⟨g, 1, none⟩ = some rv ∧ w.cell? ⟨g, 2, none⟩ = some (.bool d.gone) ∧ w.cell? ⟨g, 3, none⟩ = some (.int .i64 d.fuse)) ∧ (∀ i, w.frozen? ⟨g, i, none⟩ = false) := by
  have hb := h.blk
  refine ⟨⟨?_, ?_, ?_, ?_⟩, fun i => ?_⟩
  all_goals (simp only [World.cell?, World.frozen?, hb]; try rfl)
theorem RV.setg (h : RV w S g d sv rv) (i : Nat) (u : Value) {d' : DS} {rv' : Value} (hc : #[sv, rv, .bool d.gone, .int .i64 d.fuse].setIfInBounds i u = #[sv, rv', .bool d'.gone, .int .i64 d'.fuse]) (hs : d'.safe = d.safe) (hr : Ow w S TV 2 rv' d'.row.length (wc d'.row)) : RV (w.setCell ⟨g, i, none⟩ u) S g d' sv rv' := by
  refine ⟨?_, ?_, hr.same fun k hk => Below.heap_setCell w ⟨g, i, none⟩ u k (ow_ne hr h.blk (by decide) k hk), h.sg⟩
  · rw [← hc]; exact set_blk h.blk i u
  · rw [hs]
    exact h.safe.same fun k hk => Below.heap_setCell w ⟨g, i, none⟩ u k (ow_ne h.safe h.blk (by decide) k hk)
theorem RV.set_gone (h : RV w S g d sv rv) (b : Bool) : RV (w.setCell ⟨g, 2, none⟩ (.bool b)) S g { d with gone := b } sv rv := h.setg 2 (.bool b) rfl rfl h.row
theorem RV.set_fuse (h : RV w S g d sv rv) (b : Int) : RV (w.setCell ⟨g, 3, none⟩ (.int .i64 b)) S g { d with fuse := b } sv rv := h.setg 3 (.int .i64 b) rfl rfl h.row
theorem RV.set_row (h : RV w S g d sv rv) {rv' : Value} {row' : List (Int × ByteArray)} (hr : Ow w S TV 2 rv' row'.length (wc row')) : RV (w.setCell ⟨g, 1, none⟩ rv') S g { d with row := row' } sv rv' := h.setg 1 rv' rfl rfl hr
theorem RV.set_safe {bs n c : Nat} (h : RV w S g d (.slice (some ⟨bs, 0, none⟩) n c) rv) (j : Nat) (hj : j < d.safe.length) (s : ByteArray) : RV (w.setCell ⟨bs, j, none⟩ (.string s)) S g { d with safe := d.safe.set j s } (.slice (some ⟨bs, 0, none⟩) n c) rv := by
  have hn : n = d.safe.length := by
    obtain ⟨A, c', e, _⟩ := h.safe.shape
    injection e
  subst hn
  have hne := ow_ne h.safe h.blk (by decide) bs rfl
  have hput := h.safe.put j (by omega) (.string s)
  refine ⟨(Below.heap_setCell w ⟨bs, j, none⟩ _ g hne.symm).trans h.blk, ?_, h.row.same fun k hk => Below.heap_setCell w ⟨bs, j, none⟩ _ k (fun e => ow_ne2 h.row h.safe (by decide) k hk (by rw [e]; rfl)), h.sg⟩
  show Ow _ S TS 1 _ (d.safe.set j s).length ((d.safe.set j s).map .string)
  rw [List.length_set, List.map_set]
  exact hput
end
theorem RV.rk {w : World} {S : Nat → Prop} {g : Nat} {d : DS} {sv rv : Value} (h : RV w S g d sv rv) : RK w S g d := ⟨sv, rv, h⟩
theorem RK.mono {w : World} {S S2 : Nat → Prop} {g : Nat} {d : DS} (h : RK w S g d) (hs : ∀ k, k < w.heap.size → S k → S2 k) : RK w S2 g d := by obtain ⟨a, b, h⟩ := h; exact ⟨a, b, h.mono hs⟩
theorem RK.kept {w w' : World} {S S2 : Nat → Prop} {g : Nat} {d : DS} (h : RK w S g d) (hf : FS S2 w w') (hd : ∀ k, S k → ¬ S2 k) : RK w' S g d := by obtain ⟨a, b, h⟩ := h; exact ⟨a, b, h.kept hf hd⟩
theorem RK.below {w w' : World} {S : Nat → Prop} {g : Nat} {d : DS} (h : RK w S g d) (hb : Below w.heap.size w w') : RK w' S g d := by obtain ⟨a, b, h⟩ := h; exact ⟨a, b, h.below hb⟩
theorem RK.drew {w : World} {S : Nat → Prop} {g : Nat} {d : DS} (h : RK w S g d) : RK w.drew S g d := h.below ((Below.refl _ _).drew)
theorem rzero_calls (w : World) : Calls Try.prog 46 #[] w fun e w' => e = .returned (.string (noughts 128)) ∧ Below w.heap.size w w' := by
  go_enter Try.func46, Try.ntmps46
  go_upto_region 1 with (fail)
  have hb := heap_alloc_new w (.cells (row (noughts 128)) TB)
  have hconv := conv_whole (P := Try.prog) hb 23 TB TS (by kernel_rfl) (by kernel_rfl) (by kernel_rfl) 128 128 (noughts_size 128)
  clear hb
  go_wp2_with ((with_reducible refine gate_dst (N := 1) rfl ?_); refine ev_make _ _ 23 rfl rfl _ _ rfl rfl (make_bytes _ 128 (by decide)) ?_)
  go_ret
  exact ⟨rfl, (Below.refl _ _).alloc (Nat.le_refl _) _⟩
set_option maxHeartbeats 1000000 in
theorem borne_calls (d : DS) (g : Nat) (S : Nat → Prop) (w : World) (h : RK w S g d) (ho : OkD d) : Calls Try.prog 47 #[.pointer (some ⟨g, 0, none⟩)] w fun e w' => e = .returned (.bool (bearsE d == 0)) ∧ RK w' S g (bearsD d) ∧ FS S w w' := by
  obtain ⟨sv, rv, hv⟩ := h
  have HV := Aside0.mk hv; clear hv
  obtain ⟨⟨c0, c1, c2, c3⟩, fr_⟩ := HV.out.cells; have f0 := fr_ 0; have f1 := fr_ 1; have f2 := fr_ 2; have f3 := fr_ 3; clear fr_
  cases hg : d.gone with
  | true =>
    have e1 : bearsE d = 4 := by simp [bearsE, hg]
    have e2 : bearsD d = { d with gone := true } := by
      cases d
      simp only at hg
      subst hg
      simp [bearsD]
    rw [e1, e2]
    rw [hg] at c2
    clear e1 e2 hg
    go_enter Try.func47, Try.ntmps47
    go_wp2
    go_ret
    exact ⟨rfl, ⟨sv, rv, HV.out.set_gone true⟩, (FS.refl _ _).setCell (.inl HV.out.sg) _⟩
  | false =>
    rw [hg] at c2
    by_cases h0 : d.fuse = 0
    · have e1 : bearsE d = 4 := by simp [bearsE, h0]
      have e2 : bearsD d = { d with gone := true } := by simp [bearsD, hg, h0]
      rw [e1, e2]
      rw [h0] at c3
      clear e1 e2 hg h0
      go_enter Try.func47, Try.ntmps47
      go_wp2
      go_ret
      exact ⟨rfl, ⟨sv, rv, HV.out.set_gone true⟩, (FS.refl _ _).setCell (.inl HV.out.sg) _⟩
    · have e1 : bearsE d = 0 := by simp [bearsE, hg, h0]
      rw [e1]
      have hz : (d.fuse == 0) = false := by simp [h0]
      by_cases hp : 0 < d.fuse
      · have e2 : bearsD d = { d with fuse := d.fuse - 1 } := by simp [bearsD, hg, h0, hp]
        rw [e2]
        have hw : wrap64 (d.fuse - 1) = d.fuse - 1 := by have := ho.2.2.1; unfold wrap64; omega
        clear e1 e2 hg h0 ho
        go_enter Try.func47, Try.ntmps47
        go_wp2
        go_ret
        exact ⟨rfl, ⟨sv, rv, HV.out.set_fuse (d.fuse - 1)⟩, (FS.refl _ _).setCell (.inl HV.out.sg) _⟩
      · have e2 : bearsD d = d := by simp [bearsD, hg, h0, hp]
        rw [e2]
        clear e1 e2 hg h0 ho
        go_enter Try.func47, Try.ntmps47
        go_wp2
        go_ret
        exact ⟨rfl, ⟨sv, rv, HV.out⟩, FS.refl _ _⟩
end Go.Proofs.Ytbdfdfahpdilpaa.Rd

/-! Layer 3, the document's disk: Write, Read. -/
namespace Go.Proofs.Ytbdfdfahpdilpaa.Rd
open Go Go.RowKit Go.ChangeMaps Go.Proofs.Ytbdfdfahpdilpaa.Arr Go.Proofs.Ytbdfdfahpdilpaa.Mp Go.Proofs.Ytbdfdfahpdilpaa.Ow Go.Proofs.Ytbdfdfahpdilpaa.Dk Go.Proofs.YtbdfdfahpdilpaaW.PrintWords Go.Proofs.YtbdfdfahpdilpaaW.PrintLast Go.Proofs.YtbdfdfahpdilpaaW.PrintMore
set_option linter.unusedVariables false
set_option linter.unusedSimpArgs false
theorem infoV : (Try.prog.info? TV).map (fun i => (i.zero, i.size, i.bytes)) = some (some (.agg #[.int .i64 0, .string ⟨#[]⟩]), 2, 24) := by kernel_rfl
theorem append_rowV {w : World} {S : Nat → Prop} {rv : Value} (row : List (Int × ByteArray)) (i : Int) (s : ByteArray) (h : Ow w S TV 2 rv row.length (wc row)) {g0 : Nat} (hg : w.heap[g0]? = some (.cells #[.int .i64 i, .string s] TV (0, 0))) (hl : row.length ≤ 1000000) (ty : TypeId) :
    ∃ v' w', (Builtin.append_ #[52, 52] ty #[rv, .slice (some ⟨g0, 0, none⟩) 1 1]).run Try.prog w = .ok v' w' ∧ Ow w' (fun k => S k ∨ k = w.heap.size) TV 2 v' (row ++ [(i, s)]).length (wc (row ++ [(i, s)])) ∧ w.grownBy w' rv.ownBlock ∧ (v'.ownBlock = rv.ownBlock ∨ v'.ownBlock = some w.heap.size) ∧ ∃ g' c', v' = .slice (some ⟨g', 0, none⟩) (row.length + 1) c' := by
  obtain ⟨i0, hi, h2⟩ := Option.map_eq_some_iff.1 infoV
  have hz : i0.zero = some (.agg #[.int .i64 0, .string ⟨#[]⟩]) := congrArg Prod.fst h2
  have hs : i0.size = 2 := congrArg (fun p => p.2.1) h2
  have hb : i0.bytes = 24 := congrArg (fun p => p.2.2) h2
  have r := run_append_ow (P := Try.prog) (ty := ty) 52 TV i0 _ 2 24 (by kernel_rfl) hi hz hs hb rfl (by decide) rv row.length _ h ⟨g0, 0, none⟩ 1 1 [.int .i64 i, .string s] rfl (fun j u hj => ?_) (fun u hu => ?_) (by simp only [maxLen]; omega) (by omega) (by decide)
  · rw [wc_push, List.length_append]
    exact r
  · match j with
    | 0 => exact (blk_cell hg 0).trans (by simpa using hj)
    | 1 => exact (blk_cell hg 1).trans (by simpa using hj)
    | j + 2 => simp at hj
  · rcases List.mem_cons.1 hu with rfl | hu
    · rfl
    · rcases List.mem_cons.1 hu with rfl | hu
      · rfl
      · cases hu
theorem RV.grown {w w' : World} {S : Nat → Prop} {g : Nat} {d : DS} {sv rv rv' : Value} {row' : List (Int × ByteArray)} (h : RV w S g d sv rv) (hg : w.grownBy w' rv.ownBlock) (hr : Ow w' S TV 2 rv' row'.length (wc row')) :
    w'.heap[g]? = some (.cells #[sv, rv, .bool d.gone, .int .i64 d.fuse] TE (0, 0)) ∧ RV (w'.setCell ⟨g, 1, none⟩ rv') S g { d with row := row' } sv rv' := by
  have hb := grown_blk hg h.blk (fun e => ow_ne h.row h.blk (by decide) g e rfl)
  have hs : Ow w' S TS 1 sv d.safe.length (d.safe.map .string) := h.safe.same fun k hk => hg.block k (h.safe.own.lt k hk).2 (fun e => ow_ne2 h.safe h.row (by decide) k hk e.symm)
  refine ⟨hb, set_blk hb 1 rv', hs.same fun k hk => Below.heap_setCell w' ⟨g, 1, none⟩ rv' k (ow_ne hs hb (by decide) k hk), hr.same fun k hk => Below.heap_setCell w' ⟨g, 1, none⟩ rv' k (ow_ne hr hb (by decide) k hk), h.sg⟩
set_option maxHeartbeats 4000000 in
set_option maxRecDepth 20000 in
theorem rwrite_calls (d : DS) (g : Nat) (i : Int) (s : ByteArray) (S : Nat → Prop) (w : World) (hS : Top S w) (h : RK w S g d) (ho : OkD d) : Calls Try.prog 26 #[.pointer (some ⟨g, 0, none⟩), .int .i64 i, .string s] w fun e w' => e = .returned (.int .i64 (writeE d i s)) ∧ RK w' S g (writeD d i s) ∧ FS S w w' := by
  obtain ⟨sv, rv, hv⟩ := h
  obtain ⟨A, c, rfl, -⟩ := hv.safe.shape
  have HV := Aside0.mk hv; have HO := Aside0.mk ho; have HS := Aside0.mk hS; clear hv ho hS
  obtain ⟨⟨c0, c1, c2, c3⟩, fr_⟩ := HV.out.cells; have f0 := fr_ 0; have f1 := fr_ 1; have f2 := fr_ 2; have f3 := fr_ 3; clear fr_
  by_cases hlo : i < 0
  · have hT : thereD d i = false := by unfold thereD; rw [decide_eq_false (by omega)]; rfl
    have e1 : writeE d i s = 2 := by simp [writeE, hT]
    have e2 : writeD d i s = d := by simp [writeD, hT]
    rw [e1, e2]
    clear e1 e2 hT
    go_enter Try.func26, Try.ntmps26
    go_wp2
    go_ret
    exact ⟨rfl, ⟨_, rv, HV.out⟩, FS.refl _ _⟩
  by_cases hhi : (d.safe.length : Int) ≤ i
  · have hT : thereD d i = false := by unfold thereD; rw [decide_eq_false (p := i < d.safe.length) (by omega), Bool.and_false]
    have e1 : writeE d i s = 2 := by simp [writeE, hT]
    have e2 : writeD d i s = d := by simp [writeD, hT]
    rw [e1, e2]
    clear e1 e2 hT
    go_enter Try.func26, Try.ntmps26
    go_wp2
    go_ret
    exact ⟨rfl, ⟨_, rv, HV.out⟩, FS.refl _ _⟩
  have hT : thereD d i = true := by unfold thereD; rw [decide_eq_true (p := 0 ≤ i) (by omega), decide_eq_true (p := i < d.safe.length) (by omega)]; rfl
  by_cases h128 : s.size = 128
  · have t2 : ((s.size : Int) == 128) = true := by simp [h128]
    rcases (show bearsE d = 4 ∨ bearsE d = 0 by unfold bearsE; split <;> simp) with hE | hE
    · have e1 : writeE d i s = 4 := by simp [writeE, hT, h128, hE]
      have e2 : writeD d i s = bearsD d := by simp [writeD, hT, h128, hE]
      rw [e1, e2]
      have hb4 : (bearsE d == 0) = false := by simp [hE]
      clear e1 e2 h128 hT hE
      go_enter Try.func26, Try.ntmps26
      go_wp2_with (go_at_call 47; (with_reducible refine (borne_calls _ _ _ _ HV.out.rk HO.out).mono ?_); rintro e w1 ⟨rfl, hk1, hf1⟩; have HK := Aside0.mk hk1; have F := Aside0.mk hf1; clear hk1 hf1 HV c0 c1 c2 c3 f0 f1 f2 f3)
      go_ret
      exact ⟨rfl, HK.out, F.out⟩
    · have e1 : writeE d i s = 0 := by simp [writeE, hT, h128, hE]
      have e2 : writeD d i s = pushD (bearsD d) i s := by simp [writeD, hT, h128, hE]
      rw [e1, e2]
      have hb4 : (bearsE d == 0) = true := by simp [hE]
      clear e1 e2 h128 hT hE
      go_enter Try.func26, Try.ntmps26
      go_upto_region 7 with (go_at_call 47; (with_reducible refine (borne_calls _ _ _ _ HV.out.rk HO.out).mono ?_); rintro e w1 ⟨rfl, hk1, hf1⟩; have HK := Aside0.mk hk1; have F := Aside0.mk hf1; clear hk1 hf1 HV c0 c1 c2 c3 f0 f1 f2 f3)
      obtain ⟨sv, rv, hv⟩ := HK.out
      obtain ⟨A2, c2_, rfl, -⟩ := hv.safe.shape
      obtain ⟨A3, c3_, rfl, -⟩ := hv.row.shape
      clear HK
      have L := Aside0.mk (show (bearsD d).row.length ≤ 1000000 by rw [bears_row]; exact HO.out.1)
      generalize hD : bearsD d = d2 at hv L
      have HD := Aside0.mk hD; clear hD
      have HV := Aside0.mk hv; clear hv
      obtain ⟨⟨c0, c1, c2, c3⟩, fr_⟩ := HV.out.cells; have f0 := fr_ 0; have f1 := fr_ 1; have f2 := fr_ 2; have f3 := fr_ 3; clear fr_
      have hbb := (Below.refl w1.heap.size w1).alloc (Nat.le_refl _) (.cells #[.int .i64 i, .string s] TV)
      obtain ⟨rv', W4, hrun, how, hgr, hsame, g', c', hrv⟩ := append_rowV d2.row i s (HV.out.below hbb).row (heap_alloc_new w1 _) L.out 52
      have hF3 := (F.out.alloc (.cells #[.int .i64 i, .string s] TV)).grown hgr (fun k hk => .inl (HV.out.row.mem k hk))
      have hb4' := (HV.out.below hbb).grown hgr (how.mono (fun k _ hk => hk.elim id (fun e => HS.out k (by rw [e]; have := F.out.size; simp; omega))))
      have k1 : W4.cell? ⟨g, 1, none⟩ = some (.slice A3 d2.row.length c3_) := (blk_cell hb4'.1 1); have k2 : W4.frozen? ⟨g, 1, none⟩ = false := blk_frozen hb4'.1 1
      have HG := Aside0.mk hb4'.2; have HF3 := Aside0.mk (hF3.setCell (p := ⟨g, 1, none⟩) (.inl HV.out.sg) rv')
      clear hgr how hF3 hb4' hsame hbb
      subst hrv
      have HR := Aside0.mk hrun; clear hrun
      go_wp2_with ((with_reducible refine gate_builtin (b := .append) (xs := #[.tmp 28, .tmp 32]) rfl ?_); at_builtin; refine ev_append (.tmp 28) (.tmp 32) 52 rfl rfl _ _ rfl rfl HR.out ?_)
      go_ret
      refine ⟨rfl, ?_, HF3.out⟩
      rw [HD.out]
      exact ⟨_, _, HG.out⟩
  · have t2 : ((s.size : Int) == 128) = false := by simp; omega
    have e1 : writeE d i s = 1 := by simp [writeE, hT, h128]
    have e2 : writeD d i s = d := by simp [writeD, hT, h128]
    rw [e1, e2]
    clear e1 e2 h128 hT
    go_enter Try.func26, Try.ntmps26
    go_wp2
    go_ret
    exact ⟨rfl, ⟨_, rv, HV.out⟩, FS.refl _ _⟩
end Go.Proofs.Ytbdfdfahpdilpaa.Rd

/-! Layer 3, the document's disk: Read, Sync, Crash. -/
namespace Go.Proofs.Ytbdfdfahpdilpaa.Rd
open Go Go.RowKit Go.ChangeMaps Go.Proofs.Ytbdfdfahpdilpaa.Arr Go.Proofs.Ytbdfdfahpdilpaa.Mp Go.Proofs.Ytbdfdfahpdilpaa.Ow Go.Proofs.Ytbdfdfahpdilpaa.Dk Go.Proofs.YtbdfdfahpdilpaaW.PrintWords Go.Proofs.YtbdfdfahpdilpaaW.PrintLast Go.Proofs.YtbdfdfahpdilpaaW.PrintMore
set_option linter.unusedVariables false
set_option linter.unusedSimpArgs false
theorem wv_elem {w : World} {S : Nat → Prop} {A : Option Addr} {c n : Nat} {row : List (Int × ByteArray)} (h : Ow w S TV 2 (.slice A n c) n (wc row)) {j : Nat} {k : Int} {s : ByteArray} (hj : row[j]? = some (k, s)) (hn : j < n) : ∃ rb, A = some ⟨rb, 0, none⟩ ∧ S rb ∧ w.cell? ⟨rb, j * 2, none⟩ = some (.int .i64 k) ∧ w.cell? ⟨rb, j * 2 + 1, none⟩ = some (.string s) := by
  obtain ⟨rb, rc, cur, hrv, hrS, hrb, hrl, hrm, hrs, hrt⟩ := h.open (by omega)
  injection hrv with hA1 _ _
  have hw2 := wc_get row j k s hj
  exact ⟨rb, hA1, hrS, cell_of hrb hrt hw2.1, cell_of hrb hrt hw2.2⟩
def lookF (d : DS) (i : Int) (k : Nat) : ByteArray := (lastOf (d.row.take k) i).getD ((d.safe[i.toNat]?).getD ⟨#[]⟩)
theorem look_succ (d : DS) (i : Int) (k : Nat) {q : Int} {s : ByteArray} (h : d.row[k]? = some (q, s)) : lookF d i (k + 1) = if q = i then s else lookF d i k := by
  have hl : k < d.row.length := by
    rcases Nat.lt_or_ge k d.row.length with h1 | h1
    · exact h1
    · rw [List.getElem?_eq_none h1] at h; cases h
  have e : d.row[k] = (q, s) := by rw [List.getElem?_eq_getElem hl] at h; injection h
  unfold lookF
  rw [List.take_succ_eq_append_getElem hl, e, last_push]
  by_cases hq : q = i
  · rw [if_pos hq]
    simp only [if_pos hq.symm]
    rfl
  · rw [if_neg hq]
    have hq2 : ¬ i = q := fun h => hq h.symm
    simp only [if_neg hq2]
set_option maxHeartbeats 4000000 in
set_option maxRecDepth 20000 in
theorem rread_calls (d : DS) (g : Nat) (i : Int) (S : Nat → Prop) (w : World) (h : RK w S g d) (ho : OkD d) : Calls Try.prog 32 #[.pointer (some ⟨g, 0, none⟩), .int .i64 i] w fun e w' => e = .returned (.tuple #[.string (readS d i), .int .i64 (readE d i)]) ∧ Below w.heap.size w w' := by
  obtain ⟨sv, rv, hv⟩ := h
  obtain ⟨A, c, rfl, -⟩ := hv.safe.shape
  obtain ⟨A1, c1_, rfl, -⟩ := hv.row.shape
  have HV := Aside0.mk hv; have HO := Aside0.mk ho; clear hv ho
  obtain ⟨⟨c0, c1, c2, c3⟩, fr_⟩ := HV.out.cells; have f0 := fr_ 0; have f1 := fr_ 1; have f2 := fr_ 2; have f3 := fr_ 3; clear fr_
  cases hg : d.gone with
  | true =>
    have e1 : readE d i = 4 := by simp [readE, hg]
    have e2 : readS d i = ⟨#[]⟩ := by simp [readS, e1]
    rw [e1, e2]
    rw [hg] at c2
    clear e1 e2 hg
    go_enter Try.func32, Try.ntmps32
    go_wp2
    go_ret2
    exact ⟨rfl, Below.refl _ _⟩
  | false =>
  rw [hg] at c2
  by_cases hlo : i < 0
  · have hT : thereD d i = false := by unfold thereD; rw [decide_eq_false (by omega)]; rfl
    have e1 : readE d i = 2 := by simp [readE, hg, hT]
    have e2 : readS d i = ⟨#[]⟩ := by simp [readS, e1]
    rw [e1, e2]
    clear e1 e2 hT hg
    go_enter Try.func32, Try.ntmps32
    go_wp2
    go_ret2
    exact ⟨rfl, Below.refl _ _⟩
  by_cases hhi : (d.safe.length : Int) ≤ i
  · have hT : thereD d i = false := by unfold thereD; rw [decide_eq_false (p := i < d.safe.length) (by omega), Bool.and_false]
    have e1 : readE d i = 2 := by simp [readE, hg, hT]
    have e2 : readS d i = ⟨#[]⟩ := by simp [readS, e1]
    rw [e1, e2]
    clear e1 e2 hT hg
    go_enter Try.func32, Try.ntmps32
    go_wp2
    go_ret2
    exact ⟨rfl, Below.refl _ _⟩
  have hT : thereD d i = true := by unfold thereD; rw [decide_eq_true (p := 0 ≤ i) (by omega), decide_eq_true (p := i < d.safe.length) (by omega)]; rfl
  have e1 : readE d i = 0 := by simp [readE, hg, hT]
  have e2 : readS d i = lookF d i d.row.length := by
    unfold readS lookF
    rw [e1, List.take_length, if_neg (by simp)]
  rw [e1, e2]
  have hi0 : 0 ≤ i := by omega
  have hi1 : i < (d.safe.length : Int) := by omega
  obtain ⟨bs, cc, cur, hsv, -, hbs, -, -, -, htk⟩ := HV.out.safe.open (show 0 < d.safe.length by omega)
  injection hsv with e5 e6 e7
  subst e5
  subst e7
  have hsx : d.safe[i.toNat]? = some d.safe[i.toNat] := List.getElem?_eq_getElem (by omega)
  have s0 : w.cell? ⟨bs, i.toNat, none⟩ = some (.string (lookF d i 0)) := by
    have e : lookF d i 0 = d.safe[i.toNat] := by
      unfold lookF
      rw [List.take_zero, last_nil, hsx]
      rfl
    rw [e]
    exact cell_of hbs htk (by rw [List.getElem?_map, hsx]; rfl)
  have hrl : d.row.length ≤ 1000000 := HO.out.1
  have HRL := Aside0.mk hrl
  clear e1 e2 e6 hT hg hlo hhi hbs htk hsx hrl
  go_enter Try.func32, Try.ntmps32
  go_upto_region 7 with (fail)
  go_loopw [6, 7] (fun sv v wr => ∃ k : Nat, v = .int .i64 k ∧ sv = .string (lookF d i k) ∧ Aside0 (k ≤ d.row.length) ∧ wr = w) (fun _ v _ => d.row.length - (intOf v).toNat)
  case atStart => exact ⟨0, rfl, rfl, ⟨Nat.zero_le _⟩, rfl⟩
  case round =>
    obtain ⟨k, rfl, rfl, K, rfl⟩ := hrel
    by_cases hlt : k < d.row.length
    · have h1 : (k : Int) < (d.row.length : Int) := by omega
      have hwk : wrap64 ((k : Int) + 1) = ((k + 1 : Nat) : Int) := by have := HRL.out; unfold wrap64; omega
      obtain ⟨q, hq⟩ : ∃ q, d.row[k]? = some q := ⟨_, List.getElem?_eq_getElem hlt⟩
      obtain ⟨x, s⟩ := q
      obtain ⟨rb, rfl, -, r0, r1⟩ := wv_elem HV.out.row hq hlt
      have HST := Aside0.mk (look_succ d i k hq)
      have HLT := Aside0.mk hlt
      clear hq hlt
      by_cases hx : x = i
      · have hb : (x == i) = true := by simp [hx]
        have hst : lookF d i (k + 1) = s := by rw [HST.out, if_pos hx]
        have HS2 := Aside0.mk hst
        clear hx hst
        go_wp2
        go_roundw
        case rel => exact ⟨k + 1, by first | rw [hwk] | go_num, by rw [HS2.out], ⟨HLT.out⟩, by first | rfl | trivial⟩
        case measure =>
          try rw [hwk]
          have := HLT.out
          simp [intOf]; omega
      · have hb : (x == i) = false := by simp [hx]
        have hst : lookF d i (k + 1) = lookF d i k := by rw [HST.out, if_neg hx]
        have HS2 := Aside0.mk hst
        clear hx hst
        go_wp2
        go_roundw
        case rel => exact ⟨k + 1, by first | rw [hwk] | go_num, by rw [HS2.out], ⟨HLT.out⟩, by first | rfl | trivial⟩
        case measure =>
          try rw [hwk]
          have := HLT.out
          simp [intOf]; omega
    · obtain rfl : k = d.row.length := by have := K.out; omega
      clear hlt
      go_wp2
      go_ret2
      exact ⟨rfl, Below.refl _ _⟩
end Go.Proofs.Ytbdfdfahpdilpaa.Rd

/-! Layer 3, the document's disk: Sync, Crash. -/
namespace Go.Proofs.Ytbdfdfahpdilpaa.Rd
open Go Go.RowKit Go.ChangeMaps Go.Proofs.Ytbdfdfahpdilpaa.Arr Go.Proofs.Ytbdfdfahpdilpaa.Mp Go.Proofs.Ytbdfdfahpdilpaa.Ow Go.Proofs.Ytbdfdfahpdilpaa.Dk Go.Proofs.Ytbdfdfahpdilpaa.Lv Go.Proofs.YtbdfdfahpdilpaaW.PrintWords Go.Proofs.YtbdfdfahpdilpaaW.PrintLast Go.Proofs.YtbdfdfahpdilpaaW.PrintMore
set_option linter.unusedVariables false
set_option linter.unusedSimpArgs false
set_option maxHeartbeats 8000000 in
set_option maxRecDepth 20000 in
theorem rsync_calls (d : DS) (g : Nat) (S : Nat → Prop) (w : World) (h : RK w S g d) (ho : OkD d) : Calls Try.prog 27 #[.pointer (some ⟨g, 0, none⟩)] w fun e w' => e = .returned (.int .i64 (syncE d)) ∧ RK w' S g (syncD d) ∧ FS S w w' := by
  obtain ⟨sv, rv, hv⟩ := h
  have HV := Aside0.mk hv; have HO := Aside0.mk ho; clear hv ho
  obtain ⟨⟨c0, c1, c2, c3⟩, fr_⟩ := HV.out.cells; have f0 := fr_ 0; have f1 := fr_ 1; have f2 := fr_ 2; have f3 := fr_ 3; clear fr_
  rcases (show bearsE d = 4 ∨ bearsE d = 0 by unfold bearsE; split <;> simp) with hE | hE
  · have e1 : syncE d = 4 := hE
    have e2 : syncD d = bearsD d := by unfold syncD; rw [if_pos (by rw [hE]; decide)]
    rw [e1, e2]
    have hb4 : (bearsE d == 0) = false := by simp [hE]
    clear e1 e2 hE
    go_enter Try.func27, Try.ntmps27
    go_wp2_with (go_at_call 47; (with_reducible refine (borne_calls _ _ _ _ HV.out.rk HO.out).mono ?_); rintro e w1 ⟨rfl, hk1, hf1⟩; have HK := Aside0.mk hk1; have F := Aside0.mk hf1; clear hk1 hf1 HV c0 c1 c2 c3 f0 f1 f2 f3)
    go_ret
    exact ⟨rfl, HK.out, F.out⟩
  · have e1 : syncE d = 0 := hE
    have e2 : syncD d = settleD { bearsD d with safe := overF (lastOf d.row) d.safe } := by unfold syncD; rw [if_neg (by rw [hE]; decide)]
    rw [e1, e2]
    have hb4 : (bearsE d == 0) = true := by simp [hE]
    clear e1 e2 hE
    go_enter Try.func27, Try.ntmps27
    go_upto_region 4 with (go_at_call 47; (with_reducible refine (borne_calls _ _ _ _ HV.out.rk HO.out).mono ?_); rintro e w1 ⟨rfl, hk1, hf1⟩; have HK := Aside0.mk hk1; have F := Aside0.mk hf1; clear hk1 hf1 HV c0 c1 c2 c3 f0 f1 f2 f3)
    have hrw := bears_row d; have hsf := bears_safe d
    obtain ⟨sv, rv, hv⟩ := HK.out
    clear HK
    generalize hD : bearsD d = d2 at hv hrw hsf
    obtain ⟨A, c, rfl, -⟩ := hv.safe.shape
    obtain ⟨A1, c1_, rfl, -⟩ := hv.row.shape
    have HD := Aside0.mk hD; have HRW := Aside0.mk hrw; have HSF := Aside0.mk hsf
    have HV := Aside0.mk (show RV w1 S g { d2 with safe := crashT 1 (fun _ => 1) d2.row d2.safe 0 } (.slice A d2.safe.length c) (.slice A1 d2.row.length c1_) from hv)
    have HRL := Aside0.mk (show d2.row.length ≤ 1000000 by rw [hrw]; exact HO.out.1)
    have HRG := Aside0.mk (show ∀ p ∈ d2.row, 0 ≤ p.1 ∧ p.1 < d2.safe.length by rw [hrw, hsf]; exact HO.out.2.2.2.2)
    clear hD hrw hsf hv hb4
    go_loopw [3] (fun v wr => ∃ j : Nat, v = .int .i64 j ∧ Aside0 (j ≤ d2.row.length) ∧ Aside0 (RV wr S g { d2 with safe := crashT 1 (fun _ => 1) d2.row d2.safe j } (.slice A d2.safe.length c) (.slice A1 d2.row.length c1_)) ∧ Aside0 (FS S w wr)) (fun v _ => d2.row.length - (intOf v).toNat)
    case atStart => exact ⟨0, rfl, ⟨Nat.zero_le _⟩, HV, F⟩
    case round =>
      clear HV F
      obtain ⟨j, rfl, J, HV, F⟩ := hrel
      obtain ⟨⟨c0, c1, c2, c3⟩, fr_⟩ := HV.out.cells; have f0 := fr_ 0; have f1 := fr_ 1; have f2 := fr_ 2; have f3 := fr_ 3; clear fr_
      by_cases hlt : j < d2.row.length
      · have h1 : (j : Int) < (d2.row.length : Int) := by omega
        have h0 : (0 : Int) ≤ (j : Int) := by omega
        have hwj : wrap64 ((j : Int) + 1) = ((j + 1 : Nat) : Int) := by have := HRL.out; unfold wrap64; omega
        obtain ⟨q, hq⟩ : ∃ q, d2.row[j]? = some q := ⟨_, List.getElem?_eq_getElem hlt⟩
        have hrg := HRG.out _ (List.mem_of_getElem? hq)
        obtain ⟨x, s⟩ := q
        have hx0 : 0 ≤ x := hrg.1
        have hx1 : x < (d2.safe.length : Int) := hrg.2
        have HQ := Aside0.mk hq; have HLT := Aside0.mk hlt
        have HSS := Aside0.mk (show crashT 1 (fun _ => 1) d2.row d2.safe (j + 1) = (crashT 1 (fun _ => 1) d2.row d2.safe j).set x.toNat s by rw [crashT_succ hq]; rfl)
        clear hrg hq hlt
        go_upto_region 6 with (fail)
        have HV2 := Aside0.mk HV.out.drew; have F2 := Aside0.mk F.out.drew
        clear c0 c1 c2 c3 f0 f1 f2 f3 HV F
        have hcl := crashT_length 1 (fun _ => 1) d2.row d2.safe j
        obtain ⟨bs, cc, cur, hsv, hSb, hbs, -, -, -, htk⟩ := HV2.out.safe.open (show 0 < (crashT 1 (fun _ => 1) d2.row d2.safe j).length by omega)
        have hsv2 := hsv
        injection hsv2 with e5 e6 e7
        subst e5
        subst e7
        clear hsv e6
        obtain ⟨rb, rfl, -, r0, r1⟩ := wv_elem HV2.out.row HQ.out HLT.out
        obtain ⟨ux, hux⟩ : ∃ u, ((crashT 1 (fun _ => 1) d2.row d2.safe j).map Value.string)[x.toNat]? = some u := ⟨_, List.getElem?_eq_getElem (by simp only [List.length_map, hcl]; omega)⟩
        have z0 : wr.drew.cell? ⟨g, 0, none⟩ = some (.slice (some ⟨bs, 0, none⟩) d2.safe.length c) := HV2.out.cells.1.1
        have z1 : wr.drew.cell? ⟨g, 1, none⟩ = some (.slice (some ⟨rb, 0, none⟩) d2.row.length c1_) := HV2.out.cells.1.2.1
        have HB := Aside0.mk hbs; have HTK := Aside0.mk htk; have HX := Aside0.mk hux; have HSB := Aside0.mk hSb; have HCL := Aside0.mk hcl
        clear hbs htk hux hSb hcl
        refine start_ (n := 22) (S := fun w' => w'.cell? ⟨g, 0, none⟩ = some (.slice (some ⟨bs, 0, none⟩) d2.safe.length c) ∧ w'.cell? ⟨g, 1, none⟩ = some (.slice (some ⟨rb, 0, none⟩) d2.row.length c1_) ∧ w'.cell? ⟨rb, j * 2, none⟩ = some (.int .i64 x) ∧ w'.cell? ⟨rb, j * 2 + 1, none⟩ = some (.string s)) (ds := [21]) #[false, false, false, false, false, false, false, false, false, false, false, false, false, false, false, false, false, false, false, false, false, false] (by kernel_rfl) rfl rfl ⟨z0, z1, r0, r1⟩ (fun hHeld => ?_)
        refine pure_ (i := 0) (N := some 16) (v := ?_) (a' := ?_) #[true, false, false, false, false, false, false, false, false, false, false, false, false, false, false, false, false, false, false, false, false, false] rfl rfl (by kernel_rfl) (fun _ _ _ h => h) (Or.inl ⟨by kernel_rfl, ?_⟩) ?_ ?_
        rotate_left
        · intro w'
          go_simp
          with_reducible rfl
        rotate_left
        · simp only [Act.put, List.setIfInBounds_toArray, List.set_cons_zero, List.set_cons_succ, i64_w, i32_w]
          rfl
        refine pure_ (i := 1) (N := some 17) (v := ?_) (a' := ?_) #[true, true, false, false, false, false, false, false, false, false, false, false, false, false, false, false, false, false, false, false, false, false] rfl rfl (by kernel_rfl) (fun _ _ _ h => h) (Or.inl ⟨by kernel_rfl, ?_⟩) ?_ ?_
        rotate_left
        · intro w'
          go_simp
          with_reducible rfl
        rotate_left
        · simp only [Act.put, List.setIfInBounds_toArray, List.set_cons_zero, List.set_cons_succ, i64_w, i32_w]
          rfl
        refine pure_ (i := 2) (N := some 18) (v := ?_) (a' := ?_) #[true, true, true, false, false, false, false, false, false, false, false, false, false, false, false, false, false, false, false, false, false, false] rfl rfl (by kernel_rfl) (fun _ _ _ h => h) (Or.inl ⟨by kernel_rfl, ?_⟩) ?_ ?_
        rotate_left
        · intro w'
          go_simp
          with_reducible rfl
        rotate_left
        · simp only [Act.put, List.setIfInBounds_toArray, List.set_cons_zero, List.set_cons_succ, i64_w, i32_w]
          rfl
        refine pure_ (i := 4) (N := some 20) (v := ?_) (a' := ?_) #[true, true, true, false, true, false, false, false, false, false, false, false, false, false, false, false, false, false, false, false, false, false] rfl rfl (by kernel_rfl) (fun _ _ _ h => h) (Or.inl ⟨by kernel_rfl, ?_⟩) ?_ ?_
        rotate_left
        · intro w'
          go_simp
          with_reducible rfl
        rotate_left
        · simp only [Act.put, List.setIfInBounds_toArray, List.set_cons_zero, List.set_cons_succ, i64_w, i32_w]
          rfl
        refine pure_ (i := 5) (N := some 21) (v := ?_) (a' := ?_) #[true, true, true, false, true, true, false, false, false, false, false, false, false, false, false, false, false, false, false, false, false, false] rfl rfl (by kernel_rfl) (fun _ _ _ h => h) (Or.inl ⟨by kernel_rfl, ?_⟩) ?_ ?_
        rotate_left
        · intro w'
          go_simp
          with_reducible rfl
        rotate_left
        · simp only [Act.put, List.setIfInBounds_toArray, List.set_cons_zero, List.set_cons_succ, i64_w, i32_w]
          rfl
        refine pure_ (i := 6) (N := some 22) (v := ?_) (a' := ?_) #[true, true, true, false, true, true, true, false, false, false, false, false, false, false, false, false, false, false, false, false, false, false] rfl rfl (by kernel_rfl) (fun _ _ _ h => h) (Or.inl ⟨by kernel_rfl, ?_⟩) ?_ ?_
        rotate_left
        · intro w'
          go_simp
          with_reducible rfl
        rotate_left
        · simp only [Act.put, List.setIfInBounds_toArray, List.set_cons_zero, List.set_cons_succ, i64_w, i32_w]
          rfl
        refine pure_ (i := 8) (N := some 24) (v := ?_) (a' := ?_) #[true, true, true, false, true, true, true, false, true, false, false, false, false, false, false, false, false, false, false, false, false, false] rfl rfl (by kernel_rfl) (fun _ _ _ h => h) (Or.inl ⟨by kernel_rfl, ?_⟩) ?_ ?_
        rotate_left
        · intro w'
          go_simp
          with_reducible rfl
        rotate_left
        · simp only [Act.put, List.setIfInBounds_toArray, List.set_cons_zero, List.set_cons_succ, i64_w, i32_w]
          rfl
        refine pure_ (i := 12) (N := some 28) (v := ?_) (a' := ?_) #[true, true, true, false, true, true, true, false, true, false, false, false, true, false, false, false, false, false, false, false, false, false] rfl rfl (by kernel_rfl) (fun _ _ _ h => h) (Or.inl ⟨by kernel_rfl, ?_⟩) ?_ ?_
        rotate_left
        · intro w'
          go_simp
          with_reducible rfl
        rotate_left
        · simp only [Act.put, List.setIfInBounds_toArray, List.set_cons_zero, List.set_cons_succ, i64_w, i32_w]
          rfl
        refine pure_ (i := 13) (N := some 29) (v := ?_) (a' := ?_) #[true, true, true, false, true, true, true, false, true, false, false, false, true, true, false, false, false, false, false, false, false, false] rfl rfl (by kernel_rfl) (fun _ _ _ h => h) (Or.inl ⟨by kernel_rfl, ?_⟩) ?_ ?_
        rotate_left
        · intro w'
          go_simp
          with_reducible rfl
        rotate_left
        · simp only [Act.put, List.setIfInBounds_toArray, List.set_cons_zero, List.set_cons_succ, i64_w, i32_w]
          rfl
        refine pure_ (i := 14) (N := some 30) (v := ?_) (a' := ?_) #[true, true, true, false, true, true, true, false, true, false, false, false, true, true, true, false, false, false, false, false, false, false] rfl rfl (by kernel_rfl) (fun _ _ _ h => h) (Or.inl ⟨by kernel_rfl, ?_⟩) ?_ ?_
        rotate_left
        · intro w'
          go_simp
          with_reducible rfl
        rotate_left
        · simp only [Act.put, List.setIfInBounds_toArray, List.set_cons_zero, List.set_cons_succ, i64_w, i32_w]
          rfl
        refine pure_ (i := 16) (N := some 32) (v := ?_) (a' := ?_) #[true, true, true, false, true, true, true, false, true, false, false, false, true, true, true, false, true, false, false, false, false, false] rfl rfl (by kernel_rfl) (fun _ _ _ h => h) (Or.inl ⟨by kernel_rfl, ?_⟩) ?_ ?_
        rotate_left
        · intro w'
          go_simp
          with_reducible rfl
        rotate_left
        · simp only [Act.put, List.setIfInBounds_toArray, List.set_cons_zero, List.set_cons_succ, i64_w, i32_w]
          rfl
        refine take_ (i := 3) (N := some 19) (v := ?_) (a' := ?_) #[true, true, true, true, true, true, true, false, true, false, false, false, true, true, true, false, true, false, false, false, false, false] rfl rfl (by kernel_rfl) (fun _ _ _ h => h) (Or.inl ⟨by kernel_rfl, ?_⟩) hHeld ?_ ?_
        rotate_left
        · rintro w' ⟨s0_, s1_, s2_, s3_⟩
          go_simp
          with_reducible rfl
        rotate_left
        · simp only [Act.put, List.setIfInBounds_toArray, List.set_cons_zero, List.set_cons_succ, i64_w, i32_w]
          rfl
        refine take_ (i := 7) (N := some 23) (v := ?_) (a' := ?_) #[true, true, true, true, true, true, true, true, true, false, false, false, true, true, true, false, true, false, false, false, false, false] rfl rfl (by kernel_rfl) (fun _ _ _ h => h) (Or.inl ⟨by kernel_rfl, ?_⟩) hHeld ?_ ?_
        rotate_left
        · rintro w' ⟨s0_, s1_, s2_, s3_⟩
          go_simp
          with_reducible rfl
        rotate_left
        · simp only [Act.put, List.setIfInBounds_toArray, List.set_cons_zero, List.set_cons_succ, i64_w, i32_w]
          rfl
        refine pure_ (i := 9) (N := some 25) (v := ?_) (a' := ?_) #[true, true, true, true, true, true, true, true, true, true, false, false, true, true, true, false, true, false, false, false, false, false] rfl rfl (by kernel_rfl) (fun _ _ _ h => h) (Or.inl ⟨by kernel_rfl, ?_⟩) ?_ ?_
        rotate_left
        · intro w'
          go_simp
          with_reducible rfl
        rotate_left
        · simp only [Act.put, List.setIfInBounds_toArray, List.set_cons_zero, List.set_cons_succ, i64_w, i32_w]
          rfl
        refine pure_ (i := 10) (N := some 26) (v := ?_) (a' := ?_) #[true, true, true, true, true, true, true, true, true, true, true, false, true, true, true, false, true, false, false, false, false, false] rfl rfl (by kernel_rfl) (fun _ _ _ h => h) (Or.inl ⟨by kernel_rfl, ?_⟩) ?_ ?_
        rotate_left
        · intro w'
          go_simp
          with_reducible rfl
        rotate_left
        · simp only [Act.put, List.setIfInBounds_toArray, List.set_cons_zero, List.set_cons_succ, i64_w, i32_w]
          rfl
        refine take_ (i := 11) (N := some 27) (v := ?_) (a' := ?_) #[true, true, true, true, true, true, true, true, true, true, true, true, true, true, true, false, true, false, false, false, false, false] rfl rfl (by kernel_rfl) (fun _ _ _ h => h) (Or.inl ⟨by kernel_rfl, ?_⟩) hHeld ?_ ?_
        rotate_left
        · rintro w' ⟨s0_, s1_, s2_, s3_⟩
          go_simp
          with_reducible rfl
        rotate_left
        · simp only [Act.put, List.setIfInBounds_toArray, List.set_cons_zero, List.set_cons_succ, i64_w, i32_w]
          rfl
        refine take_ (i := 15) (N := some 31) (v := ?_) (a' := ?_) #[true, true, true, true, true, true, true, true, true, true, true, true, true, true, true, true, true, false, false, false, false, false] rfl rfl (by kernel_rfl) (fun _ _ _ h => h) (Or.inl ⟨by kernel_rfl, ?_⟩) hHeld ?_ ?_
        rotate_left
        · rintro w' ⟨s0_, s1_, s2_, s3_⟩
          go_simp
          with_reducible rfl
        rotate_left
        · simp only [Act.put, List.setIfInBounds_toArray, List.set_cons_zero, List.set_cons_succ, i64_w, i32_w]
          rfl
        refine pure_ (i := 17) (N := some 33) (v := ?_) (a' := ?_) #[true, true, true, true, true, true, true, true, true, true, true, true, true, true, true, true, true, true, false, false, false, false] rfl rfl (by kernel_rfl) (fun _ _ _ h => h) (Or.inl ⟨by kernel_rfl, ?_⟩) ?_ ?_
        rotate_left
        · intro w'
          go_simp
          with_reducible rfl
        rotate_left
        · simp only [Act.put, List.setIfInBounds_toArray, List.set_cons_zero, List.set_cons_succ, i64_w, i32_w]
          rfl
        refine pure_ (i := 18) (N := some 34) (v := ?_) (a' := ?_) #[true, true, true, true, true, true, true, true, true, true, true, true, true, true, true, true, true, true, true, false, false, false] rfl rfl (by kernel_rfl) (fun _ _ _ h => h) (Or.inl ⟨by kernel_rfl, ?_⟩) ?_ ?_
        rotate_left
        · intro w'
          go_simp
          with_reducible rfl
        rotate_left
        · simp only [Act.put, List.setIfInBounds_toArray, List.set_cons_zero, List.set_cons_succ, i64_w, i32_w]
          rfl
        refine take_ (i := 19) (N := some 35) (v := ?_) (a' := ?_) #[true, true, true, true, true, true, true, true, true, true, true, true, true, true, true, true, true, true, true, true, false, false] rfl rfl (by kernel_rfl) (fun _ _ _ h => h) (Or.inl ⟨by kernel_rfl, ?_⟩) hHeld ?_ ?_
        rotate_left
        · rintro w' ⟨s0_, s1_, s2_, s3_⟩
          go_simp
          with_reducible rfl
        rotate_left
        · simp only [Act.put, List.setIfInBounds_toArray, List.set_cons_zero, List.set_cons_succ, i64_w, i32_w]
          rfl
        refine pure_ (i := 20) (N := some 36) (v := ?_) (a' := ?_) #[true, true, true, true, true, true, true, true, true, true, true, true, true, true, true, true, true, true, true, true, true, false] rfl rfl (by kernel_rfl) (fun _ _ _ h => h) (Or.inl ⟨by kernel_rfl, ?_⟩) ?_ ?_
        rotate_left
        · intro w'
          go_simp
          with_reducible rfl
        rotate_left
        · simp only [Act.put, List.setIfInBounds_toArray, List.set_cons_zero, List.set_cons_succ, i64_w, i32_w]
          rfl
        refine last_ (i := 21) (N := none) #[true, true, true, true, true, true, true, true, true, true, true, true, true, true, true, true, true, true, true, true, true, true] rfl rfl (by kernel_rfl) (by decide) (fun K hK => ?_)
        have cz : wr.drew.cell? ⟨bs, x.toNat, none⟩ = some _ := cell_of (w := wr.drew) HB.out HTK.out HX.out
        have fz : wr.drew.frozen? ⟨bs, x.toNat, none⟩ = false := blk_frozen (w := wr.drew) HB.out _
        refine skip_ (w1 := ?_) (by kernel_rfl) rfl ?_ ?_
        rotate_left
        · go_simp
          rfl
        refine hK _ _ ?_
        clear hK K cz fz
        have v3 := HV2.out.set_safe x.toNat (show x.toNat < (crashT 1 (fun _ => 1) d2.row d2.safe j).length by have := HCL.out; omega) s
        simp only [← HSS.out] at v3
        have HV := Aside0.mk v3
        have F := Aside0.mk (F2.out.setCell (p := ⟨bs, x.toNat, none⟩) (.inl HSB.out) (.string s))
        clear v3 HV2 F2
        refine done_ (by kernel_rfl) ?_
        simp only [Exit.inBlock, Exit.then]
        go_wp2
        (try simp only [hwj])
        go_roundw
        case rel => exact ⟨j + 1, by first | rfl | go_num, ⟨HLT.out⟩, HV, F⟩
        case measure =>
          have := HLT.out
          show d2.row.length - (intOf (.int .i64 ((j + 1 : Nat) : Int))).toNat < d2.row.length - (intOf (.int .i64 (j : Int))).toNat
          simp only [intOf]; omega
      · obtain rfl : j = d2.row.length := by have := J.out; omega
        clear hlt
        go_wp2
        go_ret
        refine ⟨rfl, ?_, F.out.setCell (p := ⟨g, 1, none⟩) (.inl HV.out.sg) _⟩
        have e : settleD { bearsD d with safe := overF (lastOf d.row) d.safe } = { d2 with safe := crashT 1 (fun _ => 1) d2.row d2.safe d2.row.length, row := [] } := by
          rw [HD.out, crash_all 1 d2.row d2.safe _ (fun j => fate_one 1 1 j (by decide) (by decide)) (fun q hq => (HRG.out q hq).1) _ (Nat.le_refl _), List.take_length, HRW.out, HSF.out]
          rfl
        rw [e]
        exact ⟨_, _, HV.out.set_row (row' := []) (Ow.nil _ _ _ _)⟩
end Go.Proofs.Ytbdfdfahpdilpaa.Rd

/-! Layer 3, the document's disk: Crash. -/
namespace Go.Proofs.Ytbdfdfahpdilpaa.Rd
open Go Go.RowKit Go.ChangeMaps Go.Proofs.Ytbdfdfahpdilpaa.Arr Go.Proofs.Ytbdfdfahpdilpaa.Mp Go.Proofs.Ytbdfdfahpdilpaa.Ow Go.Proofs.Ytbdfdfahpdilpaa.Dk Go.Proofs.Ytbdfdfahpdilpaa.Lv Go.Proofs.YtbdfdfahpdilpaaW.PrintWords Go.Proofs.YtbdfdfahpdilpaaW.PrintLast Go.Proofs.YtbdfdfahpdilpaaW.PrintMore
set_option linter.unusedVariables false
set_option linter.unusedSimpArgs false
set_option maxHeartbeats 8000000 in
set_option maxRecDepth 20000 in
theorem rcrash_calls (d : DS) (g : Nat) (A : Option Addr) (n cp : Nat) (p : Nat → Nat) (S : Nat → Prop) (w : World) (h : RK w S g d) (ho : OkD d) (hp : Pk w S A n p) (hb : ∀ i, p i < 256) : Calls Try.prog 28 #[.pointer (some ⟨g, 0, none⟩), .slice A n cp] w fun e w' => e = .returned (.tuple #[]) ∧ RK w' S g (crashD n p d) ∧ FS S w w' := by
  obtain ⟨sv, rv, hv⟩ := h
  obtain ⟨A0, c, rfl, -⟩ := hv.safe.shape
  obtain ⟨A1, c1_, rfl, -⟩ := hv.row.shape
  have HV := Aside0.mk (show RV w S g { d with safe := crashT n p d.row d.safe 0 } (.slice A0 d.safe.length c) (.slice A1 d.row.length c1_) from hv); have HO := Aside0.mk ho; have HP := Aside0.mk hp; clear hv ho hp
  go_enter Try.func28, Try.ntmps28
  go_upto_region 1 with (fail)
  go_loopw [4] (fun v wr => ∃ j : Nat, v = .int .i64 j ∧ Aside0 (j ≤ d.row.length) ∧ Aside0 (RV wr S g { d with safe := crashT n p d.row d.safe j } (.slice A0 d.safe.length c) (.slice A1 d.row.length c1_)) ∧ Aside0 (FS S w wr) ∧ Aside0 (∀ ad, A = some ad → 0 < n → wr.heap[ad.block]? = w.heap[ad.block]?)) (fun v _ => d.row.length - (intOf v).toNat)
  case atStart => exact ⟨0, rfl, ⟨Nat.zero_le _⟩, HV, ⟨FS.refl _ _⟩, ⟨fun _ _ _ => rfl⟩⟩
  case round =>
    clear HV
    obtain ⟨j, rfl, J, HV, F, HE⟩ := hrel
    obtain ⟨⟨c0, c1, c2, c3⟩, fr_⟩ := HV.out.cells; have f0 := fr_ 0; have f1 := fr_ 1; have f2 := fr_ 2; have f3 := fr_ 3; clear fr_
    by_cases hlt : j < d.row.length
    · have h1 : (j : Int) < (d.row.length : Int) := by omega
      have h0 : (0 : Int) ≤ (j : Int) := by omega
      have hwj : wrap64 ((j : Int) + 1) = ((j + 1 : Nat) : Int) := by have := HO.out.1; unfold wrap64; omega
      obtain ⟨q, hq⟩ : ∃ q, d.row[j]? = some q := ⟨_, List.getElem?_eq_getElem hlt⟩
      have hrg := HO.out.2.2.2.2 _ (List.mem_of_getElem? hq)
      obtain ⟨k, s⟩ := q
      have hk0 : 0 ≤ k := hrg.1
      have hk1 : k < (d.safe.length : Int) := hrg.2
      have HQ := Aside0.mk hq; have HLT := Aside0.mk hlt
      obtain ⟨rb, rfl, -, r0, r1⟩ := wv_elem HV.out.row HQ.out HLT.out
      clear hrg hq hlt
      obtain ⟨fq, hfq⟩ : ∃ fq, fq = fateN n p j := ⟨_, rfl⟩
      have HS1 := Aside0.mk (crashT_succ (n := n) (p := p) (safe := d.safe) HQ.out)
      have HFQ := Aside0.mk hfq; clear hfq
      have pre : fq = 0 ∨ fq = 1 ∨ fq = 2 := by have := HFQ.out; unfold fateN at this; split at this <;> omega
      by_cases n0 : 0 < n
      · have t0 : decide ((0 : Int) < (n : Int)) = true := decide_eq_true (by omega)
        have t0' : decide (0 < n) = true := decide_eq_true n0
        obtain ⟨ad, rfl, hcl, hap⟩ := HP.out n0
        have hjn : j % n < n := Nat.mod_lt _ n0
        have cp_ : wr.cell? (ad.add (j % n)) = some (.int .u8 (p (j % n) : Int)) := by
          rw [← hcl _ hjn]
          exact World.cell?_of_block (w := w) (by rw [Go.Proofs.Ytbdfdfahpdilpaa.Dk.add_block]; exact HE.out ad rfl n0)
        have hf3 : p (j % n) % 3 = fq := by have := HFQ.out; unfold fateN at this; rw [if_neg (by omega)] at this; exact this.symm
        have HAP := Aside0.mk hap; have HF3 := Aside0.mk hf3; clear hf3; have HPRE := Aside0.mk pre; have HN0 := Aside0.mk n0
        have hz : ((n : Int) == 0) = false := by simp; omega
        have hmod : (j : Int) % (n : Int) = ((j % n : Nat) : Int) := by simp
        have hmn : (j : Int) % (n : Int) < (n : Int) := by rw [hmod]; omega
        have hm0 : (0 : Int) ≤ (j : Int) % (n : Int) := by rw [hmod]; omega
        have hmt : ((j : Int) % (n : Int)).toNat = j % n := by rw [hmod]; omega
        have hfv : (wrap64 ((p (j % n) : Nat) : Int)).tmod 3 = (fq : Int) := by
          have h1 := hb (j % n)
          rw [show wrap64 ((p (j % n) : Nat) : Int) = ((p (j % n) : Nat) : Int) by unfold wrap64; omega, Int.tmod_eq_emod_of_nonneg (by omega), ← HF3.out]
          simp
        clear hmod hcl hap pre n0 hjn
        go_upto_region 6 with (fail)
        (try simp only [hfv])
        have hs1 := HS1.out
        rw [← HFQ.out] at hs1
        clear HS1 HFQ HF3 hfv t0 t0' cp_ hz hmn hm0 hmt
        rcases HPRE.out with rfl | rfl | rfl
        · have HS2 := Aside0.mk (show crashT n p d.row d.safe (j + 1) = crashT n p d.row d.safe j from hs1)
          clear hs1
          go_wp2
          (try simp only [hwj])
          go_roundw
          case measure =>
            have := HLT.out
            simp only [intOf]; omega
          case rel => exact ⟨j + 1, by first | rfl | go_num, ⟨HLT.out⟩, ⟨by rw [HS2.out]; exact HV.out⟩, F, HE⟩
        ·
          have HS2 := Aside0.mk (show crashT n p d.row d.safe (j + 1) = (crashT n p d.row d.safe j).set k.toNat s from hs1)
          clear hs1
          have hl1 := crashT_length n p d.row d.safe j
          go_upto_region 7 with (fail)
          have HV2 := Aside0.mk HV.out.drew; have F2 := Aside0.mk F.out.drew
          clear c0 c1 c2 c3 f0 f1 f2 f3
          obtain ⟨bs, cc, cur, hsv, hSb, hbs, -, -, -, htk⟩ := HV2.out.safe.open (show 0 < (crashT n p d.row d.safe j).length by omega)
          have hsv2 := hsv
          injection hsv2 with e5 e6 e7
          subst e5
          subst e7
          clear hsv e6
          obtain ⟨ux, hux⟩ : ∃ u, ((crashT n p d.row d.safe j).map Value.string)[k.toNat]? = some u := ⟨_, List.getElem?_eq_getElem (by simp only [List.length_map, hl1]; omega)⟩
          have z0 : wr.drew.cell? ⟨g, 0, none⟩ = some (.slice (some ⟨bs, 0, none⟩) d.safe.length c) := HV2.out.cells.1.1
          have z1 : wr.drew.cell? ⟨g, 1, none⟩ = some (.slice (some ⟨rb, 0, none⟩) d.row.length c1_) := HV2.out.cells.1.2.1
          have y0 : wr.drew.cell? ⟨rb, j * 2, none⟩ = some (.int .i64 k) := r0
          have y1 : wr.drew.cell? ⟨rb, j * 2 + 1, none⟩ = some (.string s) := r1
          clear r0 r1
          have HNE := Aside0.mk (show ad.block ≠ bs from fun e => by
            rcases HAP.out with h | ⟨cs, fr, h⟩
            · exact h (e ▸ hSb)
            · have h2 := (HE.out ad rfl HN0.out).trans h
              exact blk_ne (w := wr.drew) h2 hbs (by decide) e)
          have HB := Aside0.mk hbs; have HTK := Aside0.mk htk; have HX := Aside0.mk hux; have HSB := Aside0.mk hSb; have HCL := Aside0.mk hl1
          clear hbs htk hux hSb hl1 HV F
          refine start_ (n := 22) (S := fun w' => w'.cell? ⟨g, 0, none⟩ = some (.slice (some ⟨bs, 0, none⟩) d.safe.length c) ∧ w'.cell? ⟨g, 1, none⟩ = some (.slice (some ⟨rb, 0, none⟩) d.row.length c1_) ∧ w'.cell? ⟨rb, j * 2, none⟩ = some (.int .i64 k) ∧ w'.cell? ⟨rb, j * 2 + 1, none⟩ = some (.string s)) (ds := [21]) #[false, false, false, false, false, false, false, false, false, false, false, false, false, false, false, false, false, false, false, false, false, false] (by kernel_rfl) rfl rfl ⟨z0, z1, y0, y1⟩ (fun hHeld => ?_)
          refine pure_ (i := 0) (N := some 29) (v := ?_) (a' := ?_) #[true, false, false, false, false, false, false, false, false, false, false, false, false, false, false, false, false, false, false, false, false, false] rfl rfl (by kernel_rfl) (fun _ _ _ h => h) (Or.inl ⟨by kernel_rfl, ?_⟩) ?_ ?_
          rotate_left
          · intro w'
            go_simp
            with_reducible rfl
          rotate_left
          · simp only [Act.put, List.setIfInBounds_toArray, List.set_cons_zero, List.set_cons_succ, i64_w, i32_w]
            rfl
          refine pure_ (i := 1) (N := some 30) (v := ?_) (a' := ?_) #[true, true, false, false, false, false, false, false, false, false, false, false, false, false, false, false, false, false, false, false, false, false] rfl rfl (by kernel_rfl) (fun _ _ _ h => h) (Or.inl ⟨by kernel_rfl, ?_⟩) ?_ ?_
          rotate_left
          · intro w'
            go_simp
            with_reducible rfl
          rotate_left
          · simp only [Act.put, List.setIfInBounds_toArray, List.set_cons_zero, List.set_cons_succ, i64_w, i32_w]
            rfl
          refine pure_ (i := 2) (N := some 31) (v := ?_) (a' := ?_) #[true, true, true, false, false, false, false, false, false, false, false, false, false, false, false, false, false, false, false, false, false, false] rfl rfl (by kernel_rfl) (fun _ _ _ h => h) (Or.inl ⟨by kernel_rfl, ?_⟩) ?_ ?_
          rotate_left
          · intro w'
            go_simp
            with_reducible rfl
          rotate_left
          · simp only [Act.put, List.setIfInBounds_toArray, List.set_cons_zero, List.set_cons_succ, i64_w, i32_w]
            rfl
          refine pure_ (i := 4) (N := some 33) (v := ?_) (a' := ?_) #[true, true, true, false, true, false, false, false, false, false, false, false, false, false, false, false, false, false, false, false, false, false] rfl rfl (by kernel_rfl) (fun _ _ _ h => h) (Or.inl ⟨by kernel_rfl, ?_⟩) ?_ ?_
          rotate_left
          · intro w'
            go_simp
            with_reducible rfl
          rotate_left
          · simp only [Act.put, List.setIfInBounds_toArray, List.set_cons_zero, List.set_cons_succ, i64_w, i32_w]
            rfl
          refine pure_ (i := 5) (N := some 34) (v := ?_) (a' := ?_) #[true, true, true, false, true, true, false, false, false, false, false, false, false, false, false, false, false, false, false, false, false, false] rfl rfl (by kernel_rfl) (fun _ _ _ h => h) (Or.inl ⟨by kernel_rfl, ?_⟩) ?_ ?_
          rotate_left
          · intro w'
            go_simp
            with_reducible rfl
          rotate_left
          · simp only [Act.put, List.setIfInBounds_toArray, List.set_cons_zero, List.set_cons_succ, i64_w, i32_w]
            rfl
          refine pure_ (i := 6) (N := some 35) (v := ?_) (a' := ?_) #[true, true, true, false, true, true, true, false, false, false, false, false, false, false, false, false, false, false, false, false, false, false] rfl rfl (by kernel_rfl) (fun _ _ _ h => h) (Or.inl ⟨by kernel_rfl, ?_⟩) ?_ ?_
          rotate_left
          · intro w'
            go_simp
            with_reducible rfl
          rotate_left
          · simp only [Act.put, List.setIfInBounds_toArray, List.set_cons_zero, List.set_cons_succ, i64_w, i32_w]
            rfl
          refine pure_ (i := 8) (N := some 37) (v := ?_) (a' := ?_) #[true, true, true, false, true, true, true, false, true, false, false, false, false, false, false, false, false, false, false, false, false, false] rfl rfl (by kernel_rfl) (fun _ _ _ h => h) (Or.inl ⟨by kernel_rfl, ?_⟩) ?_ ?_
          rotate_left
          · intro w'
            go_simp
            with_reducible rfl
          rotate_left
          · simp only [Act.put, List.setIfInBounds_toArray, List.set_cons_zero, List.set_cons_succ, i64_w, i32_w]
            rfl
          refine pure_ (i := 12) (N := some 41) (v := ?_) (a' := ?_) #[true, true, true, false, true, true, true, false, true, false, false, false, true, false, false, false, false, false, false, false, false, false] rfl rfl (by kernel_rfl) (fun _ _ _ h => h) (Or.inl ⟨by kernel_rfl, ?_⟩) ?_ ?_
          rotate_left
          · intro w'
            go_simp
            with_reducible rfl
          rotate_left
          · simp only [Act.put, List.setIfInBounds_toArray, List.set_cons_zero, List.set_cons_succ, i64_w, i32_w]
            rfl
          refine pure_ (i := 13) (N := some 42) (v := ?_) (a' := ?_) #[true, true, true, false, true, true, true, false, true, false, false, false, true, true, false, false, false, false, false, false, false, false] rfl rfl (by kernel_rfl) (fun _ _ _ h => h) (Or.inl ⟨by kernel_rfl, ?_⟩) ?_ ?_
          rotate_left
          · intro w'
            go_simp
            with_reducible rfl
          rotate_left
          · simp only [Act.put, List.setIfInBounds_toArray, List.set_cons_zero, List.set_cons_succ, i64_w, i32_w]
            rfl
          refine pure_ (i := 14) (N := some 43) (v := ?_) (a' := ?_) #[true, true, true, false, true, true, true, false, true, false, false, false, true, true, true, false, false, false, false, false, false, false] rfl rfl (by kernel_rfl) (fun _ _ _ h => h) (Or.inl ⟨by kernel_rfl, ?_⟩) ?_ ?_
          rotate_left
          · intro w'
            go_simp
            with_reducible rfl
          rotate_left
          · simp only [Act.put, List.setIfInBounds_toArray, List.set_cons_zero, List.set_cons_succ, i64_w, i32_w]
            rfl
          refine pure_ (i := 16) (N := some 45) (v := ?_) (a' := ?_) #[true, true, true, false, true, true, true, false, true, false, false, false, true, true, true, false, true, false, false, false, false, false] rfl rfl (by kernel_rfl) (fun _ _ _ h => h) (Or.inl ⟨by kernel_rfl, ?_⟩) ?_ ?_
          rotate_left
          · intro w'
            go_simp
            with_reducible rfl
          rotate_left
          · simp only [Act.put, List.setIfInBounds_toArray, List.set_cons_zero, List.set_cons_succ, i64_w, i32_w]
            rfl
          refine take_ (i := 3) (N := some 32) (v := ?_) (a' := ?_) #[true, true, true, true, true, true, true, false, true, false, false, false, true, true, true, false, true, false, false, false, false, false] rfl rfl (by kernel_rfl) (fun _ _ _ h => h) (Or.inl ⟨by kernel_rfl, ?_⟩) hHeld ?_ ?_
          rotate_left
          · rintro w' ⟨s0_, s1_, s2_, s3_⟩
            go_simp
            with_reducible rfl
          rotate_left
          · simp only [Act.put, List.setIfInBounds_toArray, List.set_cons_zero, List.set_cons_succ, i64_w, i32_w]
            rfl
          refine take_ (i := 7) (N := some 36) (v := ?_) (a' := ?_) #[true, true, true, true, true, true, true, true, true, false, false, false, true, true, true, false, true, false, false, false, false, false] rfl rfl (by kernel_rfl) (fun _ _ _ h => h) (Or.inl ⟨by kernel_rfl, ?_⟩) hHeld ?_ ?_
          rotate_left
          · rintro w' ⟨s0_, s1_, s2_, s3_⟩
            go_simp
            with_reducible rfl
          rotate_left
          · simp only [Act.put, List.setIfInBounds_toArray, List.set_cons_zero, List.set_cons_succ, i64_w, i32_w]
            rfl
          refine pure_ (i := 9) (N := some 38) (v := ?_) (a' := ?_) #[true, true, true, true, true, true, true, true, true, true, false, false, true, true, true, false, true, false, false, false, false, false] rfl rfl (by kernel_rfl) (fun _ _ _ h => h) (Or.inl ⟨by kernel_rfl, ?_⟩) ?_ ?_
          rotate_left
          · intro w'
            go_simp
            with_reducible rfl
          rotate_left
          · simp only [Act.put, List.setIfInBounds_toArray, List.set_cons_zero, List.set_cons_succ, i64_w, i32_w]
            rfl
          refine pure_ (i := 10) (N := some 39) (v := ?_) (a' := ?_) #[true, true, true, true, true, true, true, true, true, true, true, false, true, true, true, false, true, false, false, false, false, false] rfl rfl (by kernel_rfl) (fun _ _ _ h => h) (Or.inl ⟨by kernel_rfl, ?_⟩) ?_ ?_
          rotate_left
          · intro w'
            go_simp
            with_reducible rfl
          rotate_left
          · simp only [Act.put, List.setIfInBounds_toArray, List.set_cons_zero, List.set_cons_succ, i64_w, i32_w]
            rfl
          refine take_ (i := 11) (N := some 40) (v := ?_) (a' := ?_) #[true, true, true, true, true, true, true, true, true, true, true, true, true, true, true, false, true, false, false, false, false, false] rfl rfl (by kernel_rfl) (fun _ _ _ h => h) (Or.inl ⟨by kernel_rfl, ?_⟩) hHeld ?_ ?_
          rotate_left
          · rintro w' ⟨s0_, s1_, s2_, s3_⟩
            go_simp
            with_reducible rfl
          rotate_left
          · simp only [Act.put, List.setIfInBounds_toArray, List.set_cons_zero, List.set_cons_succ, i64_w, i32_w]
            rfl
          refine take_ (i := 15) (N := some 44) (v := ?_) (a' := ?_) #[true, true, true, true, true, true, true, true, true, true, true, true, true, true, true, true, true, false, false, false, false, false] rfl rfl (by kernel_rfl) (fun _ _ _ h => h) (Or.inl ⟨by kernel_rfl, ?_⟩) hHeld ?_ ?_
          rotate_left
          · rintro w' ⟨s0_, s1_, s2_, s3_⟩
            go_simp
            with_reducible rfl
          rotate_left
          · simp only [Act.put, List.setIfInBounds_toArray, List.set_cons_zero, List.set_cons_succ, i64_w, i32_w]
            rfl
          refine pure_ (i := 17) (N := some 46) (v := ?_) (a' := ?_) #[true, true, true, true, true, true, true, true, true, true, true, true, true, true, true, true, true, true, false, false, false, false] rfl rfl (by kernel_rfl) (fun _ _ _ h => h) (Or.inl ⟨by kernel_rfl, ?_⟩) ?_ ?_
          rotate_left
          · intro w'
            go_simp
            with_reducible rfl
          rotate_left
          · simp only [Act.put, List.setIfInBounds_toArray, List.set_cons_zero, List.set_cons_succ, i64_w, i32_w]
            rfl
          refine pure_ (i := 18) (N := some 47) (v := ?_) (a' := ?_) #[true, true, true, true, true, true, true, true, true, true, true, true, true, true, true, true, true, true, true, false, false, false] rfl rfl (by kernel_rfl) (fun _ _ _ h => h) (Or.inl ⟨by kernel_rfl, ?_⟩) ?_ ?_
          rotate_left
          · intro w'
            go_simp
            with_reducible rfl
          rotate_left
          · simp only [Act.put, List.setIfInBounds_toArray, List.set_cons_zero, List.set_cons_succ, i64_w, i32_w]
            rfl
          refine take_ (i := 19) (N := some 48) (v := ?_) (a' := ?_) #[true, true, true, true, true, true, true, true, true, true, true, true, true, true, true, true, true, true, true, true, false, false] rfl rfl (by kernel_rfl) (fun _ _ _ h => h) (Or.inl ⟨by kernel_rfl, ?_⟩) hHeld ?_ ?_
          rotate_left
          · rintro w' ⟨s0_, s1_, s2_, s3_⟩
            go_simp
            with_reducible rfl
          rotate_left
          · simp only [Act.put, List.setIfInBounds_toArray, List.set_cons_zero, List.set_cons_succ, i64_w, i32_w]
            rfl
          refine pure_ (i := 20) (N := some 49) (v := ?_) (a' := ?_) #[true, true, true, true, true, true, true, true, true, true, true, true, true, true, true, true, true, true, true, true, true, false] rfl rfl (by kernel_rfl) (fun _ _ _ h => h) (Or.inl ⟨by kernel_rfl, ?_⟩) ?_ ?_
          rotate_left
          · intro w'
            go_simp
            with_reducible rfl
          rotate_left
          · simp only [Act.put, List.setIfInBounds_toArray, List.set_cons_zero, List.set_cons_succ, i64_w, i32_w]
            rfl
          refine last_ (i := 21) (N := none) #[true, true, true, true, true, true, true, true, true, true, true, true, true, true, true, true, true, true, true, true, true, true] rfl rfl (by kernel_rfl) (by decide) (fun K hK => ?_)
          have cz : wr.drew.cell? ⟨bs, k.toNat, none⟩ = some _ := cell_of (w := wr.drew) HB.out HTK.out HX.out
          have fz : wr.drew.frozen? ⟨bs, k.toNat, none⟩ = false := blk_frozen (w := wr.drew) HB.out _
          refine skip_ (w1 := ?_) (by kernel_rfl) rfl ?_ ?_
          rotate_left
          · go_simp
            rfl
          refine hK _ _ ?_
          clear hK K cz fz
          have v3 := HV2.out.set_safe k.toNat (show k.toNat < (crashT n p d.row d.safe j).length by have := HCL.out; omega) s
          simp only [← HS2.out] at v3
          have HV4 := Aside0.mk v3
          have F4 := Aside0.mk (F2.out.setCell (p := ⟨bs, k.toNat, none⟩) (.inl HSB.out) (.string s))
          have HE4 := Aside0.mk (show ∀ ad', some ad = some ad' → 0 < n → (wr.drew.setCell ⟨bs, k.toNat, none⟩ (.string s)).heap[ad'.block]? = w.heap[ad'.block]? from fun ad' ha hn => by
            injection ha with ha
            subst ha
            exact (Below.heap_setCell wr.drew ⟨bs, k.toNat, none⟩ (.string s) ad.block HNE.out).trans (HE.out ad rfl hn))
          clear v3 HV2 F2
          refine done_ (by kernel_rfl) ?_
          simp only [Exit.inBlock, Exit.then]
          go_wp2
          (try simp only [hwj])
          go_roundw
          case measure =>
            have := HLT.out
            show d.row.length - (intOf (.int .i64 ((j + 1 : Nat) : Int))).toNat < d.row.length - (intOf (.int .i64 (j : Int))).toNat
            simp only [intOf]; omega
          case rel => exact ⟨j + 1, by first | rfl | go_num, ⟨HLT.out⟩, HV4, F4, HE4⟩
        ·
          have HS2 := Aside0.mk (show crashT n p d.row d.safe (j + 1) = (crashT n p d.row d.safe j).set k.toNat (noughts 128) from hs1)
          clear hs1
          have hl1 := crashT_length n p d.row d.safe j
          go_upto_region 9 with (fail)
          have HV2 := Aside0.mk HV.out.drew; have F2 := Aside0.mk F.out.drew
          clear c0 c1 c2 c3 f0 f1 f2 f3
          obtain ⟨bs, cc, cur, hsv, hSb, hbs, -, -, -, htk⟩ := HV2.out.safe.open (show 0 < (crashT n p d.row d.safe j).length by omega)
          have hsv2 := hsv
          injection hsv2 with e5 e6 e7
          subst e5
          subst e7
          clear hsv e6
          obtain ⟨ux, hux⟩ : ∃ u, ((crashT n p d.row d.safe j).map Value.string)[k.toNat]? = some u := ⟨_, List.getElem?_eq_getElem (by simp only [List.length_map, hl1]; omega)⟩
          have z0 : wr.drew.cell? ⟨g, 0, none⟩ = some (.slice (some ⟨bs, 0, none⟩) d.safe.length c) := HV2.out.cells.1.1
          have z1 : wr.drew.cell? ⟨g, 1, none⟩ = some (.slice (some ⟨rb, 0, none⟩) d.row.length c1_) := HV2.out.cells.1.2.1
          have y0 : wr.drew.cell? ⟨rb, j * 2, none⟩ = some (.int .i64 k) := r0
          have y1 : wr.drew.cell? ⟨rb, j * 2 + 1, none⟩ = some (.string s) := r1
          clear r0 r1
          have HNE := Aside0.mk (show ad.block ≠ bs from fun e => by
            rcases HAP.out with h | ⟨cs, fr, h⟩
            · exact h (e ▸ hSb)
            · have h2 := (HE.out ad rfl HN0.out).trans h
              exact blk_ne (w := wr.drew) h2 hbs (by decide) e)
          have HB := Aside0.mk hbs; have HTK := Aside0.mk htk; have HX := Aside0.mk hux; have HSB := Aside0.mk hSb; have HCL := Aside0.mk hl1
          clear hbs htk hux hSb hl1 HV F
          refine start_ (n := 15) (S := fun w' => w'.cell? ⟨g, 0, none⟩ = some (.slice (some ⟨bs, 0, none⟩) d.safe.length c) ∧ w'.cell? ⟨g, 1, none⟩ = some (.slice (some ⟨rb, 0, none⟩) d.row.length c1_) ∧ w'.cell? ⟨rb, j * 2, none⟩ = some (.int .i64 k)) (ds := [14]) #[false, false, false, false, false, false, false, false, false, false, false, false, false, false, false] (by kernel_rfl) rfl rfl ⟨z0, z1, y0⟩ (fun hHeld => ?_)
          refine pure_ (i := 0) (N := some 52) (v := ?_) (a' := ?_) #[true, false, false, false, false, false, false, false, false, false, false, false, false, false, false] rfl rfl (by kernel_rfl) (fun _ _ _ h => h) (Or.inl ⟨by kernel_rfl, ?_⟩) ?_ ?_
          rotate_left
          · intro w'
            go_simp
            with_reducible rfl
          rotate_left
          · simp only [Act.put, List.setIfInBounds_toArray, List.set_cons_zero, List.set_cons_succ, i64_w, i32_w]
            rfl
          refine pure_ (i := 1) (N := some 53) (v := ?_) (a' := ?_) #[true, true, false, false, false, false, false, false, false, false, false, false, false, false, false] rfl rfl (by kernel_rfl) (fun _ _ _ h => h) (Or.inl ⟨by kernel_rfl, ?_⟩) ?_ ?_
          rotate_left
          · intro w'
            go_simp
            with_reducible rfl
          rotate_left
          · simp only [Act.put, List.setIfInBounds_toArray, List.set_cons_zero, List.set_cons_succ, i64_w, i32_w]
            rfl
          refine pure_ (i := 2) (N := some 54) (v := ?_) (a' := ?_) #[true, true, true, false, false, false, false, false, false, false, false, false, false, false, false] rfl rfl (by kernel_rfl) (fun _ _ _ h => h) (Or.inl ⟨by kernel_rfl, ?_⟩) ?_ ?_
          rotate_left
          · intro w'
            go_simp
            with_reducible rfl
          rotate_left
          · simp only [Act.put, List.setIfInBounds_toArray, List.set_cons_zero, List.set_cons_succ, i64_w, i32_w]
            rfl
          refine pure_ (i := 4) (N := some 56) (v := ?_) (a' := ?_) #[true, true, true, false, true, false, false, false, false, false, false, false, false, false, false] rfl rfl (by kernel_rfl) (fun _ _ _ h => h) (Or.inl ⟨by kernel_rfl, ?_⟩) ?_ ?_
          rotate_left
          · intro w'
            go_simp
            with_reducible rfl
          rotate_left
          · simp only [Act.put, List.setIfInBounds_toArray, List.set_cons_zero, List.set_cons_succ, i64_w, i32_w]
            rfl
          refine pure_ (i := 5) (N := some 57) (v := ?_) (a' := ?_) #[true, true, true, false, true, true, false, false, false, false, false, false, false, false, false] rfl rfl (by kernel_rfl) (fun _ _ _ h => h) (Or.inl ⟨by kernel_rfl, ?_⟩) ?_ ?_
          rotate_left
          · intro w'
            go_simp
            with_reducible rfl
          rotate_left
          · simp only [Act.put, List.setIfInBounds_toArray, List.set_cons_zero, List.set_cons_succ, i64_w, i32_w]
            rfl
          refine pure_ (i := 6) (N := some 58) (v := ?_) (a' := ?_) #[true, true, true, false, true, true, true, false, false, false, false, false, false, false, false] rfl rfl (by kernel_rfl) (fun _ _ _ h => h) (Or.inl ⟨by kernel_rfl, ?_⟩) ?_ ?_
          rotate_left
          · intro w'
            go_simp
            with_reducible rfl
          rotate_left
          · simp only [Act.put, List.setIfInBounds_toArray, List.set_cons_zero, List.set_cons_succ, i64_w, i32_w]
            rfl
          refine pure_ (i := 8) (N := some 60) (v := ?_) (a' := ?_) #[true, true, true, false, true, true, true, false, true, false, false, false, false, false, false] rfl rfl (by kernel_rfl) (fun _ _ _ h => h) (Or.inl ⟨by kernel_rfl, ?_⟩) ?_ ?_
          rotate_left
          · intro w'
            go_simp
            with_reducible rfl
          rotate_left
          · simp only [Act.put, List.setIfInBounds_toArray, List.set_cons_zero, List.set_cons_succ, i64_w, i32_w]
            rfl
          refine take_ (i := 3) (N := some 55) (v := ?_) (a' := ?_) #[true, true, true, true, true, true, true, false, true, false, false, false, false, false, false] rfl rfl (by kernel_rfl) (fun _ _ _ h => h) (Or.inl ⟨by kernel_rfl, ?_⟩) hHeld ?_ ?_
          rotate_left
          · rintro w' ⟨s0_, s1_, s2_⟩
            go_simp
            with_reducible rfl
          rotate_left
          · simp only [Act.put, List.setIfInBounds_toArray, List.set_cons_zero, List.set_cons_succ, i64_w, i32_w]
            rfl
          refine take_ (i := 7) (N := some 59) (v := ?_) (a' := ?_) #[true, true, true, true, true, true, true, true, true, false, false, false, false, false, false] rfl rfl (by kernel_rfl) (fun _ _ _ h => h) (Or.inl ⟨by kernel_rfl, ?_⟩) hHeld ?_ ?_
          rotate_left
          · rintro w' ⟨s0_, s1_, s2_⟩
            go_simp
            with_reducible rfl
          rotate_left
          · simp only [Act.put, List.setIfInBounds_toArray, List.set_cons_zero, List.set_cons_succ, i64_w, i32_w]
            rfl
          refine pure_ (i := 9) (N := some 61) (v := ?_) (a' := ?_) #[true, true, true, true, true, true, true, true, true, true, false, false, false, false, false] rfl rfl (by kernel_rfl) (fun _ _ _ h => h) (Or.inl ⟨by kernel_rfl, ?_⟩) ?_ ?_
          rotate_left
          · intro w'
            go_simp
            with_reducible rfl
          rotate_left
          · simp only [Act.put, List.setIfInBounds_toArray, List.set_cons_zero, List.set_cons_succ, i64_w, i32_w]
            rfl
          refine pure_ (i := 10) (N := some 62) (v := ?_) (a' := ?_) #[true, true, true, true, true, true, true, true, true, true, true, false, false, false, false] rfl rfl (by kernel_rfl) (fun _ _ _ h => h) (Or.inl ⟨by kernel_rfl, ?_⟩) ?_ ?_
          rotate_left
          · intro w'
            go_simp
            with_reducible rfl
          rotate_left
          · simp only [Act.put, List.setIfInBounds_toArray, List.set_cons_zero, List.set_cons_succ, i64_w, i32_w]
            rfl
          refine take_ (i := 11) (N := some 63) (v := ?_) (a' := ?_) #[true, true, true, true, true, true, true, true, true, true, true, true, false, false, false] rfl rfl (by kernel_rfl) (fun _ _ _ h => h) (Or.inl ⟨by kernel_rfl, ?_⟩) hHeld ?_ ?_
          rotate_left
          · rintro w' ⟨s0_, s1_, s2_⟩
            go_simp
            with_reducible rfl
          rotate_left
          · simp only [Act.put, List.setIfInBounds_toArray, List.set_cons_zero, List.set_cons_succ, i64_w, i32_w]
            rfl
          refine one_ (i := 12) (N := some 64) #[true, true, true, true, true, true, true, true, true, true, true, true, true, false, false] rfl rfl (by kernel_rfl) (by decide) (fun K hK => ?_)
          refine goes_ Try.func46 (by kernel_rfl) rfl #[] (by rfl) rfl rfl (by (try simp only [List.map_toArray, List.map_cons, List.map_nil]); first | done | rfl) ?_
          refine (rzero_calls _).mono ?_
          rintro e v1_ ⟨rfl, hb1⟩
          refine ⟨_, rfl, ?_⟩
          have b_ := (hb1.block bs (blk_lt HB.out)).trans HB.out
          have HB3 := Aside0.mk b_
          have HV3 := Aside0.mk (HV2.out.below hb1)
          have F3 := Aside0.mk (F2.out.below hb1)
          have HE3 := Aside0.mk (show ∀ ad', some ad = some ad' → 0 < n → v1_.heap[ad'.block]? = w.heap[ad'.block]? from fun ad' ha hn => by
            injection ha with ha
            subst ha
            obtain ⟨ad2, ha2, hcl2, _⟩ := HP.out hn
            injection ha2 with ha2
            subst ha2
            exact (hb1.block ad.block (Nat.lt_of_lt_of_le (Pk.lt hn hcl2) F2.out.size)).trans (HE.out ad rfl hn))
          refine hK _ _ (And.intro (pw_cell_below hb1 hHeld.1) (And.intro (pw_cell_below hb1 hHeld.2.1) (pw_cell_below hb1 hHeld.2.2))) (fun hHeld => ?_)
          clear hK K hb1 b_
          refine norm_ (a' := ?_) ?_ ?_
          rotate_left
          · show Act.put _ (some 64) _ = _
            simp only [Act.put, List.setIfInBounds_toArray, List.set_cons_zero, List.set_cons_succ, i64_w, i32_w]
            rfl
          refine pure_ (i := 13) (N := some 65) (v := ?_) (a' := ?_) #[true, true, true, true, true, true, true, true, true, true, true, true, true, true, false] rfl rfl (by kernel_rfl) (fun _ _ _ h => h) (Or.inl ⟨by kernel_rfl, ?_⟩) ?_ ?_
          rotate_left
          · intro w'
            go_simp
            with_reducible rfl
          rotate_left
          · simp only [Act.put, List.setIfInBounds_toArray, List.set_cons_zero, List.set_cons_succ, i64_w, i32_w]
            rfl
          refine last_ (i := 14) (N := none) #[true, true, true, true, true, true, true, true, true, true, true, true, true, true, true] rfl rfl (by kernel_rfl) (by decide) (fun K hK => ?_)
          have cz : v1_.cell? ⟨bs, k.toNat, none⟩ = some _ := cell_of (w := v1_) HB3.out HTK.out HX.out
          have fz : v1_.frozen? ⟨bs, k.toNat, none⟩ = false := blk_frozen (w := v1_) HB3.out _
          refine skip_ (w1 := ?_) (by kernel_rfl) rfl ?_ ?_
          rotate_left
          · go_simp
            rfl
          refine hK _ _ ?_
          clear hK K cz fz
          have v3 := HV3.out.set_safe k.toNat (show k.toNat < (crashT n p d.row d.safe j).length by have := HCL.out; omega) (noughts 128)
          simp only [← HS2.out] at v3
          have HV4 := Aside0.mk v3
          have F4 := Aside0.mk (F3.out.setCell (p := ⟨bs, k.toNat, none⟩) (.inl HSB.out) (.string (noughts 128)))
          have HE4 := Aside0.mk (show ∀ ad', some ad = some ad' → 0 < n → (v1_.setCell ⟨bs, k.toNat, none⟩ (.string (noughts 128))).heap[ad'.block]? = w.heap[ad'.block]? from fun ad' ha hn => by
            injection ha with ha
            subst ha
            exact (Below.heap_setCell v1_ ⟨bs, k.toNat, none⟩ (.string (noughts 128)) ad.block HNE.out).trans (HE3.out ad rfl hn))
          clear v3
          refine done_ (by kernel_rfl) ?_
          simp only [Exit.inBlock, Exit.then]
          go_wp2
          (try simp only [hwj])
          go_roundw
          case measure =>
            have := HLT.out
            show d.row.length - (intOf (.int .i64 ((j + 1 : Nat) : Int))).toNat < d.row.length - (intOf (.int .i64 (j : Int))).toNat
            simp only [intOf]; omega
          case rel => exact ⟨j + 1, by first | rfl | go_num, ⟨HLT.out⟩, HV4, F4, HE4⟩
      · have hn : n = 0 := by omega
        have t0 : decide ((0 : Int) < (n : Int)) = false := decide_eq_false (by omega)
        have t0' : decide (0 < n) = false := decide_eq_false n0
        have h0_ : fq = 0 := by have := HFQ.out; unfold fateN at this; rw [if_pos hn] at this; exact this
        have hs1 := HS1.out
        rw [← HFQ.out, h0_] at hs1
        have hs2 : crashT n p d.row d.safe (j + 1) = crashT n p d.row d.safe j := hs1
        have HS2 := Aside0.mk hs2
        clear hs1 hs2 h0_ pre n0 hn HS1 HFQ
        go_wp2
        (try simp only [hwj])
        go_roundw
        case measure =>
          have := HLT.out
          simp only [intOf]; omega
        case rel => exact ⟨j + 1, by first | rfl | go_num, ⟨HLT.out⟩, ⟨by rw [HS2.out]; exact HV.out⟩, F, HE⟩
    · obtain rfl : j = d.row.length := by have := J.out; omega
      clear hlt
      go_wp2
      (try simp only [Exit.inBlock, Exit.then])
      refine bodyPost_end (results_none rfl _ _ _) rfl ?_
      exact ⟨rfl, ⟨_, _, ((HV.out.set_row (row' := []) (Ow.nil _ _ _ _)).set_gone false).set_fuse (-1)⟩, ((F.out.setCell (p := ⟨g, 1, none⟩) (.inl HV.out.sg) _).setCell (p := ⟨g, 2, none⟩) (.inl HV.out.sg) _).setCell (p := ⟨g, 3, none⟩) (.inl HV.out.sg) _⟩
end Go.Proofs.Ytbdfdfahpdilpaa.Rd

/-! Layer 3, the document's disk: Lose. -/
namespace Go.Proofs.Ytbdfdfahpdilpaa.Rd
open Go Go.RowKit Go.ChangeMaps Go.Proofs.Ytbdfdfahpdilpaa.Arr Go.Proofs.Ytbdfdfahpdilpaa.Mp Go.Proofs.Ytbdfdfahpdilpaa.Ow Go.Proofs.Ytbdfdfahpdilpaa.Dk Go.Proofs.Ytbdfdfahpdilpaa.Lv Go.Proofs.YtbdfdfahpdilpaaW.PrintWords Go.Proofs.YtbdfdfahpdilpaaW.PrintLast Go.Proofs.YtbdfdfahpdilpaaW.PrintMore
set_option linter.unusedVariables false
set_option linter.unusedSimpArgs false
set_option maxHeartbeats 8000000 in
set_option maxRecDepth 20000 in
theorem rlose_calls (d : DS) (g : Nat) (i : Int) (S : Nat → Prop) (w : World) (hS : Top S w) (h : RK w S g d) (ho : OkD d) : Calls Try.prog 30 #[.pointer (some ⟨g, 0, none⟩), .int .i64 i] w fun e w' => e = .returned (.int .i64 (loseE d i)) ∧ RK w' S g (loseD d i) ∧ FS S w w' := by
  obtain ⟨sv, rv, hv⟩ := h
  obtain ⟨A, c, rfl, -⟩ := hv.safe.shape
  obtain ⟨A1, c1_, rfl, -⟩ := hv.row.shape
  have HV := Aside0.mk hv; have HO := Aside0.mk ho; have HS := Aside0.mk hS; clear hv ho hS
  obtain ⟨⟨c0, c1, c2, c3⟩, fr_⟩ := HV.out.cells; have f0 := fr_ 0; have f1 := fr_ 1; have f2 := fr_ 2; have f3 := fr_ 3; clear fr_
  cases hg : d.gone with
  | true =>
    have e1 : loseE d i = 4 := by simp [loseE, hg]
    have e2 : loseD d i = d := by simp [loseD, e1]
    rw [e1, e2]
    rw [hg] at c2
    clear e1 e2 hg
    go_enter Try.func30, Try.ntmps30
    go_wp2
    go_ret
    exact ⟨rfl, ⟨_, _, HV.out⟩, FS.refl _ _⟩
  | false =>
    rw [hg] at c2
    by_cases hlo : i < 0
    · have hT : thereD d i = false := by unfold thereD; rw [decide_eq_false (by omega)]; rfl
      have e1 : loseE d i = 2 := by simp [loseE, hg, hT]
      have e2 : loseD d i = d := by simp [loseD, e1]
      rw [e1, e2]
      clear e1 e2 hT hg
      go_enter Try.func30, Try.ntmps30
      go_wp2
      go_ret
      exact ⟨rfl, ⟨_, _, HV.out⟩, FS.refl _ _⟩
    by_cases hhi : (d.safe.length : Int) ≤ i
    · have hT : thereD d i = false := by unfold thereD; rw [decide_eq_false (p := i < d.safe.length) (by omega), Bool.and_false]
      have e1 : loseE d i = 2 := by simp [loseE, hg, hT]
      have e2 : loseD d i = d := by simp [loseD, e1]
      rw [e1, e2]
      clear e1 e2 hT hg
      go_enter Try.func30, Try.ntmps30
      go_wp2
      go_ret
      exact ⟨rfl, ⟨_, _, HV.out⟩, FS.refl _ _⟩
    have hT : thereD d i = true := by unfold thereD; rw [decide_eq_true (p := 0 ≤ i) (by omega), decide_eq_true (p := i < d.safe.length) (by omega)]; rfl
    have e1 : loseE d i = 0 := by simp [loseE, hg, hT]
    have e2 : loseD d i = { d with row := d.row.filter (kp i), safe := d.safe.set i.toNat (noughts 128) } := by simp [loseD, e1]
    rw [e1, e2]
    have hi0 : 0 ≤ i := by omega
    have hi1 : i < (d.safe.length : Int) := by omega
    clear e1 e2 hT
    go_enter Try.func30, Try.ntmps30
    go_upto_region 7 with (fail)
    go_loopw [5, 6] (fun rs v wr => ∃ (j : Nat) (A2 : Option Addr) (c2_ : Nat), v = .int .i64 j ∧ rs = .slice A2 ((d.row.take j).filter (kp i)).length c2_ ∧ Aside0 (j ≤ d.row.length) ∧ Aside0 (Ow wr (fun x => w.heap.size ≤ x) TV 2 (.slice A2 ((d.row.take j).filter (kp i)).length c2_) ((d.row.take j).filter (kp i)).length (wc ((d.row.take j).filter (kp i)))) ∧ Aside0 (Below w.heap.size w wr)) (fun _ v _ => d.row.length - (intOf v).toNat)
    case atStart => exact ⟨0, none, 0, rfl, rfl, ⟨Nat.zero_le _⟩, ⟨Ow.nil _ _ _ _⟩, ⟨Below.refl _ _⟩⟩
    case round =>
      obtain ⟨j, A2, c2_, rfl, rfl, J, HW, B⟩ := hrel
      have HV1 := Aside0.mk (HV.out.below B.out)
      clear HV c0 c1 c2 c3 f0 f1 f2 f3
      have HV := HV1
      clear HV1
      obtain ⟨⟨c0, c1, c2, c3⟩, fr_⟩ := HV.out.cells; have f0 := fr_ 0; have f1 := fr_ 1; have f2 := fr_ 2; have f3 := fr_ 3; clear fr_
      rw [hg] at c2
      by_cases hlt : j < d.row.length
      · have h1 : (j : Int) < (d.row.length : Int) := by omega
        have h0 : (0 : Int) ≤ (j : Int) := by omega
        have hwj : wrap64 ((j : Int) + 1) = ((j + 1 : Nat) : Int) := by have := HO.out.1; unfold wrap64; omega
        obtain ⟨q, hq⟩ : ∃ q, d.row[j]? = some q := ⟨_, List.getElem?_eq_getElem hlt⟩
        obtain ⟨x, s⟩ := q
        have HQ := Aside0.mk hq; have HLT := Aside0.mk hlt
        have HFS := Aside0.mk (filter_succ (i := i) hq)
        obtain ⟨rb, rfl, -, r0, r1⟩ := wv_elem HV.out.row HQ.out HLT.out
        clear hq hlt
        by_cases hx : x = i
        · have hb : (x == i) = true := by simp [hx]
          have hb2 : (x != i) = false := by simp [hx]
          have hst : (d.row.take (j + 1)).filter (kp i) = (d.row.take j).filter (kp i) := by rw [HFS.out, if_neg (by simp [kp, hx])]; simp
          have HS2 := Aside0.mk hst
          clear hx hst
          go_wp2
          (try simp only [hwj])
          go_roundw
          case rel => exact ⟨j + 1, A2, c2_, by first | rfl | go_num, by rw [HS2.out], ⟨HLT.out⟩, ⟨by rw [HS2.out]; exact HW.out⟩, B⟩
          case measure =>
            have := HLT.out
            simp only [intOf]; omega
        · have hb : (x == i) = false := by simp [hx]
          have hb2 : (x != i) = true := by simp [hx]
          have hst : (d.row.take (j + 1)).filter (kp i) = (d.row.take j).filter (kp i) ++ [(x, s)] := by rw [HFS.out, if_pos (by simp [kp, hx])]
          have HS2 := Aside0.mk hst
          clear hx hst
          have hfl : ((d.row.take j).filter (kp i)).length ≤ 1000000 := by have h1 := List.length_filter_le (kp i) (d.row.take j); have h2 := List.length_take_le j d.row; have := HO.out.1; omega
          have hbb := (Below.refl wr.heap.size wr).alloc (Nat.le_refl _) (.cells #[.int .i64 x, .string s] TV)
          have how0 : Ow (wr.alloc (.cells #[.int .i64 x, .string s] TV)) (fun x => w.heap.size ≤ x) TV 2 (.slice A2 ((d.row.take j).filter (kp i)).length c2_) ((d.row.take j).filter (kp i)).length (wc ((d.row.take j).filter (kp i))) := HW.out.same fun k hk => hbb.block k (HW.out.own.lt k hk).2
          obtain ⟨rv', W4, hrun, how, hgr, hsame, g', c', hrv⟩ := append_rowV ((d.row.take j).filter (kp i)) x s how0 (heap_alloc_new wr _) hfl 52
          have hB4 : Below w.heap.size w W4 := FS.up (((FS.of_below B.out).alloc (.cells #[.int .i64 x, .string s] TV)).grown hgr (fun k hk => .inl (HW.out.mem k hk))) (Nat.le_refl _)
          have how4 : Ow W4 (fun x => w.heap.size ≤ x) TV 2 rv' ((d.row.take (j + 1)).filter (kp i)).length (wc ((d.row.take (j + 1)).filter (kp i))) := by
            rw [HS2.out]
            exact how.mono (fun k _ hk => hk.elim id (fun e => by rw [e]; have := B.out.size; simp; omega))
          subst hrv
          have hle : ((d.row.take j).filter (kp i)).length + 1 = ((d.row.take (j + 1)).filter (kp i)).length := by rw [HS2.out]; simp
          have HLE := Aside0.mk hle
          have HW4 := Aside0.mk how4; have B4 := Aside0.mk hB4; have HR := Aside0.mk hrun
          clear hgr how how0 how4 hB4 hsame hbb hrun hfl hle
          go_wp2_with ((with_reducible refine gate_builtin (b := .append) (xs := #[.tmp 41, .tmp 49]) rfl ?_); at_builtin; refine ev_append (.tmp 41) (.tmp 49) 52 rfl rfl _ _ rfl rfl HR.out ?_)
          (try simp only [hwj])
          go_roundw
          case rel => exact ⟨j + 1, some ⟨g', 0, none⟩, c', by first | rfl | go_num, by rw [← HLE.out], ⟨HLT.out⟩, ⟨by rw [← HLE.out] at HW4 ⊢; exact HW4.out⟩, B4⟩
          case measure =>
            have := HLT.out
            simp only [intOf]; omega
      · obtain rfl : j = d.row.length := by have := J.out; omega
        clear hlt
        rw [List.take_length] at HW
        simp only [List.take_length]
        have HW1 := Aside0.mk (HW.out.mono (fun k _ hk => HS.out k hk))
        have F0 := Aside0.mk (FS.mono (FS.of_below B.out) (fun k _ hk => HS.out k hk))
        have HV2 := Aside0.mk (HV.out.set_row (row' := d.row.filter (kp i)) HW1.out)
        have F2 := Aside0.mk (F0.out.setCell (p := ⟨g, 1, none⟩) (.inl HV.out.sg) (.slice A2 (d.row.filter (kp i)).length c2_))
        go_upto_region 12 with (fail)
        clear HV F0 HW HW1 B c0 c1 c2 c3 f0 f1 f2 f3
        generalize wr.setCell ⟨g, 1, none⟩ (.slice A2 (d.row.filter (kp i)).length c2_) = X at *
        have HV := Aside0.mk HV2.out.drew; have F := Aside0.mk F2.out.drew
        clear HV2 F2
        have z0 : X.drew.cell? ⟨g, 0, none⟩ = some (.slice A d.safe.length c) := HV.out.cells.1.1
        obtain ⟨bs, cc, cur, hsv, hSb, hbs, -, -, -, htk⟩ := HV.out.safe.open (show 0 < d.safe.length by omega)
        injection hsv with e5 e6 e7
        subst e5
        subst e7
        clear e6
        obtain ⟨ux, hux⟩ : ∃ u, (d.safe.map Value.string)[i.toNat]? = some u := ⟨_, List.getElem?_eq_getElem (by simp only [List.length_map]; omega)⟩
        have HB := Aside0.mk hbs; have HTK := Aside0.mk htk; have HX := Aside0.mk hux; have HSB := Aside0.mk hSb
        clear hbs htk hux hSb
        refine start_ (n := 8) (S := fun w' => w'.cell? ⟨g, 0, none⟩ = some (.slice (some ⟨bs, 0, none⟩) d.safe.length c)) (ds := [7]) #[false, false, false, false, false, false, false, false] (by kernel_rfl) rfl rfl z0 (fun hHeld => ?_)
        refine pure_ (i := 0) (N := some 55) (v := ?_) (a' := ?_) #[true, false, false, false, false, false, false, false] rfl rfl (by kernel_rfl) (fun _ _ _ h => h) (Or.inl ⟨by kernel_rfl, ?_⟩) ?_ ?_
        rotate_left
        · intro w'
          go_simp
          with_reducible rfl
        rotate_left
        · simp only [Act.put, List.setIfInBounds_toArray, List.set_cons_zero, List.set_cons_succ, i64_w, i32_w]
          rfl
        refine pure_ (i := 1) (N := some 56) (v := ?_) (a' := ?_) #[true, true, false, false, false, false, false, false] rfl rfl (by kernel_rfl) (fun _ _ _ h => h) (Or.inl ⟨by kernel_rfl, ?_⟩) ?_ ?_
        rotate_left
        · intro w'
          go_simp
          with_reducible rfl
        rotate_left
        · simp only [Act.put, List.setIfInBounds_toArray, List.set_cons_zero, List.set_cons_succ, i64_w, i32_w]
          rfl
        refine pure_ (i := 2) (N := some 57) (v := ?_) (a' := ?_) #[true, true, true, false, false, false, false, false] rfl rfl (by kernel_rfl) (fun _ _ _ h => h) (Or.inl ⟨by kernel_rfl, ?_⟩) ?_ ?_
        rotate_left
        · intro w'
          go_simp
          with_reducible rfl
        rotate_left
        · simp only [Act.put, List.setIfInBounds_toArray, List.set_cons_zero, List.set_cons_succ, i64_w, i32_w]
          rfl
        refine pure_ (i := 4) (N := some 59) (v := ?_) (a' := ?_) #[true, true, true, false, true, false, false, false] rfl rfl (by kernel_rfl) (fun _ _ _ h => h) (Or.inl ⟨by kernel_rfl, ?_⟩) ?_ ?_
        rotate_left
        · intro w'
          go_simp
          with_reducible rfl
        rotate_left
        · simp only [Act.put, List.setIfInBounds_toArray, List.set_cons_zero, List.set_cons_succ, i64_w, i32_w]
          rfl
        refine take_ (i := 3) (N := some 58) (v := ?_) (a' := ?_) #[true, true, true, true, true, false, false, false] rfl rfl (by kernel_rfl) (fun _ _ _ h => h) (Or.inl ⟨by kernel_rfl, ?_⟩) hHeld ?_ ?_
        rotate_left
        · rintro w' s0_
          go_simp
          with_reducible rfl
        rotate_left
        · simp only [Act.put, List.setIfInBounds_toArray, List.set_cons_zero, List.set_cons_succ, i64_w, i32_w]
          rfl
        refine one_ (i := 5) (N := some 60) #[true, true, true, true, true, true, false, false] rfl rfl (by kernel_rfl) (by decide) (fun K hK => ?_)
        refine goes_ Try.func46 (by kernel_rfl) rfl #[] (by rfl) rfl rfl (by (try simp only [List.map_toArray, List.map_cons, List.map_nil]); first | done | rfl) ?_
        refine (rzero_calls _).mono ?_
        rintro e v1_ ⟨rfl, hb1⟩
        refine ⟨_, rfl, ?_⟩
        have HB3 := Aside0.mk (blk_below HB.out hb1)
        have HV3 := Aside0.mk (HV.out.below hb1)
        have F3 := Aside0.mk (F.out.below hb1)
        refine hK _ _ (pw_cell_below hb1 hHeld) (fun hHeld => ?_)
        clear hK K hb1
        refine norm_ (a' := ?_) ?_ ?_
        rotate_left
        · show Act.put _ (some 60) _ = _
          simp only [Act.put, List.setIfInBounds_toArray, List.set_cons_zero, List.set_cons_succ, i64_w, i32_w]
          rfl
        refine pure_ (i := 6) (N := some 61) (v := ?_) (a' := ?_) #[true, true, true, true, true, true, true, false] rfl rfl (by kernel_rfl) (fun _ _ _ h => h) (Or.inl ⟨by kernel_rfl, ?_⟩) ?_ ?_
        rotate_left
        · intro w'
          go_simp
          with_reducible rfl
        rotate_left
        · simp only [Act.put, List.setIfInBounds_toArray, List.set_cons_zero, List.set_cons_succ, i64_w, i32_w]
          rfl
        refine last_ (i := 7) (N := none) #[true, true, true, true, true, true, true, true] rfl rfl (by kernel_rfl) (by decide) (fun K hK => ?_)
        have cz : v1_.cell? ⟨bs, i.toNat, none⟩ = some _ := cell_of (w := v1_) HB3.out HTK.out HX.out
        have fz : v1_.frozen? ⟨bs, i.toNat, none⟩ = false := blk_frozen (w := v1_) HB3.out _
        refine skip_ (w1 := ?_) (by kernel_rfl) rfl ?_ ?_
        rotate_left
        · go_simp
          rfl
        refine hK _ _ ?_
        clear hK K cz fz
        have HV4 := Aside0.mk (HV3.out.set_safe i.toNat (show i.toNat < d.safe.length by omega) (noughts 128))
        have F4 := Aside0.mk (F3.out.setCell (p := ⟨bs, i.toNat, none⟩) (.inl HSB.out) (.string (noughts 128)))
        refine done_ (by kernel_rfl) ?_
        go_wp2
        go_ret
        have q4 := HV4.out
        rw [hg] at q4
        exact ⟨rfl, ⟨_, _, q4⟩, F4.out⟩
end Go.Proofs.Ytbdfdfahpdilpaa.Rd

/-! Layer 3, the document's disk: New, its colours. -/
namespace Go.Proofs.Ytbdfdfahpdilpaa.Rd
open Go Go.RowKit Go.ChangeMaps Go.Proofs.Ytbdfdfahpdilpaa.Arr Go.Proofs.Ytbdfdfahpdilpaa.Mp Go.Proofs.Ytbdfdfahpdilpaa.Ow Go.Proofs.Ytbdfdfahpdilpaa.Dk Go.Proofs.Ytbdfdfahpdilpaa.Lv Go.Proofs.YtbdfdfahpdilpaaW.PrintWords Go.Proofs.YtbdfdfahpdilpaaW.PrintLast Go.Proofs.YtbdfdfahpdilpaaW.PrintMore
set_option linter.unusedVariables false
set_option linter.unusedSimpArgs false
theorem push_one {w : World} {S : Nat → Prop} {v : Value} (l : List ByteArray) (s : ByteArray) (h : Ow w S TS 1 v l.length (l.map .string)) (hl : l.length ≤ 1000000) {nb : Nat} (hnb : w.heap[nb]? = some (.cells #[.string s] TS (0, 0))) (ty : TypeId) :
    ∃ v' w', (Builtin.append_ #[37, 37] ty #[v, .slice (some ⟨nb, 0, none⟩) 1 1]).run Try.prog w = .ok v' w' ∧ Ow w' (fun k => S k ∨ k = w.heap.size) TS 1 v' (l ++ [s]).length ((l ++ [s]).map .string) ∧ w.grownBy w' v.ownBlock ∧ (v'.ownBlock = v.ownBlock ∨ v'.ownBlock = some w.heap.size) ∧ ∃ g' c', v' = .slice (some ⟨g', 0, none⟩) (l.length + 1) c' := by
  obtain ⟨i0, hi0, h2⟩ := Option.map_eq_some_iff.1 infoS
  have hz : i0.zero = some (.string ⟨#[]⟩) := congrArg Prod.fst h2
  have hs : i0.size = 1 := congrArg (fun p => p.2.1) h2
  have hb : i0.bytes = 16 := congrArg (fun p => p.2.2) h2
  have r := run_append_ow (P := Try.prog) (ty := ty) 37 TS i0 _ 1 16 (by kernel_rfl) hi0 hz hs hb rfl (by decide) v l.length _ h ⟨nb, 0, none⟩ 1 1 [.string s] rfl (fun j u hj => by
    match j with
    | 0 => exact (blk_cell hnb 0).trans (by simpa using hj)
    | j + 1 => simp at hj) (fun u hu => by
    rcases List.mem_cons.1 hu with rfl | hu
    · rfl
    · cases hu) (by simp only [maxLen]; omega) (by omega) (by decide)
  rw [List.length_append, List.map_append]
  exact r
theorem RV.pushed {w w' : World} {S : Nat → Prop} {g : Nat} {d : DS} {sv sv' : Value} {safe' : List ByteArray} (h : RV w S g d sv (.slice none 0 0)) (hr : d.row = []) (hg : w.grownBy w' sv.ownBlock) (ho : Ow w' S TS 1 sv' safe'.length (safe'.map .string)) :
    w'.heap[g]? = some (.cells #[sv, .slice none 0 0, .bool d.gone, .int .i64 d.fuse] TE (0, 0)) ∧ RV (w'.setCell ⟨g, 0, none⟩ sv') S g { d with safe := safe' } sv' (.slice none 0 0) := by
  have hb := grown_blk hg h.blk (fun e => ow_ne h.safe h.blk (by decide) g e rfl)
  refine ⟨hb, set_blk hb 0 sv', ho.same fun k hk => Below.heap_setCell w' ⟨g, 0, none⟩ sv' k (ow_ne ho hb (by decide) k hk), ?_, h.sg⟩
  show Ow _ S TV 2 _ d.row.length (wc d.row)
  rw [hr]
  exact Ow.nil _ _ _ _
theorem newD_succ (j : Nat) : { newD j with safe := (newD j).safe ++ [noughts 128] } = newD (j + 1) := by
  unfold newD
  simp only [List.replicate_succ']
set_option maxHeartbeats 4000000 in
set_option maxRecDepth 20000 in
theorem rnew_calls (n : Nat) (h2 : n ≤ 512) (w : World) : Calls Try.prog 25 #[.int .i64 (n : Int)] w fun e w' => ∃ g, w.heap.size ≤ g ∧ e = .returned (.pointer (some ⟨g, 0, none⟩)) ∧ RK w' (fun k => w.heap.size ≤ k) g (newD n) ∧ Below w.heap.size w w' := by
  have H2 := Aside0.mk h2; clear h2
  go_enter Try.func25, Try.ntmps25
  go_upto_region 3 with (fail)
  have hq := heap_alloc_new w (.cells #[.slice none 0 0, .slice none 0 0, .bool false, .int .i64 (-1)] TE)
  have HV := Aside0.mk (show RV (w.alloc (.cells #[.slice none 0 0, .slice none 0 0, .bool false, .int .i64 (-1)] TE)) (fun k => w.heap.size ≤ k) w.heap.size (newD 0) (.slice none 0 0) (.slice none 0 0) from ⟨hq, Ow.nil _ _ _ _, Ow.nil _ _ _ _, Nat.le_refl _⟩)
  have B := Aside0.mk ((Below.refl w.heap.size w).alloc (Nat.le_refl _) (.cells #[.slice none 0 0, .slice none 0 0, .bool false, .int .i64 (-1)] TE))
  clear hq
  obtain ⟨b0, hb0⟩ : ∃ b, b = w.heap.size := ⟨_, rfl⟩
  have HB0 := Aside0.mk hb0
  generalize w.alloc (.cells #[.slice none 0 0, .slice none 0 0, .bool false, .int .i64 (-1)] TE) = w1 at *
  rw [← hb0] at HV B ⊢
  clear hb0
  go_loopw [4] (fun v wr => ∃ (j : Nat) (As : Option Addr) (cs : Nat), v = .int .i64 j ∧ Aside0 (j ≤ n) ∧ Aside0 (RV wr (fun k => b0 ≤ k) b0 (newD j) (.slice As j cs) (.slice none 0 0)) ∧ Aside0 (Below b0 w wr)) (fun v _ => n - (intOf v).toNat)
  case atStart => exact ⟨0, none, 0, rfl, ⟨Nat.zero_le _⟩, HV, B⟩
  case round =>
    clear HV B
    obtain ⟨j, As, cs, rfl, J, HV, B⟩ := hrel
    by_cases hlt : j < n
    · have h1 : (j : Int) < (n : Int) := by omega
      have hwj : wrap64 ((j : Int) + 1) = ((j + 1 : Nat) : Int) := by have := H2.out; unfold wrap64; omega
      have HLT := Aside0.mk hlt
      clear hlt
      go_upto_region 5 with (fail)
      have HV0 := Aside0.mk HV.out.drew; have B0 := Aside0.mk B.out.drew
      clear HV B
      have z0 : wr.drew.cell? ⟨b0, 0, none⟩ = some (.slice As j cs) := HV0.out.cells.1.1
      refine start_ (n := 11) (S := fun w' => w'.cell? ⟨b0, 0, none⟩ = some (.slice As j cs)) (ds := [7, 10]) #[false, false, false, false, false, false, false, false, false, false, false] (by kernel_rfl) rfl rfl z0 (fun hHeld => ?_)
      refine pure_ (i := 0) (N := some 12) (v := ?_) (a' := ?_) #[true, false, false, false, false, false, false, false, false, false, false] rfl rfl (by kernel_rfl) (fun _ _ _ h => h) (Or.inl ⟨by kernel_rfl, ?_⟩) ?_ ?_
      rotate_left
      · intro w'
        go_simp
        with_reducible rfl
      rotate_left
      · simp only [Act.put, List.setIfInBounds_toArray, List.set_cons_zero, List.set_cons_succ, i64_w, i32_w]
        rfl
      refine pure_ (i := 1) (N := some 13) (v := ?_) (a' := ?_) #[true, true, false, false, false, false, false, false, false, false, false] rfl rfl (by kernel_rfl) (fun _ _ _ h => h) (Or.inl ⟨by kernel_rfl, ?_⟩) ?_ ?_
      rotate_left
      · intro w'
        go_simp
        with_reducible rfl
      rotate_left
      · simp only [Act.put, List.setIfInBounds_toArray, List.set_cons_zero, List.set_cons_succ, i64_w, i32_w]
        rfl
      refine pure_ (i := 2) (N := some 14) (v := ?_) (a' := ?_) #[true, true, true, false, false, false, false, false, false, false, false] rfl rfl (by kernel_rfl) (fun _ _ _ h => h) (Or.inl ⟨by kernel_rfl, ?_⟩) ?_ ?_
      rotate_left
      · intro w'
        go_simp
        with_reducible rfl
      rotate_left
      · simp only [Act.put, List.setIfInBounds_toArray, List.set_cons_zero, List.set_cons_succ, i64_w, i32_w]
        rfl
      refine pure_ (i := 3) (N := some 15) (v := ?_) (a' := ?_) #[true, true, true, true, false, false, false, false, false, false, false] rfl rfl (by kernel_rfl) (fun _ _ _ h => h) (Or.inl ⟨by kernel_rfl, ?_⟩) ?_ ?_
      rotate_left
      · intro w'
        go_simp
        with_reducible rfl
      rotate_left
      · simp only [Act.put, List.setIfInBounds_toArray, List.set_cons_zero, List.set_cons_succ, i64_w, i32_w]
        rfl
      refine take_ (i := 4) (N := some 16) (v := ?_) (a' := ?_) #[true, true, true, true, true, false, false, false, false, false, false] rfl rfl (by kernel_rfl) (fun _ _ _ h => h) (Or.inl ⟨by kernel_rfl, ?_⟩) hHeld ?_ ?_
      rotate_left
      · rintro w' s0_
        go_simp
        with_reducible rfl
      rotate_left
      · simp only [Act.put, List.setIfInBounds_toArray, List.set_cons_zero, List.set_cons_succ, i64_w, i32_w]
        rfl
      refine one_ (i := 5) (N := some 17) #[true, true, true, true, true, true, false, false, false, false, false] rfl rfl (by kernel_rfl) (by decide) (fun K hK => ?_)
      refine goes_ Try.func46 (by kernel_rfl) rfl #[] (by rfl) rfl rfl (by (try simp only [List.map_toArray, List.map_cons, List.map_nil]); first | done | rfl) ?_
      refine (rzero_calls _).mono ?_
      rintro e v1_ ⟨rfl, hb1⟩
      refine ⟨_, rfl, ?_⟩
      have HV1 := Aside0.mk (HV0.out.below hb1)
      have B1 := Aside0.mk (FS.up ((FS.of_below B0.out).below hb1) (by have := HB0.out; omega))
      refine hK _ _ (pw_cell_below hb1 hHeld) (fun hHeld => ?_)
      clear hK K hb1 HV0 B0
      refine norm_ (a' := ?_) ?_ ?_
      rotate_left
      · show Act.put _ (some 17) _ = _
        simp only [Act.put, List.setIfInBounds_toArray, List.set_cons_zero, List.set_cons_succ, i64_w, i32_w]
        rfl
      refine one_ (i := 6) (N := some 18) #[true, true, true, true, true, true, true, false, false, false, false] rfl rfl (by kernel_rfl) (by decide) (fun K hK => ?_)
      refine value_ (v := .slice (some ⟨v1_.heap.size, 0, none⟩) 1 1) (w1 := v1_.alloc (.cells #[.string (noughts 128)] TS)) (by kernel_rfl) rfl (by first | (go_simp; done) | (go_simp; rfl)) ?_
      have hb1 := (Below.refl v1_.heap.size v1_).alloc (Nat.le_refl _) (.cells #[.string (noughts 128)] TS)
      have HNB := Aside0.mk (heap_alloc_new v1_ (.cells #[.string (noughts 128)] TS))
      obtain ⟨nb, hnb⟩ : ∃ nb, nb = v1_.heap.size := ⟨_, rfl⟩
      obtain ⟨v2_, hV⟩ : ∃ X, X = v1_.alloc (.cells #[.string (noughts 128)] TS) := ⟨_, rfl⟩
      rw [← hV] at hb1 HNB
      rw [← hV, ← hnb]
      rw [← hnb] at HNB
      clear hV
      have HV2 := Aside0.mk (HV1.out.below hb1)
      have B2 := Aside0.mk (FS.up ((FS.of_below B1.out).below hb1) (by have := HB0.out; omega))
      refine hK _ _ (pw_cell_below hb1 hHeld) (fun hHeld => ?_)
      clear hK K hb1 hnb HV1 B1
      refine norm_ (a' := ?_) ?_ ?_
      rotate_left
      · show Act.put _ (some 18) _ = _
        simp only [Act.put, List.setIfInBounds_toArray, List.set_cons_zero, List.set_cons_succ, i64_w, i32_w]
        rfl
      refine last_ (i := 7) (N := some 19) #[true, true, true, true, true, true, true, true, false, false, false] rfl rfl (by kernel_rfl) (by decide) (fun K hK => ?_)
      have hlen : (newD j).safe.length = j := by simp [newD]
      obtain ⟨v_, v3_, hr, how, hgr, -, g', c', rfl⟩ := push_one (newD j).safe (noughts 128) HV2.out.safe (by have := HLT.out; have := H2.out; omega) HNB.out 37
      refine ap_ _ _ _ (by kernel_rfl) rfl rfl _ _ rfl rfl hr ?_
      have how2 := how.mono (S2 := fun k => b0 ≤ k) (fun k _ hk => hk.elim id (fun e => by rw [e]; have := B2.out.size; have := HB0.out; omega))
      have hp := HV2.out.pushed rfl hgr how2
      rw [newD_succ, hlen] at hp
      rw [hlen]
      have HV3 := Aside0.mk hp.2; have HBL := Aside0.mk hp.1
      have F3 := Aside0.mk ((FS.of_below B2.out).grown hgr (fun k hk => .inl (HV2.out.safe.mem k hk)))
      refine hK _ _ ?_
      clear hK K hr how hgr how2 hp hlen HV2 B2 hHeld
      refine norm_ (a' := ?_) ?_ ?_
      rotate_left
      · show Act.put _ (some 19) _ = _
        simp only [Act.put, List.setIfInBounds_toArray, List.set_cons_zero, List.set_cons_succ, i64_w, i32_w]
        rfl
      refine pure_ (i := 8) (N := some 20) (v := ?_) (a' := ?_) #[true, true, true, true, true, true, true, true, true, false, false] rfl rfl (by kernel_rfl) (fun _ _ _ h => h) (Or.inl ⟨by kernel_rfl, ?_⟩) ?_ ?_
      rotate_left
      · intro w'
        go_simp
        with_reducible rfl
      rotate_left
      · simp only [Act.put, List.setIfInBounds_toArray, List.set_cons_zero, List.set_cons_succ, i64_w, i32_w]
        rfl
      refine pure_ (i := 9) (N := some 21) (v := ?_) (a' := ?_) #[true, true, true, true, true, true, true, true, true, true, false] rfl rfl (by kernel_rfl) (fun _ _ _ h => h) (Or.inl ⟨by kernel_rfl, ?_⟩) ?_ ?_
      rotate_left
      · intro w'
        go_simp
        with_reducible rfl
      rotate_left
      · simp only [Act.put, List.setIfInBounds_toArray, List.set_cons_zero, List.set_cons_succ, i64_w, i32_w]
        rfl
      refine last_ (i := 10) (N := none) #[true, true, true, true, true, true, true, true, true, true, true] rfl rfl (by kernel_rfl) (by decide) (fun K hK => ?_)
      have cz : v3_.cell? ⟨b0, 0, none⟩ = some _ := blk_cell (w := v3_) HBL.out 0
      have fz : v3_.frozen? ⟨b0, 0, none⟩ = false := blk_frozen (w := v3_) HBL.out _
      refine skip_ (w1 := ?_) (by kernel_rfl) rfl ?_ ?_
      rotate_left
      · go_simp
        rfl
      refine hK _ _ ?_
      clear hK K cz fz
      have HV4 := HV3
      have B4 := Aside0.mk (FS.up (F3.out.setCell (p := ⟨b0, 0, none⟩) (.inl (Nat.le_refl _)) (.slice (some ⟨g', 0, none⟩) (j + 1) c')) (by have := HB0.out; omega))
      clear HV3 F3 HBL
      refine done_ (by kernel_rfl) ?_
      simp only [Exit.inBlock, Exit.then]
      go_wp2
      (try simp only [hwj])
      go_roundw
      case rel => exact ⟨j + 1, some ⟨g', 0, none⟩, c', by first | rfl | go_num, ⟨HLT.out⟩, HV4, B4⟩
      case measure =>
        have := HLT.out
        show n - (intOf (.int .i64 ((j + 1 : Nat) : Int))).toNat < n - (intOf (.int .i64 (j : Int))).toNat
        simp only [intOf]; omega
    · obtain rfl : j = n := by have := J.out; omega
      clear hlt
      go_wp2
      go_ret
      have hb := HB0.out
      subst hb
      exact ⟨w.heap.size, Nat.le_refl _, rfl, ⟨_, _, HV.out⟩, B.out⟩
section
variable {w w' : World} {c : Nat → Nat} {x y : Nat}
theorem RK.paint {g : Nat} {d : DS} (h : RK w (Col c x) g d) (y : Nat) : RK w (Col (Dk.paint c w.heap.size y) x) g d :=
  h.mono fun k hk e => (paint_old hk).trans e
theorem RK.fresh {n g : Nat} {d : DS} (h : RK w' (fun k => n ≤ k) g d) (c : Nat → Nat) (x : Nat) : RK w' (Col (Dk.paint c n x) x) g d := h.mono fun k _ hk => paint_new hk
theorem RK.apart {g : Nat} {d : DS} (h : RK w (Col c y) g d) (hf : FS (Col (Dk.paint c w.heap.size x) x) w w') (hxy : x ≠ y) : RK w' (Col (Dk.paint c w.heap.size x) y) g d :=
  (h.paint x).kept hf fun k hk e => hxy (e.symm.trans hk)
theorem RK.stored {g : Nat} {d : DS} (h : RK w (Col c y) g d) {b : Nat} (hb : c b = x) (hne : x ≠ y) (i : Nat) (u : Value) : RK (w.setCell ⟨b, i, none⟩ u) (Col c y) g d :=
  h.kept ((FS.refl (Col c x) w).setCell (p := ⟨b, i, none⟩) (.inl hb) u) fun k hk e => hne (e.symm.trans hk)
end
end Go.Proofs.Ytbdfdfahpdilpaa.Rd

/-! Layer 3, the document's disk: helps for DiskPlays. -/
namespace Go.Proofs.Ytbdfdfahpdilpaa.Rd
open Go Go.RowKit Go.ChangeMaps Go.Proofs.Ytbdfdfahpdilpaa.Arr Go.Proofs.Ytbdfdfahpdilpaa.Mp Go.Proofs.Ytbdfdfahpdilpaa.Ow Go.Proofs.Ytbdfdfahpdilpaa.Dk Go.Proofs.Ytbdfdfahpdilpaa.Lv Go.Proofs.YtbdfdfahpdilpaaW.PrintWords Go.Proofs.YtbdfdfahpdilpaaW.PrintLast Go.Proofs.YtbdfdfahpdilpaaW.PrintMore
set_option linter.unusedVariables false
set_option linter.unusedSimpArgs false
theorem infoB : (Try.prog.info? TB).map (fun i => (i.zero, i.size, i.bytes)) = some (some (.int .u8 0), 1, 1) := by kernel_rfl
theorem get_map (n : Nat) (f : Nat → Value) (Q : Nat → Value → Prop) (h : ∀ j, j < n → Q j (f j)) : ∀ j u, ((List.range n).map f)[j]? = some u → Q j u := fun j u hj => by
  by_cases hn : j < n
  · simp [hn] at hj
    rw [← hj]
    exact h j hn
  · simp [hn] at hj
/-- append([]uint8{}, picks...) -/
theorem app_picks (w : World) (b : Nat) (A : Option Addr) (n c : Nat) (p : Nat → Nat) (hn : n ≤ 1000000) (h : 0 < n → ∃ ad, A = some ad ∧ ∀ j, j < n → w.cell? (ad.add j) = some (.int .u8 (p j : Int))) (ty : TypeId) :
    ∃ A' c' w', (Builtin.append_ #[23, 23] ty #[.slice (some ⟨b, 0, none⟩) 0 0, .slice A n c]).run Try.prog w = .ok (.slice A' n c') w' ∧ Below w.heap.size w w' ∧ (0 < n → ∃ ad, A' = some ad ∧ (∀ j, j < n → w'.cell? (ad.add j) = some (.int .u8 (p j : Int))) ∧ ∃ cs fr, w'.heap[ad.block]? = some (.cells cs TB fr)) := by
  obtain ⟨i0, hi, h2⟩ := Option.map_eq_some_iff.1 infoB
  have hz : i0.zero = some (.int .u8 0) := congrArg Prod.fst h2
  have hs : i0.size = 1 := congrArg (fun p => p.2.1) h2
  have hb : i0.bytes = 1 := congrArg (fun p => p.2.2) h2
  have ht : Try.prog.underlying 23 = some (.slice TB) := by kernel_rfl
  rcases Nat.eq_zero_or_pos n with rfl | h0
  · refine ⟨some ⟨b, 0, none⟩, 0, w, ?_, Below.refl _ _, fun h => absurd h (by decide)⟩
    cases A <;> simp [Builtin.append_, run_underlying ht, sizeOf, typeInfo, hi, Builtin.lenOf, Builtin.firstCells, loadCells, loadCellsFrom, storeCells]
  · obtain ⟨ad, rfl, hc⟩ := h h0
    have hget := get_map n (fun j => Value.int .u8 (p j : Int)) (fun j u => w.cell? (ad.add j) = some u) hc
    have r := run_append_grow (P := Try.prog) (w := w) 23 ty TB i0 (.int .u8 0) ht hi hz ⟨b, 0, none⟩ 0 0 [] (by simp) (fun j v hv => by simp at hv) ad n c ((List.range n).map (fun j => Value.int .u8 (p j : Int))) (by rw [List.length_map, List.length_range, hs, Nat.mul_one]) hget (by omega) (by omega) (by rw [Nat.zero_add, nextslicecap_zero h0, hb]; omega)
    refine ⟨_, _, _, r.trans (by rw [Nat.zero_add]), (Below.refl _ _).drew.alloc (Nat.le_refl _) _, fun _ => ⟨_, rfl, fun j hj => ?_, _, _, heap_alloc_new w.drew _⟩⟩
    rw [show ((⟨w.heap.size, 0, none⟩ : Addr).add j) = ⟨w.heap.size, j, none⟩ by unfold Addr.add; split <;> simp_all]
    refine (blk_cell (heap_alloc_new w.drew _) j).trans ?_
    rw [Array.getElem?_append_left (by simp; omega)]
    simp [hj]
theorem ok_lose {n : Nat} {d : DS} {i : Int} (h : OkN n d) : OkN n (loseD d i) := by
  unfold loseD
  split
  · exact h
  · obtain ⟨⟨h1, h2, h3, h4, h5⟩, h6⟩ := h
    have hl := List.length_filter_le (kp i) d.row
    refine ⟨⟨by simp only; omega, h2, h3, by simpa using h4, fun p hp => ?_⟩, by simp only; omega⟩
    simp only [List.length_set]
    exact h5 p (List.mem_filter.1 hp).1
theorem len_bears (d : DS) : (bearsD d).safe.length = d.safe.length := by rw [bears_safe]
theorem len_write (d : DS) (i : Int) (s : ByteArray) : (writeD d i s).safe.length = d.safe.length := by
  unfold writeD
  split
  · rfl
  · split
    · rfl
    · split
      · exact len_bears d
      · exact len_bears d
theorem len_sync (d : DS) : (syncD d).safe.length = d.safe.length := by
  unfold syncD
  split
  · exact len_bears d
  · simp [settleD, over_length]
theorem len_crash (a : Nat) (p : Nat → Nat) (d : DS) : (crashD a p d).safe.length = d.safe.length := crashT_length a p d.row d.safe d.row.length
theorem len_lose (d : DS) (i : Int) : (loseD d i).safe.length = d.safe.length := by
  unfold loseD
  split
  · rfl
  · simp
/-- The copy takes the disk's colour. -/
def turn4 (c : Nat → Nat) : Nat → Nat := fun k => if c k = 4 then 1 else if c k = 1 then 5 else c k
theorem turn_new {c : Nat → Nat} {k : Nat} (h : c k = 4) : turn4 c k = 1 := by unfold turn4; rw [if_pos h]
theorem turn_old {c : Nat → Nat} {k x : Nat} (h : c k = x) (h4 : x ≠ 4) (h1 : x ≠ 1) : turn4 c k = x := by
  subst h
  unfold turn4
  rw [if_neg h4, if_neg h1]
theorem olds_turn {c : Nat → Nat} {B : Nat} (h : Olds c B) : Olds (turn4 c) B := fun k hk => turn_old (h k hk) (by decide) (by decide)
theorem dk_turn {w : World} {c : Nat → Nat} {g : Nat} {d : DS} (h : DK w (Col c 4) g d) : DK w (Col (turn4 c) 1) g d := h.mono fun k _ e => turn_new e
theorem rk_turn {w : World} {c : Nat → Nat} {g : Nat} {d : DS} (h : RK w (Col c 2) g d) : RK w (Col (turn4 c) 2) g d := h.mono fun k _ e => turn_old e (by decide) (by decide)
def shortS : ByteArray := ⟨#[115, 104, 111, 114, 116]⟩
end Go.Proofs.Ytbdfdfahpdilpaa.Rd
