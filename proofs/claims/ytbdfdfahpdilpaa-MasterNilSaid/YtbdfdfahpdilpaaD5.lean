import Derived.Test.YtbdfdfahpdilpaaD1
import Derived.Test.YtbdfdfahpdilpaaRng
/-! Layer 3: Sync. -/
namespace Go.Proofs.Ytbdfdfahpdilpaa.Dk
open Go Go.RowKit Go.ChangeMaps Go.Proofs.Ytbdfdfahpdilpaa.Arr Go.Proofs.Ytbdfdfahpdilpaa.Mp Go.Proofs.Ytbdfdfahpdilpaa.Ow Go.Proofs.YtbdfdfahpdilpaaW.PrintWords Go.Proofs.YtbdfdfahpdilpaaW.PrintLast Go.Proofs.YtbdfdfahpdilpaaW.PrintMore
set_option linter.unusedVariables false
set_option linter.unusedSimpArgs false
set_option maxHeartbeats 4000000 in
theorem sync_calls (d : DS) (g : Nat) (S : Nat → Prop) (w : World) (hS : Top S w) (h : DK w S g d) (ho : OkD d) : Calls Try.prog 18 #[.pointer (some ⟨g, 0, none⟩)] w fun e w' => e = .returned (.int .i64 (syncE d)) ∧ DK w' S g (syncD d) ∧ FS S w w' := by
  obtain ⟨sv, rv, m, hv⟩ := h
  have HV := Aside0.mk hv; have HO := Aside0.mk ho; have HS := Aside0.mk hS; clear hv ho hS
  obtain ⟨⟨c0, c1, c2, c3, c4⟩, fr_⟩ := HV.out.cells; have f0 := fr_ 0; have f1 := fr_ 1; have f2 := fr_ 2; have f3 := fr_ 3; have f4 := fr_ 4; clear fr_
  rcases (show bearsE d = 4 ∨ bearsE d = 0 by unfold bearsE; split <;> simp) with hE | hE
  · have e1 : syncE d = 4 := hE
    have e2 : syncD d = bearsD d := by simp [syncD, hE]
    rw [e1, e2]
    clear e1 e2
    go_enter Try.func18, Try.ntmps18
    go_wp2_with (go_at_call 41; with_reducible refine (bears_calls d g S _ HV.out.dk HO.out).mono ?_; rintro e w2 ⟨rfl, hk2, hf2⟩; clear HV c0 c1 c2 c3 c4 f0 f1 f2 f3 f4; have F := Aside0.mk hf2; have HK := Aside0.mk hk2; clear hf2 hk2)
    go_ret
    exact ⟨rfl, HK.out, F.out⟩
  · have e1 : syncE d = 0 := hE
    have e2 : syncD d = settleD { bearsD d with safe := overF (lastOf d.row) d.safe } := by simp [syncD, hE]
    rw [e1, e2]
    clear e1 e2
    go_enter Try.func18, Try.ntmps18
    go_upto_region 6 with (go_at_call 41; with_reducible refine (bears_calls d g S _ HV.out.dk HO.out).mono ?_; rintro e w2 ⟨rfl, hk2, hf2⟩; clear HV c0 c1 c2 c3 c4 f0 f1 f2 f3 f4; have F := Aside0.mk hf2; have HK := Aside0.mk hk2; clear hf2 hk2)
    obtain ⟨sv, rv, m, hv⟩ := HK.out
    clear HK
    have hrow := bears_row d
    have hsafe := bears_safe d
    rw [hrow] at hv
    have HSF := Aside0.mk hsafe
    clear hrow hsafe
    generalize hD : bearsD d = d2 at hv HSF
    have HD := Aside0.mk hD; clear hD
    obtain ⟨L, c, hmap, hmi, hget⟩ := hv.map
    have HV := Aside0.mk hv; clear hv
    have HMI := Aside0.mk hmi; have HG := Aside0.mk hget; clear hmi hget
    have hrng := run_range_map (P := Try.prog) w2 78 3 9 m (ents L) c (by kernel_rfl) hmap
    have HM := Aside0.mk hmap; clear hmap
    obtain ⟨⟨c0, c1, c2, c3, c4⟩, fr_⟩ := HV.out.cells; have f0 := fr_ 0; have f1 := fr_ 1; have f2 := fr_ 2; have f3 := fr_ 3; have f4 := fr_ 4; clear fr_
    go_upto_region 7 with (fail)
    have hr0 := heap_alloc_new w2 (.mapIter (some m) c #[] c)
    have hm0 := blk_alloc HM.out (.mapIter (some m) c #[] c)
    have hv0 := HV.out.below ((Below.refl w2.heap.size w2).alloc (Nat.le_refl _) (.mapIter (some m) c #[] c))
    have hf0 := F.out.alloc (.mapIter (some m) c #[] c)
    have hT := Aside0.mk (HS.out.next F.out.size w2.heap.size (Nat.le_refl _))
    clear hrng c0 c1 c2 c3 c4 f0 f1 f2 f3 f4 HV F HM
    generalize w2.alloc (.mapIter (some m) c #[] c) = W at *
    generalize w2.heap.size = r at *
    have HR0 := Aside0.mk hr0; have HM0 := Aside0.mk hm0; have HV0 := Aside0.mk hv0; have HF0 := Aside0.mk hf0
    clear hr0 hm0 hv0 hf0
    go_loopw [4, 5] (fun _ _ wr => ∃ seen : Array Nat, Aside0 (wr.heap[r]? = some (.mapIter (some m) c seen c)) ∧ Aside0 (wr.heap[m]? = some (.map (ents L) c)) ∧ Aside0 (DV wr S g { d2 with safe := overF (outM L seen) d.safe } (lastOf d.row) sv rv m) ∧ Aside0 (FS S w wr)) (fun _ _ wr => (leftOf (ents L) (wr.iterSeen r)).size)
    case atStart => exact ⟨#[], HR0, HM0, ⟨by rw [out_nil, over_none, ← HSF.out]; exact HV0.out⟩, HF0⟩
    case round =>
      clear HR0 HM0 HV0 HF0
      obtain ⟨seen, HR, HM, HV, F⟩ := hrel
      have hold : ∀ x ∈ (ents L).toList, x.born < c := by
        intro x hx
        simp [ents] at hx
        obtain ⟨a, b, q, hm, rfl⟩ := hx
        exact HMI.out.below _ hm
      rcases run_next_at (P := Try.prog) wr 0 r m c c seen (ents L) c HR.out HM.out hold (Nat.le_refl _) with ⟨h0, hrun⟩ | ⟨e, he, W1, hW1, hrun⟩
      · have hall := left_seen h0
        have hfun : outM L seen = lastOf d.row := by
          funext i
          rw [out_all L seen hall, HG.out]
        have HFUN := Aside0.mk hfun
        clear h0 hall hfun hold
        go_wp2_with (go_at_call 42; with_reducible refine (settle_calls _ g S _ sv rv m _ HV.out).mono ?_; rintro e w5 ⟨rfl, hk5, hf5⟩; have HK := Aside0.mk hk5; have F5 := Aside0.mk (F.out.trans hf5); clear hk5 hf5)
        go_ret
        refine ⟨rfl, ?_, F5.out⟩
        have q := HK.out
        rw [HFUN.out] at q
        rw [HD.out]
        exact q
      · obtain ⟨p, hp, rfl⟩ := left_mem he
        have HSN := Aside0.mk (iterSeen_of HR.out)
        have hsh := left_shrinks (ents L) seen (ent p) he
        obtain ⟨k, v, b⟩ := p
        have hkm : (k, v) ∈ d.row := last_mem (by rw [← HG.out, get_of_mem (c := 0) HMI.out.keys hp])
        have hrange := HO.out.2.2.2.2 _ hkm
        have hk0 : 0 ≤ k := hrange.1
        have hk1 : k < d.safe.length := hrange.2
        have hin : ent (k, v, b) ∈ (ents L).toList := (mem_left he).1
        have hW : W1.heap = wr.heap ∧ FS S w W1 ∧ DV W1 S g { safe := overF (outM L seen) d.safe, row := d2.row, gone := d2.gone, fuse := d2.fuse } (lastOf d.row) sv rv m := by
          rcases hW1 with rfl | rfl
          · exact ⟨rfl, F.out, HV.out⟩
          · exact ⟨rfl, F.out.drew, HV.out.drew⟩
        obtain ⟨hWh, hWF, hWV⟩ := hW
        have hr1 : W1.heap[r]? = some (.mapIter (some m) c seen c) := by rw [hWh]; exact HR.out
        have hm1 : W1.heap[m]? = some (.map (ents L) c) := by rw [hWh]; exact HM.out
        have hrl : r < W1.heap.size := by
          rcases Nat.lt_or_ge r W1.heap.size with h1 | h1
          · exact h1
          · simp [Array.getElem?_eq_none h1] at hr1
        have hmr : m ≠ r := by
          intro e
          rw [e, hr1] at hm1
          cases hm1
        change (Instr.next _ false 0).run Try.prog wr = .ok (.tuple #[.bool true, .int .i64 k, .string v]) (setBlock W1 r (.mapIter (some m) c (seen.push b) c)) at hrun
        have hv2 := hWV.iter hr1 (.mapIter (some m) c (seen.push b) c)
        have hr2 := setBlock_at W1 r (.mapIter (some m) c (seen.push b) c) hrl
        have hm2 := (setBlock_other W1 r (.mapIter (some m) c (seen.push b) c) hmr).trans hm1
        have hf2 := hWF.setBlock (.inl hT.out) (.mapIter (some m) c (seen.push b) c)
        obtain ⟨bs, cc, cur, hsv, _, hbs, _, _, _, htk⟩ := hv2.safe.open (by simp only [over_length]; omega)
        have hlen : (overF (outM L seen) d.safe).length = d.safe.length := over_length _ _
        simp only [hlen] at hsv
        subst hsv
        generalize hW2 : setBlock W1 r (.mapIter (some m) c (seen.push b) c) = W2 at *
        clear hW2 hWh hWF hWV hr1 hm1 hrl hW1 HR HM HV F
        have hent := run_entry_at (P := Try.prog) W2 r m c seen (ents L) c (ent (k, v, b)) hr2 hm2 hin (by have := HMI.out.borns; simp only [ents, List.map_map]; exact this)
        change (Instr.entry _).run Try.prog W2 = .ok (.tuple #[.int .i64 k, .string v]) W2 at hent
        have hv3 := hv2.set_safe k.toNat (by simp only [over_length]; omega) v
        have hr3 := (Below.heap_setCell W2 ⟨bs, k.toNat, none⟩ (.string v) r (iter_ne hr2 hbs).symm).trans hr2
        have hm3 := (Below.heap_setCell W2 ⟨bs, k.toNat, none⟩ (.string v) m (fun e => by rw [e] at hm2; rw [hm2] at hbs; cases hbs)).trans hm2
        have hf3 := hf2.setCell (p := ⟨bs, k.toNat, none⟩) (.inl (hv2.safe.mem bs rfl)) (.string v)
        have hsafe : (overF (outM L seen) d.safe).set k.toNat v = overF (outM L (seen.push b)) d.safe := over_set _ _ _ k v hk0 (fun i => out_push L c HMI.out seen k v b hp i)
        simp only [hsafe] at hv3
        have fz : W2.frozen? ⟨bs, k.toNat, none⟩ = false := blk_frozen hbs _
        have cz : ∃ u, W2.cell? ⟨bs, k.toNat, none⟩ = some u := by
          have hx : ((overF (outM L seen) d.safe).map Value.string)[k.toNat]? = some (.string ((overF (outM L seen) d.safe)[k.toNat]'(by rw [over_length]; omega))) := by rw [List.getElem?_map, List.getElem?_eq_getElem]; rfl
          exact ⟨_, cell_of hbs htk hx⟩
        obtain ⟨u, cz⟩ := cz
        have HV2 := Aside0.mk hv2; have HR3 := Aside0.mk hr3; have HM3 := Aside0.mk hm3; have HF3 := Aside0.mk hf3; have HV3 := Aside0.mk hv3; have HSH := Aside0.mk hsh
        clear hsh
        clear hold hrange hkm hin hv2 hr2 hm2 hf2 hbs hlen hv3 hr3 hm3 hf3 hsafe he hp htk
        obtain ⟨⟨c0, c1, c2, c3, c4⟩, fr_⟩ := HV2.out.cells; clear fr_
        go_wp2
        go_roundw
        case measure =>
          rw [iterSeen_of HR3.out, HSN.out]
          exact HSH.out
        case rel => exact ⟨seen.push b, HR3, HM3, HV3, HF3⟩
end Go.Proofs.Ytbdfdfahpdilpaa.Dk
