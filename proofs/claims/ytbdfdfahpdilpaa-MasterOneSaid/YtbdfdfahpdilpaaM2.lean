import Derived.Test.YtbdfdfahpdilpaaM1
/-! Layer 12: master: Read. -/
namespace Go.Proofs.Ytbdfdfahpdilpaa.X12
open Go Go.RowKit Go.ChangeMaps Go.Proofs.Ytbdfdfahpdilpaa.Arr Go.Proofs.Ytbdfdfahpdilpaa.Mp Go.Proofs.Ytbdfdfahpdilpaa.Ow Go.Proofs.Ytbdfdfahpdilpaa.Dk Go.Proofs.Ytbdfdfahpdilpaa.Slab Go.Proofs.YtbdfdfahpdilpaaW.PrintWords Go.Proofs.YtbdfdfahpdilpaaW.PrintLast Go.Proofs.YtbdfdfahpdilpaaW.PrintMore
set_option linter.unusedVariables false
set_option linter.unusedSimpArgs false
/-- What is found so far. -/
structure MS2 where
  c : Int
  l : Int
  t : Int
  f : Bool
def stepM (s : MS2) (x : MR) : MS2 := if x.ok = true ∧ (s.f = false ∨ s.t < x.t) then ⟨x.c, x.l, x.t, true⟩ else s
def foldM (d : DS) (base : Int) : Nat → MS2
  | 0 => ⟨0, 1, 0, false⟩
  | k + 1 => stepM (foldM d base k) (oneD d (base + (k : Int)))
def readM (d : DS) (base : Int) : MS2 × Int := if bothE d base ≠ 0 then (⟨0, 0, 0, false⟩, bothE d base) else if d.gone = true then (⟨0, 0, 0, false⟩, 4) else (foldM d base 2, 0)
theorem one_range (d : DS) (i : Int) : 0 ≤ (oneD d i).t ∧ (oneD d i).t < 4294967296 := by
  unfold oneD
  split
  · exact ⟨by decide, by decide⟩
  · unfold oneB
    split
    · exact unpack_range _
    · exact ⟨by decide, by decide⟩
set_option maxHeartbeats 1000000 in
set_option maxRecDepth 20000 in
theorem mread_nil (base : Int) (w : World) : Calls Try.prog 33 #[.pointer none, .int .i64 base] w fun e w' => e = .returned (.tuple #[.agg #[.int .i64 0, .int .i64 0], .int .u32 0, .int .i64 10]) ∧ Below w.heap.size w w' := by
  go_enter Try.func33, Try.ntmps33
  go_upto_region 1 with (fail)
  have hta := heap_alloc_new w (.cells #[.int .i64 0, .int .i64 0] 61)
  have hbb := (Below.refl w.heap.size w).alloc (Nat.le_refl _) (.cells #[.int .i64 0, .int .i64 0] 61)
  have F := Aside0.mk hbb; have HT := Aside0.mk hta
  clear hbb hta
  generalize w.alloc (.cells #[.int .i64 0, .int .i64 0] 61) = W at *
  go_wp2_with (go_at_call 50; (with_reducible refine (mthere_nil _ _).mono ?_); rintro e w1 ⟨rfl, hb1⟩; have F_n := Aside0.mk (Arr.below_trans F.out hb1); have HT_n := Aside0.mk (blk_below HT.out hb1); clear F HT hb1; have F := F_n; have HT := HT_n; clear F_n HT_n; have t0 : w1.cell? ⟨w.heap.size, 0, none⟩ = some (.int .i64 0) := blk_cell HT.out 0; have t1 : w1.cell? ⟨w.heap.size, 1, none⟩ = some (.int .i64 0) := blk_cell HT.out 1; have f0 := blk_frozen HT.out 0; have f1 := blk_frozen HT.out 1)
  refine bodyPost_ret (results_ctt rfl _ _ _ _ _ _ _ rfl (set_blk (set_blk HT.out 0 _) 1 _) Try.underlying61 rfl rfl) rfl ⟨rfl, ?_⟩
  exact (F.out.setCell (p := ⟨w.heap.size, 0, none⟩) (Nat.le_refl _) _).setCell (p := ⟨w.heap.size, 1, none⟩) (Nat.le_refl _) _
/-- A store into a block that is none of the disk's: by its type. -/
theorem dk_set {w : World} {S : Nat → Prop} {g : Nat} {d : DS} (h : DK w S g d) {b : Nat} {cs : Array Value} {t : TypeId} {fr : Nat × Nat} (hb : w.heap[b]? = some (.cells cs t fr)) (ht : t ≠ TD ∧ t ≠ TW ∧ t ≠ TS) (i : Nat) (u : Value) : DK (w.setCell ⟨b, i, none⟩ u) S g d := by
  obtain ⟨sv, rv, m, h⟩ := h
  refine ⟨sv, rv, m, (Below.heap_setCell w ⟨b, i, none⟩ u g (Dk.blk_ne h.blk hb (fun e => ht.1 e.symm))).trans h.blk, h.safe.same fun k hk => Below.heap_setCell w ⟨b, i, none⟩ u k (ow_ne h.safe hb (fun e => ht.2.2 e.symm) k hk), h.row.same fun k hk => Below.heap_setCell w ⟨b, i, none⟩ u k (ow_ne h.row hb (fun e => ht.2.1 e.symm) k hk), h.map.same (Below.heap_setCell w ⟨b, i, none⟩ u m (MP.ne_cells h.map hb)), h.sg, h.sm⟩
set_option maxHeartbeats 8000000 in
set_option maxRecDepth 20000 in
theorem mread_calls (d : DS) (g : Nat) (base : Int) (S : Nat → Prop) (w : World) (h : DK w S g d) (ho : OkD d) : Calls Try.prog 33 #[.pointer (some ⟨g, 0, none⟩), .int .i64 base] w fun e w' => e = .returned (.tuple #[.agg #[.int .i64 (readM d base).1.c, .int .i64 (readM d base).1.l], .int .u32 (readM d base).1.t, .int .i64 (readM d base).2]) ∧ Below w.heap.size w w' := by
  have HK := Aside0.mk h; have HO := Aside0.mk ho; clear h ho
  by_cases hB : bothE d base = 0
  · have hb0 : (bothE d base == 0) = true := by simp [hB]
    cases hG : d.gone with
    | true =>
      have er : readM d base = (⟨0, 0, 0, false⟩, 4) := by unfold readM; rw [if_neg (by simp [hB]), if_pos hG]
      rw [er]
      clear er hB
      go_enter Try.func33, Try.ntmps33
      go_upto_region 1 with (fail)
      have hta := heap_alloc_new w (.cells #[.int .i64 0, .int .i64 0] 61)
      have hbb := (Below.refl w.heap.size w).alloc (Nat.le_refl _) (.cells #[.int .i64 0, .int .i64 0] 61)
      have hk1 := HK.out.below hbb
      clear HK
      have HK := Aside0.mk hk1; have F := Aside0.mk hbb; have HT := Aside0.mk hta
      clear hk1 hbb hta
      generalize w.alloc (.cells #[.int .i64 0, .int .i64 0] 61) = W at *
      go_wp2_with (first | (go_at_call 50; (with_reducible refine (mthere_calls _ _ _ _ _ HK.out HO.out).mono ?_); rintro e w1 ⟨rfl, hb1⟩; have F_n := Aside0.mk (Arr.below_trans F.out hb1); have HT_n := Aside0.mk (blk_below HT.out hb1); have HK_n := Aside0.mk (HK.out.below hb1); clear F HT HK hb1; have F := F_n; have HT := HT_n; have HK := HK_n; clear F_n HT_n HK_n; have t0 : w1.cell? ⟨w.heap.size, 0, none⟩ = some (.int .i64 0) := blk_cell HT.out 0; have t1 : w1.cell? ⟨w.heap.size, 1, none⟩ = some (.int .i64 0) := blk_cell HT.out 1; have f0 := blk_frozen HT.out 0; have f1 := blk_frozen HT.out 1) | (go_at_call 22; (with_reducible refine (dead_calls _ _ _ _ HK.out).mono ?_); rintro e w1 ⟨rfl, hb1⟩; clear t0 t1 f0 f1; have F_n := Aside0.mk (Arr.below_trans F.out hb1); have HT_n := Aside0.mk (blk_below HT.out hb1); have HK_n := Aside0.mk (HK.out.below hb1); clear F HT HK hb1; have F := F_n; have HT := HT_n; have HK := HK_n; clear F_n HT_n HK_n; have t0 : w1.cell? ⟨w.heap.size, 0, none⟩ = some (.int .i64 0) := blk_cell HT.out 0; have t1 : w1.cell? ⟨w.heap.size, 1, none⟩ = some (.int .i64 0) := blk_cell HT.out 1; have f0 := blk_frozen HT.out 0; have f1 := blk_frozen HT.out 1))
      refine bodyPost_ret (results_ctt rfl _ _ _ _ _ _ _ rfl (set_blk (set_blk HT.out 0 _) 1 _) Try.underlying61 rfl rfl) rfl ⟨rfl, ?_⟩
      exact (F.out.setCell (p := ⟨w.heap.size, 0, none⟩) (Nat.le_refl _) _).setCell (p := ⟨w.heap.size, 1, none⟩) (Nat.le_refl _) _
    | false =>
      have er : readM d base = (foldM d base 2, 0) := by unfold readM; rw [if_neg (by simp [hB]), if_neg (by simp [hG])]
      rw [er]
      have HBB := Aside0.mk (show 0 ≤ base ∧ base ≤ (d.safe.length : Int) - 2 by
        unfold bothE at hB
        by_cases hc : base < 0 ∨ (d.safe.length : Int) - 2 < base
        · rw [if_pos hc] at hB; cases hB
        · omega)
      clear er hB
      go_enter Try.func33, Try.ntmps33
      go_upto_region 1 with (fail)
      have hta := heap_alloc_new w (.cells #[.int .i64 0, .int .i64 0] 61)
      have hbb := (Below.refl w.heap.size w).alloc (Nat.le_refl _) (.cells #[.int .i64 0, .int .i64 0] 61)
      have hk1 := HK.out.below hbb
      clear HK
      have HK := Aside0.mk hk1; have F := Aside0.mk hbb; have HT := Aside0.mk hta
      clear hk1 hbb hta
      generalize w.alloc (.cells #[.int .i64 0, .int .i64 0] 61) = W at *
      go_upto_region 9 with (first | (go_at_call 50; (with_reducible refine (mthere_calls _ _ _ _ _ HK.out HO.out).mono ?_); rintro e w1 ⟨rfl, hb1⟩; have F_n := Aside0.mk (Arr.below_trans F.out hb1); have HT_n := Aside0.mk (blk_below HT.out hb1); have HK_n := Aside0.mk (HK.out.below hb1); clear F HT HK hb1; have F := F_n; have HT := HT_n; have HK := HK_n; clear F_n HT_n HK_n; have t0 : w1.cell? ⟨w.heap.size, 0, none⟩ = some (.int .i64 0) := blk_cell HT.out 0; have t1 : w1.cell? ⟨w.heap.size, 1, none⟩ = some (.int .i64 0) := blk_cell HT.out 1; have f0 := blk_frozen HT.out 0; have f1 := blk_frozen HT.out 1) | (go_at_call 22; (with_reducible refine (dead_calls _ _ _ _ HK.out).mono ?_); rintro e w1 ⟨rfl, hb1⟩; clear t0 t1 f0 f1; have F_n := Aside0.mk (Arr.below_trans F.out hb1); have HT_n := Aside0.mk (blk_below HT.out hb1); have HK_n := Aside0.mk (HK.out.below hb1); clear F HT HK hb1; have F := F_n; have HT := HT_n; have HK := HK_n; clear F_n HT_n HK_n; have t0 : w1.cell? ⟨w.heap.size, 0, none⟩ = some (.int .i64 0) := blk_cell HT.out 0; have t1 : w1.cell? ⟨w.heap.size, 1, none⟩ = some (.int .i64 0) := blk_cell HT.out 1; have f0 := blk_frozen HT.out 0; have f1 := blk_frozen HT.out 1))
      have HT2 := Aside0.mk (show (w1.setCell ⟨w.heap.size, 1, none⟩ (.int .i64 1)).heap[w.heap.size]? = some (.cells #[.int .i64 0, .int .i64 1] 61 (0, 0)) from set_blk HT.out 1 _)
      have F2 := Aside0.mk (F.out.setCell (p := ⟨w.heap.size, 1, none⟩) (Nat.le_refl _) (.int .i64 1))
      have HK2 := Aside0.mk (show DK (w1.setCell ⟨w.heap.size, 1, none⟩ (.int .i64 1)) S g d from dk_set HK.out HT.out (by decide) 1 _)
      clear HT F HK t0 t1 f0 f1
      generalize w1.setCell ⟨w.heap.size, 1, none⟩ (.int .i64 1) = X at *
      go_loopw [5, 8, 24] (fun tv fv v wr => ∃ k : Nat, v = .int .i64 k ∧ tv = .int .u32 (foldM d base k).t ∧ fv = .bool (foldM d base k).f ∧ Aside0 (k ≤ 2) ∧ Aside0 (wr.heap[w.heap.size]? = some (.cells #[.int .i64 (foldM d base k).c, .int .i64 (foldM d base k).l] 61 (0, 0))) ∧ Aside0 (DK wr S g d) ∧ Aside0 (Below w.heap.size w wr)) (fun _ _ v _ => 2 - (intOf v).toNat)
      case atStart => exact ⟨0, rfl, rfl, rfl, ⟨by omega⟩, HT2, HK2, F2⟩
      case round =>
        clear HT2 HK2 F2
        obtain ⟨k, rfl, rfl, rfl, K, HT, HK, F⟩ := hrel
        by_cases hlt : k < 2
        · have h1 : (k : Int) < 2 := by omega
          have hwk : wrap64 ((k : Int) + 1) = ((k + 1 : Nat) : Int) := by unfold wrap64; omega
          have hwb : wrap64 (base + (k : Int)) = base + (k : Int) := by
            have := HBB.out
            have hl := HO.out.2.2.2.1
            unfold wrap64; omega
          have HLT := Aside0.mk hlt
          have HST := Aside0.mk (show foldM d base (k + 1) = stepM (foldM d base k) (oneD d (base + (k : Int))) from rfl)
          clear hlt
          generalize foldM d base k = s at *
          obtain ⟨sc, sl, st, sf⟩ := s
          simp only at HT
          have hone := fun w hk => one_calls d g (base + (k : Int)) S w hk HO.out
          generalize oneD d (base + (k : Int)) = x at *
          obtain ⟨xc, xl, xt, xo⟩ := x
          simp only at hone
          have HON := Aside0.mk hone
          clear hone
          cases xo with
          | false =>
            have hst : foldM d base (k + 1) = ⟨sc, sl, st, sf⟩ := by rw [HST.out]; unfold stepM; simp
            have HST2 := Aside0.mk hst
            clear hst
            go_wp2_with (go_at_call 51; refine (HON.out _ HK.out).mono ?_; rintro e w1 ⟨rfl, hb1⟩; have hb2 := Arr.below_trans hb1 ((Below.refl w1.heap.size w1).alloc (Nat.le_refl _) (.cells #[.int .i64 xc, .int .i64 xl] 61)); have F_n := Aside0.mk (Arr.below_trans F.out hb2); have HT_n := Aside0.mk (blk_below HT.out hb2); have HK_n := Aside0.mk (HK.out.below hb2); have HN := Aside0.mk (heap_alloc_new w1 (.cells #[.int .i64 xc, .int .i64 xl] 61)); clear F HT HK hb1 hb2; have F := F_n; have HT := HT_n; have HK := HK_n; clear F_n HT_n HK_n; have t0 : (w1.alloc (.cells #[.int .i64 xc, .int .i64 xl] 61)).cell? ⟨w.heap.size, 0, none⟩ = some _ := blk_cell HT.out 0; have t1 : (w1.alloc (.cells #[.int .i64 xc, .int .i64 xl] 61)).cell? ⟨w.heap.size, 1, none⟩ = some _ := blk_cell HT.out 1; have f0 := blk_frozen HT.out 0; have f1 := blk_frozen HT.out 1; have n0 : (w1.alloc (.cells #[.int .i64 xc, .int .i64 xl] 61)).cell? ⟨w1.heap.size, 0, none⟩ = some _ := blk_cell HN.out 0; have n1 : (w1.alloc (.cells #[.int .i64 xc, .int .i64 xl] 61)).cell? ⟨w1.heap.size, 1, none⟩ = some _ := blk_cell HN.out 1)
            go_roundw
            case rel => exact ⟨k + 1, by first | rw [hwk] | go_num, by rw [HST2.out], by rw [HST2.out], ⟨HLT.out⟩, ⟨by rw [HST2.out]; exact HT.out⟩, HK, F⟩
            case measure =>
              try rw [hwk]
              have := HLT.out
              simp [intOf]; omega
          | true =>
            cases sf with
            | false =>
              have hst : foldM d base (k + 1) = ⟨xc, xl, xt, true⟩ := by rw [HST.out]; unfold stepM; simp
              have HST2 := Aside0.mk hst
              clear hst
              go_wp2_with (go_at_call 51; refine (HON.out _ HK.out).mono ?_; rintro e w1 ⟨rfl, hb1⟩; have hb2 := Arr.below_trans hb1 ((Below.refl w1.heap.size w1).alloc (Nat.le_refl _) (.cells #[.int .i64 xc, .int .i64 xl] 61)); have F_n := Aside0.mk (Arr.below_trans F.out hb2); have HT_n := Aside0.mk (blk_below HT.out hb2); have HK_n := Aside0.mk (HK.out.below hb2); have HN := Aside0.mk (heap_alloc_new w1 (.cells #[.int .i64 xc, .int .i64 xl] 61)); clear F HT HK hb1 hb2; have F := F_n; have HT := HT_n; have HK := HK_n; clear F_n HT_n HK_n; have t0 : (w1.alloc (.cells #[.int .i64 xc, .int .i64 xl] 61)).cell? ⟨w.heap.size, 0, none⟩ = some _ := blk_cell HT.out 0; have t1 : (w1.alloc (.cells #[.int .i64 xc, .int .i64 xl] 61)).cell? ⟨w.heap.size, 1, none⟩ = some _ := blk_cell HT.out 1; have f0 := blk_frozen HT.out 0; have f1 := blk_frozen HT.out 1; have n0 : (w1.alloc (.cells #[.int .i64 xc, .int .i64 xl] 61)).cell? ⟨w1.heap.size, 0, none⟩ = some _ := blk_cell HN.out 0; have n1 : (w1.alloc (.cells #[.int .i64 xc, .int .i64 xl] 61)).cell? ⟨w1.heap.size, 1, none⟩ = some _ := blk_cell HN.out 1)
              go_roundw
              case rel => exact ⟨k + 1, by first | rw [hwk] | go_num, by rw [HST2.out], by rw [HST2.out], ⟨HLT.out⟩, ⟨by rw [HST2.out]; exact set_blk (set_blk HT.out 0 _) 1 _⟩, ⟨dk_set (dk_set HK.out HT.out (by decide) 0 _) (set_blk HT.out 0 _) (by decide) 1 _⟩, ⟨(F.out.setCell (p := ⟨w.heap.size, 0, none⟩) (Nat.le_refl _) _).setCell (p := ⟨w.heap.size, 1, none⟩) (Nat.le_refl _) _⟩⟩
              case measure =>
                try rw [hwk]
                have := HLT.out
                simp [intOf]; omega
            | true =>
              by_cases hcmp : st < xt
              · skip
                have hst : foldM d base (k + 1) = ⟨xc, xl, xt, true⟩ := by rw [HST.out]; unfold stepM; simp [hcmp]
                have HST2 := Aside0.mk hst
                clear hst
                go_wp2_with (go_at_call 51; refine (HON.out _ HK.out).mono ?_; rintro e w1 ⟨rfl, hb1⟩; have hb2 := Arr.below_trans hb1 ((Below.refl w1.heap.size w1).alloc (Nat.le_refl _) (.cells #[.int .i64 xc, .int .i64 xl] 61)); have F_n := Aside0.mk (Arr.below_trans F.out hb2); have HT_n := Aside0.mk (blk_below HT.out hb2); have HK_n := Aside0.mk (HK.out.below hb2); have HN := Aside0.mk (heap_alloc_new w1 (.cells #[.int .i64 xc, .int .i64 xl] 61)); clear F HT HK hb1 hb2; have F := F_n; have HT := HT_n; have HK := HK_n; clear F_n HT_n HK_n; have t0 : (w1.alloc (.cells #[.int .i64 xc, .int .i64 xl] 61)).cell? ⟨w.heap.size, 0, none⟩ = some _ := blk_cell HT.out 0; have t1 : (w1.alloc (.cells #[.int .i64 xc, .int .i64 xl] 61)).cell? ⟨w.heap.size, 1, none⟩ = some _ := blk_cell HT.out 1; have f0 := blk_frozen HT.out 0; have f1 := blk_frozen HT.out 1; have n0 : (w1.alloc (.cells #[.int .i64 xc, .int .i64 xl] 61)).cell? ⟨w1.heap.size, 0, none⟩ = some _ := blk_cell HN.out 0; have n1 : (w1.alloc (.cells #[.int .i64 xc, .int .i64 xl] 61)).cell? ⟨w1.heap.size, 1, none⟩ = some _ := blk_cell HN.out 1)
                go_roundw
                case rel => exact ⟨k + 1, by first | rw [hwk] | go_num, by rw [HST2.out], by rw [HST2.out], ⟨HLT.out⟩, ⟨by rw [HST2.out]; exact set_blk (set_blk HT.out 0 _) 1 _⟩, ⟨dk_set (dk_set HK.out HT.out (by decide) 0 _) (set_blk HT.out 0 _) (by decide) 1 _⟩, ⟨(F.out.setCell (p := ⟨w.heap.size, 0, none⟩) (Nat.le_refl _) _).setCell (p := ⟨w.heap.size, 1, none⟩) (Nat.le_refl _) _⟩⟩
                case measure =>
                  try rw [hwk]
                  have := HLT.out
                  simp [intOf]; omega
              · have hcmp2 : ¬ st < xt := hcmp
                have hst : foldM d base (k + 1) = ⟨sc, sl, st, true⟩ := by rw [HST.out]; unfold stepM; simp [hcmp]
                have HST2 := Aside0.mk hst
                clear hst
                go_wp2_with (go_at_call 51; refine (HON.out _ HK.out).mono ?_; rintro e w1 ⟨rfl, hb1⟩; have hb2 := Arr.below_trans hb1 ((Below.refl w1.heap.size w1).alloc (Nat.le_refl _) (.cells #[.int .i64 xc, .int .i64 xl] 61)); have F_n := Aside0.mk (Arr.below_trans F.out hb2); have HT_n := Aside0.mk (blk_below HT.out hb2); have HK_n := Aside0.mk (HK.out.below hb2); have HN := Aside0.mk (heap_alloc_new w1 (.cells #[.int .i64 xc, .int .i64 xl] 61)); clear F HT HK hb1 hb2; have F := F_n; have HT := HT_n; have HK := HK_n; clear F_n HT_n HK_n; have t0 : (w1.alloc (.cells #[.int .i64 xc, .int .i64 xl] 61)).cell? ⟨w.heap.size, 0, none⟩ = some _ := blk_cell HT.out 0; have t1 : (w1.alloc (.cells #[.int .i64 xc, .int .i64 xl] 61)).cell? ⟨w.heap.size, 1, none⟩ = some _ := blk_cell HT.out 1; have f0 := blk_frozen HT.out 0; have f1 := blk_frozen HT.out 1; have n0 : (w1.alloc (.cells #[.int .i64 xc, .int .i64 xl] 61)).cell? ⟨w1.heap.size, 0, none⟩ = some _ := blk_cell HN.out 0; have n1 : (w1.alloc (.cells #[.int .i64 xc, .int .i64 xl] 61)).cell? ⟨w1.heap.size, 1, none⟩ = some _ := blk_cell HN.out 1)
                go_roundw
                case rel => exact ⟨k + 1, by first | rw [hwk] | go_num, by rw [HST2.out], by rw [HST2.out], ⟨HLT.out⟩, ⟨by rw [HST2.out]; exact HT.out⟩, HK, F⟩
                case measure =>
                  try rw [hwk]
                  have := HLT.out
                  simp [intOf]; omega
        · obtain rfl : k = 2 := by have := K.out; omega
          clear hlt
          generalize hfm : foldM d base 2 = s at *
          have HFM := Aside0.mk hfm; clear hfm
          have t0 : wr.cell? ⟨w.heap.size, 0, none⟩ = some (.int .i64 s.c) := blk_cell HT.out 0
          have t1 : wr.cell? ⟨w.heap.size, 1, none⟩ = some (.int .i64 s.l) := blk_cell HT.out 1
          have f0 := blk_frozen HT.out 0; have f1 := blk_frozen HT.out 1
          go_wp2
          refine bodyPost_ret (results_ctt rfl _ _ _ _ _ _ _ rfl (set_blk (set_blk HT.out 0 (.int .i64 s.c)) 1 (.int .i64 s.l)) Try.underlying61 rfl rfl) rfl ⟨?_, ?_⟩
          · rw [HFM.out]; rfl
          · exact (F.out.setCell (p := ⟨w.heap.size, 0, none⟩) (Nat.le_refl _) _).setCell (p := ⟨w.heap.size, 1, none⟩) (Nat.le_refl _) _
  · have hb0 : (bothE d base == 0) = false := by simp [hB]
    have er : readM d base = (⟨0, 0, 0, false⟩, bothE d base) := by unfold readM; rw [if_pos hB]
    rw [er]
    clear er hB
    go_enter Try.func33, Try.ntmps33
    go_upto_region 1 with (fail)
    have hta := heap_alloc_new w (.cells #[.int .i64 0, .int .i64 0] 61)
    have hbb := (Below.refl w.heap.size w).alloc (Nat.le_refl _) (.cells #[.int .i64 0, .int .i64 0] 61)
    have hk1 := HK.out.below hbb
    clear HK
    have HK := Aside0.mk hk1; have F := Aside0.mk hbb; have HT := Aside0.mk hta
    clear hk1 hbb hta
    generalize w.alloc (.cells #[.int .i64 0, .int .i64 0] 61) = W at *
    go_wp2_with (first | (go_at_call 50; (with_reducible refine (mthere_calls _ _ _ _ _ HK.out HO.out).mono ?_); rintro e w1 ⟨rfl, hb1⟩; have F_n := Aside0.mk (Arr.below_trans F.out hb1); have HT_n := Aside0.mk (blk_below HT.out hb1); have HK_n := Aside0.mk (HK.out.below hb1); clear F HT HK hb1; have F := F_n; have HT := HT_n; have HK := HK_n; clear F_n HT_n HK_n; have t0 : w1.cell? ⟨w.heap.size, 0, none⟩ = some (.int .i64 0) := blk_cell HT.out 0; have t1 : w1.cell? ⟨w.heap.size, 1, none⟩ = some (.int .i64 0) := blk_cell HT.out 1; have f0 := blk_frozen HT.out 0; have f1 := blk_frozen HT.out 1))
    refine bodyPost_ret (results_ctt rfl _ _ _ _ _ _ _ rfl (set_blk (set_blk HT.out 0 _) 1 _) Try.underlying61 rfl rfl) rfl ⟨rfl, ?_⟩
    exact (F.out.setCell (p := ⟨w.heap.size, 0, none⟩) (Nat.le_refl _) _).setCell (p := ⟨w.heap.size, 1, none⟩) (Nat.le_refl _) _
end Go.Proofs.Ytbdfdfahpdilpaa.X12
