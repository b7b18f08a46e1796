import Derived.Test.YtcfknakmamcinaaQEZ0
import Derived.Test.YtcfknakmamcinaaQEZ1
import Derived.Test.YtcfknakmamcinaaQEZ2
import Derived.Test.YtcfknakmamcinaaQEZ3
namespace Go.Proofs.Ytcfknakmamcinaa.Wr
open Go.Proofs.Ytcfknakmamcinaa.Rp Go.Proofs.Ytcfknakmamcinaa.X4
open Go Go.RowKit Go.ChangeMaps Go.Proofs.Ytcfknakmamcinaa.Arr Go.Proofs.Ytcfknakmamcinaa.Ow Go.Proofs.YtcfknakmamcinaaW.PrintWords Go.Proofs.YtcfknakmamcinaaW.PrintLast Go.Proofs.YtcfknakmamcinaaW.PrintMore
set_option linter.unusedVariables false
set_option linter.unusedSimpArgs false
theorem keep_set {w : World} {o g : Nat} {x : Obj} (h : w.heap[g]? = some x) (hn : g ≠ o) (j : Nat) (v : Value) : (w.setCell ⟨o, j, none⟩ v).heap[g]? = some x := (Below.heap_setCell w ⟨o, j, none⟩ v g hn).trans h
theorem RD.keep {w : World} {o g p : Nat} {s : ByteArray} (h : RD w g s p) (hn : g ≠ o) (j : Nat) (v : Value) : RD (w.setCell ⟨o, j, none⟩ v) g s p := keep_set h hn j v
theorem FS.fresh {S : Nat → Prop} {a b : World} (h : FS S a b) (j : Nat) (v : Value) : FS S a (b.setCell ⟨a.heap.size, j, none⟩ v) := h.setCell (p := ⟨a.heap.size, j, none⟩) (.inr (Nat.le_refl _)) v
def rowT1 (s : ByteArray) (p : Nat) : Option (S66 × Nat) := (numR s p).bind fun a => (numR s a.2).bind fun b => (numR s b.2).bind fun c => some (⟨a.1, b.1, c.1⟩, c.2)
def rowQ1 (s : ByteArray) (p : Nat) : Option (S68 × Nat) := (smallR s p).bind fun a => (numR s a.2).bind fun b => some (⟨a.1, b.1⟩, b.2)
def rowsT (s : ByteArray) : Nat → Nat → Option (List S66 × Nat)
  | 0, p => some ([], p)
  | n + 1, p => (rowsT s n p).bind fun x => (rowT1 s x.2).bind fun r => some (x.1 ++ [r.1], r.2)
def rowsQ (s : ByteArray) : Nat → Nat → Option (List S68 × Nat)
  | 0, p => some ([], p)
  | n + 1, p => (rowsQ s n p).bind fun x => (rowQ1 s x.2).bind fun r => some (x.1 ++ [r.1], r.2)
def recR (s : ByteArray) (p : Nat) : Option (S25 × Nat) := (smallR s p).bind fun a =>
  if a.1 = 1 then (numR s a.2).bind fun t => (numR s t.2).bind fun v => (smallR s v.2).bind fun pg => (smallR s pg.2).bind fun o => (smallR s o.2).bind fun n => (takeR s n.2 n.1.toNat).bind fun b => (takeR s b.2 n.1.toNat).bind fun f => some (⟨1, t.1, pg.1, o.1, v.1, 0, 0, b.1, f.1, [], []⟩, f.2)
  else if a.1 = 2 then (numR s a.2).bind fun t => (numR s t.2).bind fun v => (numR s v.2).bind fun x => (smallR s x.2).bind fun pg => (smallR s pg.2).bind fun o => (smallR s o.2).bind fun n => (takeR s n.2 n.1.toNat).bind fun f => some (⟨2, t.1, pg.1, o.1, v.1, x.1, 0, ⟨#[]⟩, f.1, [], []⟩, f.2)
  else if a.1 = 3 ∨ a.1 = 4 then (numR s a.2).bind fun t => (numR s t.2).bind fun v => some (⟨a.1, t.1, 0, 0, v.1, 0, 0, ⟨#[]⟩, ⟨#[]⟩, [], []⟩, v.2)
  else if a.1 = 6 then (numR s a.2).bind fun b => (smallR s b.2).bind fun n => (rowsT s n.1.toNat n.2).bind fun x => (smallR s x.2).bind fun m => (rowsQ s m.1.toNat m.2).bind fun y => some (⟨6, 0, 0, 0, 0, 0, b.1, ⟨#[]⟩, ⟨#[]⟩, x.1, y.1⟩, y.2)
  else some (⟨a.1, 0, 0, 0, 0, 0, 0, ⟨#[]⟩, ⟨#[]⟩, [], []⟩, a.2)
/-- What the reader's 'rec' does. -/
def AfterX (g : Nat) (w : World) (s : ByteArray) (p : Nat) (x : Ending) (w' : World) : Prop :=
  match recR s p with
  | some q => ∃ v9 v10 : Value, x = .returned (.agg #[.int .i64 q.1.f0, .int .i64 q.1.f1, .int .i64 q.1.f2, .int .i64 q.1.f3, .int .i64 q.1.f4, .int .i64 q.1.f5, .int .i64 q.1.f6, .string q.1.f7, .string q.1.f8, v9, v10]) ∧ Kd.R k66 66 w' w.heap.size (fun _ => True) v9 q.1.f9 ∧ Kd.R k68 68 w' w.heap.size (fun _ => True) v10 q.1.f10 ∧ RD w' g s q.2 ∧ FS (One g) w w'
  | none => x = gaveUp 3 ∧ FS (One g) w w'
set_option maxHeartbeats 4000000 in
theorem rrec_three (g : Nat) (s : ByteArray) (p p1 : Nat) (w : World) (h : RD w g s p) (hp : p ≤ s.size) (hs : s.size ≤ 1000000000) (h0 : smallR s p = some (3, p1)) : Calls Try.prog 31 #[.pointer (some ⟨g, 0, none⟩)] w fun x w' => AfterX g w s p x w' := by
  have HS := Aside0.mk (show s.size ≤ 1000000000000 by omega); have HL := Aside0.mk hp
  have HE := Aside0.mk (show recR s p = (numR s p1).bind fun t => (numR s t.2).bind fun v => some (⟨3, t.1, 0, 0, v.1, 0, 0, ⟨#[]⟩, ⟨#[]⟩, [], []⟩, v.2) by unfold recR; rw [h0, Option.bind_some]; simp only; rw [if_neg (by decide), if_neg (by decide), if_pos (by decide)])
  have HL1 := Aside0.mk (show p1 ≤ s.size from (small_some h0).2.1)
  have HP1 := Aside0.mk h0
  have HGN := Aside0.mk (show g ≠ w.heap.size from Nat.ne_of_lt (blk_lt h))
  have HGO := Aside0.mk (show ¬ One g w.heap.size from fun e => HGN.out (e : w.heap.size = g).symm)
  have HR0 := Aside0.mk (h.below ((Below.refl _ _).alloc (Nat.le_refl _) (.cells #[.int .i64 0, .int .i64 0, .int .i64 0, .int .i64 0, .int .i64 0, .int .i64 0, .int .i64 0, .string ⟨#[]⟩, .string ⟨#[]⟩, .slice none 0 0, .slice none 0 0] 25)))
  have F0 := Aside0.mk ((FS.refl (One g) w).alloc (.cells #[.int .i64 0, .int .i64 0, .int .i64 0, .int .i64 0, .int .i64 0, .int .i64 0, .int .i64 0, .string ⟨#[]⟩, .string ⟨#[]⟩, .slice none 0 0, .slice none 0 0] 25))
  have HO0 := Aside0.mk (heap_alloc_new w (.cells #[.int .i64 0, .int .i64 0, .int .i64 0, .int .i64 0, .int .i64 0, .int .i64 0, .int .i64 0, .string ⟨#[]⟩, .string ⟨#[]⟩, .slice none 0 0, .slice none 0 0] 25))
  clear h hp hs h0
  go_enter Try.func31, Try.ntmps31
  go_upto_region 1 with (fail)
  generalize w.alloc (.cells #[.int .i64 0, .int .i64 0, .int .i64 0, .int .i64 0, .int .i64 0, .int .i64 0, .int .i64 0, .string ⟨#[]⟩, .string ⟨#[]⟩, .slice none 0 0, .slice none 0 0] 25) = W1 at *
  go_upto_region 2 with (go_at_call 44; (with_reducible refine (smallr_calls g s p _ HR0.out HL.out HS.out).mono ?_); rintro e w1 hx; rw [HP1.out] at hx; obtain ⟨rfl, hk_, hf_⟩ := hx; have HR1 := Aside0.mk hk_; have F1 := Aside0.mk (F0.out.trans hf_); have HO1 := Aside0.mk (hf_.old HO0.out HGO.out); clear hk_ hf_ HR0 F0 HO0; have y0 : w1.cell? ⟨w.heap.size, 0, none⟩ = some _ := blk_cell HO1.out 0; have f0 := blk_frozen HO1.out 0)
  have HO1x := Aside0.mk (show (w1.setCell ⟨w.heap.size, 0, none⟩ (.int .i64 3)).heap[w.heap.size]? = some (.cells #[.int .i64 3, .int .i64 0, .int .i64 0, .int .i64 0, .int .i64 0, .int .i64 0, .int .i64 0, .string ⟨#[]⟩, .string ⟨#[]⟩, .slice none 0 0, .slice none 0 0] 25 (0, 0)) from set_blk HO1.out 0 (.int .i64 3))
  have HR1x := Aside0.mk (show RD (w1.setCell ⟨w.heap.size, 0, none⟩ (.int .i64 3)) g s p1 from keep_set HR1.out HGN.out 0 _)
  have F1x := Aside0.mk (FS.fresh F1.out 0 (.int .i64 3))
  have HL1x := HL1
  clear HO1 HR1 F1 y0 f0
  generalize w1.setCell ⟨w.heap.size, 0, none⟩ (.int .i64 3) = u1 at *
  have k0 : u1.cell? ⟨w.heap.size, 0, none⟩ = some (.int .i64 3) := blk_cell HO1x.out 0
  go_upto_region 7 with (fail)
  cases hp2 : numR s p1 with
  | none =>
    have HP2 := Aside0.mk hp2; clear hp2
    go_wp2_with (first | (go_at_call 45; (with_reducible refine (numr_calls g s p1 _ HR1x.out HL1x.out HS.out).mono ?_); rintro e w2 hx; rw [HP2.out] at hx; obtain ⟨rfl, hf_⟩ := hx; have F2 := Aside0.mk (F1x.out.trans hf_); clear hf_))
    refine ⟨rfl, ?_⟩
    show AfterX g w s p (gaveUp 3) _
    unfold AfterX
    rw [show recR s p = none by rw [HE.out]; simp only [HP2.out, Option.bind_some, Option.bind_none]]
    exact ⟨rfl, F2.out⟩
  | some q_ =>
  obtain ⟨t_, p2⟩ := q_
  have HL2 := Aside0.mk (show p2 ≤ s.size from (rnum_some hp2).2.1)
  have HP2 := Aside0.mk hp2; clear hp2
  cases hp3 : numR s p2 with
  | none =>
    have HP3 := Aside0.mk hp3; clear hp3
    go_wp2_with (first | (go_at_call 45; (with_reducible refine (numr_calls g s p1 _ HR1x.out HL1x.out HS.out).mono ?_); rintro e w2 hx; rw [HP2.out] at hx; obtain ⟨rfl, hk_, hf_⟩ := hx; have HR2 := Aside0.mk hk_; have F2 := Aside0.mk (F1x.out.trans hf_); have HO2 := Aside0.mk (hf_.old HO1x.out HGO.out); clear hk_ hf_ HR1x F1x HO1x) | (go_at_call 45; (with_reducible refine (numr_calls g s p2 _ HR2.out HL2.out HS.out).mono ?_); rintro e w3 hx; rw [HP3.out] at hx; obtain ⟨rfl, hf_⟩ := hx; have F3 := Aside0.mk (F2.out.trans hf_); clear hf_))
    refine ⟨rfl, ?_⟩
    show AfterX g w s p (gaveUp 3) _
    unfold AfterX
    rw [show recR s p = none by rw [HE.out]; simp only [HP2.out, HP3.out, Option.bind_some, Option.bind_none]]
    exact ⟨rfl, F3.out⟩
  | some q_ =>
  obtain ⟨v_, p3⟩ := q_
  have HL3 := Aside0.mk (show p3 ≤ s.size from (rnum_some hp3).2.1)
  have HP3 := Aside0.mk hp3; clear hp3
  go_upto_region 8 with (first | (go_at_call 45; (with_reducible refine (numr_calls g s p1 _ HR1x.out HL1x.out HS.out).mono ?_); rintro e w2 hx; rw [HP2.out] at hx; obtain ⟨rfl, hk_, hf_⟩ := hx; have HR2 := Aside0.mk hk_; have F2 := Aside0.mk (F1x.out.trans hf_); have HO2 := Aside0.mk (hf_.old HO1x.out HGO.out); clear hk_ hf_ HR1x F1x HO1x) | (go_at_call 45; (with_reducible refine (numr_calls g s p2 _ HR2.out HL2.out HS.out).mono ?_); rintro e w3 hx; rw [HP3.out] at hx; obtain ⟨rfl, hk_, hf_⟩ := hx; have HR3 := Aside0.mk hk_; have F3 := Aside0.mk (F2.out.trans hf_); have HO3 := Aside0.mk (hf_.old HO2.out HGO.out); clear hk_ hf_ HR2 F2 HO2; have y1 : w3.cell? ⟨w.heap.size, 1, none⟩ = some _ := blk_cell HO3.out 1; have f1 := blk_frozen HO3.out 1; have y4 : w3.cell? ⟨w.heap.size, 4, none⟩ = some _ := blk_cell HO3.out 4; have f4 := blk_frozen HO3.out 4))
  have HO3x := Aside0.mk (show ((w3.setCell ⟨w.heap.size, 1, none⟩ (.int .i64 t_)).setCell ⟨w.heap.size, 4, none⟩ (.int .i64 v_)).heap[w.heap.size]? = some (.cells #[.int .i64 3, .int .i64 t_, .int .i64 0, .int .i64 0, .int .i64 v_, .int .i64 0, .int .i64 0, .string ⟨#[]⟩, .string ⟨#[]⟩, .slice none 0 0, .slice none 0 0] 25 (0, 0)) from (set_blk (set_blk HO3.out 1 (.int .i64 t_)) 4 (.int .i64 v_)))
  have HR3x := Aside0.mk (show RD ((w3.setCell ⟨w.heap.size, 1, none⟩ (.int .i64 t_)).setCell ⟨w.heap.size, 4, none⟩ (.int .i64 v_)) g s p3 from (keep_set (keep_set HR3.out HGN.out 1 (.int .i64 t_)) HGN.out 4 (.int .i64 v_)))
  have F3x := Aside0.mk (FS.fresh (FS.fresh F3.out 1 (.int .i64 t_)) 4 (.int .i64 v_))
  have HL3x := HL3
  clear HO3 HR3 F3 y1 f1 y4 f4
  generalize (w3.setCell ⟨w.heap.size, 1, none⟩ (.int .i64 t_)).setCell ⟨w.heap.size, 4, none⟩ (.int .i64 v_) = u3 at *
  (try clear k0)
  have k0 : u3.cell? ⟨w.heap.size, 0, none⟩ = some (.int .i64 3) := blk_cell HO3x.out 0
  go_upto_region 11 with (fail)
  clear k0
  have x0 : u3.cell? ⟨w.heap.size, 0, none⟩ = some _ := blk_cell HO3x.out 0; have f0 := blk_frozen HO3x.out 0
  have x1 : u3.cell? ⟨w.heap.size, 1, none⟩ = some _ := blk_cell HO3x.out 1; have f1 := blk_frozen HO3x.out 1
  have x2 : u3.cell? ⟨w.heap.size, 2, none⟩ = some _ := blk_cell HO3x.out 2; have f2 := blk_frozen HO3x.out 2
  have x3 : u3.cell? ⟨w.heap.size, 3, none⟩ = some _ := blk_cell HO3x.out 3; have f3 := blk_frozen HO3x.out 3
  have x4 : u3.cell? ⟨w.heap.size, 4, none⟩ = some _ := blk_cell HO3x.out 4; have f4 := blk_frozen HO3x.out 4
  have x5 : u3.cell? ⟨w.heap.size, 5, none⟩ = some _ := blk_cell HO3x.out 5; have f5 := blk_frozen HO3x.out 5
  have x6 : u3.cell? ⟨w.heap.size, 6, none⟩ = some _ := blk_cell HO3x.out 6; have f6 := blk_frozen HO3x.out 6
  have x7 : u3.cell? ⟨w.heap.size, 7, none⟩ = some _ := blk_cell HO3x.out 7; have f7 := blk_frozen HO3x.out 7
  have x8 : u3.cell? ⟨w.heap.size, 8, none⟩ = some _ := blk_cell HO3x.out 8; have f8 := blk_frozen HO3x.out 8
  have x9 : u3.cell? ⟨w.heap.size, 9, none⟩ = some _ := blk_cell HO3x.out 9; have f9 := blk_frozen HO3x.out 9
  have x10 : u3.cell? ⟨w.heap.size, 10, none⟩ = some _ := blk_cell HO3x.out 10; have f10 := blk_frozen HO3x.out 10
  have HB_ := HO3x; have HRR := HR3x; have FFF := F3x
  go_wp2
  refine bodyPost_ret (v := .agg #[.int .i64 3, .int .i64 t_, .int .i64 0, .int .i64 0, .int .i64 v_, .int .i64 0, .int .i64 0, .string ⟨#[]⟩, .string ⟨#[]⟩, .slice none 0 0, .slice none 0 0]) (by simp [results, Try.results31, go_sem, x0, x1, x2, x3, x4, x5, x6, x7, x8, x9, x10]) rfl ?_
  show AfterX g w s p _ _
  unfold AfterX
  rw [show recR s p = some ((⟨3, t_, 0, 0, v_, 0, 0, ⟨#[]⟩, ⟨#[]⟩, [], []⟩ : S25), p3) by rw [HE.out]; (try simp only [HP2.out, HP3.out, Option.bind_some])]
  refine ⟨_, _, rfl, Kd.R_nil _ _ _ _ _, Kd.R_nil _ _ _ _ _, ?_, ?_⟩
  · show RD _ g s p3
    repeat (first | (with_reducible refine RD.keep ?_ HGN.out _ _) | (with_reducible exact HRR.out))
  · repeat (first | (with_reducible refine FS.fresh ?_ _ _) | (with_reducible exact FFF.out))
set_option maxHeartbeats 4000000 in
theorem rrec_four (g : Nat) (s : ByteArray) (p p1 : Nat) (w : World) (h : RD w g s p) (hp : p ≤ s.size) (hs : s.size ≤ 1000000000) (h0 : smallR s p = some (4, p1)) : Calls Try.prog 31 #[.pointer (some ⟨g, 0, none⟩)] w fun x w' => AfterX g w s p x w' := by
  have HS := Aside0.mk (show s.size ≤ 1000000000000 by omega); have HL := Aside0.mk hp
  have HE := Aside0.mk (show recR s p = (numR s p1).bind fun t => (numR s t.2).bind fun v => some (⟨4, t.1, 0, 0, v.1, 0, 0, ⟨#[]⟩, ⟨#[]⟩, [], []⟩, v.2) by unfold recR; rw [h0, Option.bind_some]; simp only; rw [if_neg (by decide), if_neg (by decide), if_pos (by decide)])
  have HL1 := Aside0.mk (show p1 ≤ s.size from (small_some h0).2.1)
  have HP1 := Aside0.mk h0
  have HGN := Aside0.mk (show g ≠ w.heap.size from Nat.ne_of_lt (blk_lt h))
  have HGO := Aside0.mk (show ¬ One g w.heap.size from fun e => HGN.out (e : w.heap.size = g).symm)
  have HR0 := Aside0.mk (h.below ((Below.refl _ _).alloc (Nat.le_refl _) (.cells #[.int .i64 0, .int .i64 0, .int .i64 0, .int .i64 0, .int .i64 0, .int .i64 0, .int .i64 0, .string ⟨#[]⟩, .string ⟨#[]⟩, .slice none 0 0, .slice none 0 0] 25)))
  have F0 := Aside0.mk ((FS.refl (One g) w).alloc (.cells #[.int .i64 0, .int .i64 0, .int .i64 0, .int .i64 0, .int .i64 0, .int .i64 0, .int .i64 0, .string ⟨#[]⟩, .string ⟨#[]⟩, .slice none 0 0, .slice none 0 0] 25))
  have HO0 := Aside0.mk (heap_alloc_new w (.cells #[.int .i64 0, .int .i64 0, .int .i64 0, .int .i64 0, .int .i64 0, .int .i64 0, .int .i64 0, .string ⟨#[]⟩, .string ⟨#[]⟩, .slice none 0 0, .slice none 0 0] 25))
  clear h hp hs h0
  go_enter Try.func31, Try.ntmps31
  go_upto_region 1 with (fail)
  generalize w.alloc (.cells #[.int .i64 0, .int .i64 0, .int .i64 0, .int .i64 0, .int .i64 0, .int .i64 0, .int .i64 0, .string ⟨#[]⟩, .string ⟨#[]⟩, .slice none 0 0, .slice none 0 0] 25) = W1 at *
  go_upto_region 2 with (go_at_call 44; (with_reducible refine (smallr_calls g s p _ HR0.out HL.out HS.out).mono ?_); rintro e w1 hx; rw [HP1.out] at hx; obtain ⟨rfl, hk_, hf_⟩ := hx; have HR1 := Aside0.mk hk_; have F1 := Aside0.mk (F0.out.trans hf_); have HO1 := Aside0.mk (hf_.old HO0.out HGO.out); clear hk_ hf_ HR0 F0 HO0; have y0 : w1.cell? ⟨w.heap.size, 0, none⟩ = some _ := blk_cell HO1.out 0; have f0 := blk_frozen HO1.out 0)
  have HO1x := Aside0.mk (show (w1.setCell ⟨w.heap.size, 0, none⟩ (.int .i64 4)).heap[w.heap.size]? = some (.cells #[.int .i64 4, .int .i64 0, .int .i64 0, .int .i64 0, .int .i64 0, .int .i64 0, .int .i64 0, .string ⟨#[]⟩, .string ⟨#[]⟩, .slice none 0 0, .slice none 0 0] 25 (0, 0)) from set_blk HO1.out 0 (.int .i64 4))
  have HR1x := Aside0.mk (show RD (w1.setCell ⟨w.heap.size, 0, none⟩ (.int .i64 4)) g s p1 from keep_set HR1.out HGN.out 0 _)
  have F1x := Aside0.mk (FS.fresh F1.out 0 (.int .i64 4))
  have HL1x := HL1
  clear HO1 HR1 F1 y0 f0
  generalize w1.setCell ⟨w.heap.size, 0, none⟩ (.int .i64 4) = u1 at *
  have k0 : u1.cell? ⟨w.heap.size, 0, none⟩ = some (.int .i64 4) := blk_cell HO1x.out 0
  go_upto_region 7 with (fail)
  cases hp2 : numR s p1 with
  | none =>
    have HP2 := Aside0.mk hp2; clear hp2
    go_wp2_with (first | (go_at_call 45; (with_reducible refine (numr_calls g s p1 _ HR1x.out HL1x.out HS.out).mono ?_); rintro e w2 hx; rw [HP2.out] at hx; obtain ⟨rfl, hf_⟩ := hx; have F2 := Aside0.mk (F1x.out.trans hf_); clear hf_))
    refine ⟨rfl, ?_⟩
    show AfterX g w s p (gaveUp 3) _
    unfold AfterX
    rw [show recR s p = none by rw [HE.out]; simp only [HP2.out, Option.bind_some, Option.bind_none]]
    exact ⟨rfl, F2.out⟩
  | some q_ =>
  obtain ⟨t_, p2⟩ := q_
  have HL2 := Aside0.mk (show p2 ≤ s.size from (rnum_some hp2).2.1)
  have HP2 := Aside0.mk hp2; clear hp2
  cases hp3 : numR s p2 with
  | none =>
    have HP3 := Aside0.mk hp3; clear hp3
    go_wp2_with (first | (go_at_call 45; (with_reducible refine (numr_calls g s p1 _ HR1x.out HL1x.out HS.out).mono ?_); rintro e w2 hx; rw [HP2.out] at hx; obtain ⟨rfl, hk_, hf_⟩ := hx; have HR2 := Aside0.mk hk_; have F2 := Aside0.mk (F1x.out.trans hf_); have HO2 := Aside0.mk (hf_.old HO1x.out HGO.out); clear hk_ hf_ HR1x F1x HO1x) | (go_at_call 45; (with_reducible refine (numr_calls g s p2 _ HR2.out HL2.out HS.out).mono ?_); rintro e w3 hx; rw [HP3.out] at hx; obtain ⟨rfl, hf_⟩ := hx; have F3 := Aside0.mk (F2.out.trans hf_); clear hf_))
    refine ⟨rfl, ?_⟩
    show AfterX g w s p (gaveUp 3) _
    unfold AfterX
    rw [show recR s p = none by rw [HE.out]; simp only [HP2.out, HP3.out, Option.bind_some, Option.bind_none]]
    exact ⟨rfl, F3.out⟩
  | some q_ =>
  obtain ⟨v_, p3⟩ := q_
  have HL3 := Aside0.mk (show p3 ≤ s.size from (rnum_some hp3).2.1)
  have HP3 := Aside0.mk hp3; clear hp3
  go_upto_region 8 with (first | (go_at_call 45; (with_reducible refine (numr_calls g s p1 _ HR1x.out HL1x.out HS.out).mono ?_); rintro e w2 hx; rw [HP2.out] at hx; obtain ⟨rfl, hk_, hf_⟩ := hx; have HR2 := Aside0.mk hk_; have F2 := Aside0.mk (F1x.out.trans hf_); have HO2 := Aside0.mk (hf_.old HO1x.out HGO.out); clear hk_ hf_ HR1x F1x HO1x) | (go_at_call 45; (with_reducible refine (numr_calls g s p2 _ HR2.out HL2.out HS.out).mono ?_); rintro e w3 hx; rw [HP3.out] at hx; obtain ⟨rfl, hk_, hf_⟩ := hx; have HR3 := Aside0.mk hk_; have F3 := Aside0.mk (F2.out.trans hf_); have HO3 := Aside0.mk (hf_.old HO2.out HGO.out); clear hk_ hf_ HR2 F2 HO2; have y1 : w3.cell? ⟨w.heap.size, 1, none⟩ = some _ := blk_cell HO3.out 1; have f1 := blk_frozen HO3.out 1; have y4 : w3.cell? ⟨w.heap.size, 4, none⟩ = some _ := blk_cell HO3.out 4; have f4 := blk_frozen HO3.out 4))
  have HO3x := Aside0.mk (show ((w3.setCell ⟨w.heap.size, 1, none⟩ (.int .i64 t_)).setCell ⟨w.heap.size, 4, none⟩ (.int .i64 v_)).heap[w.heap.size]? = some (.cells #[.int .i64 4, .int .i64 t_, .int .i64 0, .int .i64 0, .int .i64 v_, .int .i64 0, .int .i64 0, .string ⟨#[]⟩, .string ⟨#[]⟩, .slice none 0 0, .slice none 0 0] 25 (0, 0)) from (set_blk (set_blk HO3.out 1 (.int .i64 t_)) 4 (.int .i64 v_)))
  have HR3x := Aside0.mk (show RD ((w3.setCell ⟨w.heap.size, 1, none⟩ (.int .i64 t_)).setCell ⟨w.heap.size, 4, none⟩ (.int .i64 v_)) g s p3 from (keep_set (keep_set HR3.out HGN.out 1 (.int .i64 t_)) HGN.out 4 (.int .i64 v_)))
  have F3x := Aside0.mk (FS.fresh (FS.fresh F3.out 1 (.int .i64 t_)) 4 (.int .i64 v_))
  have HL3x := HL3
  clear HO3 HR3 F3 y1 f1 y4 f4
  generalize (w3.setCell ⟨w.heap.size, 1, none⟩ (.int .i64 t_)).setCell ⟨w.heap.size, 4, none⟩ (.int .i64 v_) = u3 at *
  (try clear k0)
  have k0 : u3.cell? ⟨w.heap.size, 0, none⟩ = some (.int .i64 4) := blk_cell HO3x.out 0
  go_upto_region 11 with (fail)
  clear k0
  have x0 : u3.cell? ⟨w.heap.size, 0, none⟩ = some _ := blk_cell HO3x.out 0; have f0 := blk_frozen HO3x.out 0
  have x1 : u3.cell? ⟨w.heap.size, 1, none⟩ = some _ := blk_cell HO3x.out 1; have f1 := blk_frozen HO3x.out 1
  have x2 : u3.cell? ⟨w.heap.size, 2, none⟩ = some _ := blk_cell HO3x.out 2; have f2 := blk_frozen HO3x.out 2
  have x3 : u3.cell? ⟨w.heap.size, 3, none⟩ = some _ := blk_cell HO3x.out 3; have f3 := blk_frozen HO3x.out 3
  have x4 : u3.cell? ⟨w.heap.size, 4, none⟩ = some _ := blk_cell HO3x.out 4; have f4 := blk_frozen HO3x.out 4
  have x5 : u3.cell? ⟨w.heap.size, 5, none⟩ = some _ := blk_cell HO3x.out 5; have f5 := blk_frozen HO3x.out 5
  have x6 : u3.cell? ⟨w.heap.size, 6, none⟩ = some _ := blk_cell HO3x.out 6; have f6 := blk_frozen HO3x.out 6
  have x7 : u3.cell? ⟨w.heap.size, 7, none⟩ = some _ := blk_cell HO3x.out 7; have f7 := blk_frozen HO3x.out 7
  have x8 : u3.cell? ⟨w.heap.size, 8, none⟩ = some _ := blk_cell HO3x.out 8; have f8 := blk_frozen HO3x.out 8
  have x9 : u3.cell? ⟨w.heap.size, 9, none⟩ = some _ := blk_cell HO3x.out 9; have f9 := blk_frozen HO3x.out 9
  have x10 : u3.cell? ⟨w.heap.size, 10, none⟩ = some _ := blk_cell HO3x.out 10; have f10 := blk_frozen HO3x.out 10
  have HB_ := HO3x; have HRR := HR3x; have FFF := F3x
  go_wp2
  refine bodyPost_ret (v := .agg #[.int .i64 4, .int .i64 t_, .int .i64 0, .int .i64 0, .int .i64 v_, .int .i64 0, .int .i64 0, .string ⟨#[]⟩, .string ⟨#[]⟩, .slice none 0 0, .slice none 0 0]) (by simp [results, Try.results31, go_sem, x0, x1, x2, x3, x4, x5, x6, x7, x8, x9, x10]) rfl ?_
  show AfterX g w s p _ _
  unfold AfterX
  rw [show recR s p = some ((⟨4, t_, 0, 0, v_, 0, 0, ⟨#[]⟩, ⟨#[]⟩, [], []⟩ : S25), p3) by rw [HE.out]; (try simp only [HP2.out, HP3.out, Option.bind_some])]
  refine ⟨_, _, rfl, Kd.R_nil _ _ _ _ _, Kd.R_nil _ _ _ _ _, ?_, ?_⟩
  · show RD _ g s p3
    repeat (first | (with_reducible refine RD.keep ?_ HGN.out _ _) | (with_reducible exact HRR.out))
  · repeat (first | (with_reducible refine FS.fresh ?_ _ _) | (with_reducible exact FFF.out))
end Go.Proofs.Ytcfknakmamcinaa.Wr
namespace Go.Proofs.Ytcfknakmamcinaa.Pt
open Go Go.RowKit Go.Proofs.YtcfknakmamcinaaW.PrintWords Go.Proofs.Ytcfknakmamcinaa.X4 Go.Proofs.Ytcfknakmamcinaa.Rp Go.Proofs.Ytcfknakmamcinaa.Wr
set_option linter.unusedVariables false
set_option linter.unusedSimpArgs false
theorem cat_eq {a b : Option (List UInt8)} {c : List UInt8} (h : cat a b = some c) : ∃ x y, a = some x ∧ b = some y ∧ c = x ++ y := by
  cases a with
  | none => cases h
  | some x =>
    cases b with
    | none => cases h
    | some y => exact ⟨x, y, rfl, rfl, (Option.some.inj h).symm⟩
theorem small_eq2 {n m : Int} {bs : List UInt8} (h : smallP n m = some bs) : 0 ≤ n ∧ n ≤ m ∧ bs = [b8 n] := by
  unfold smallP at h
  split at h
  · rename_i c; exact ⟨c.1, c.2, (Option.some.inj h).symm⟩
  · cases h
theorem num_eq2 {n : Int} {bs : List UInt8} (h : numP [n] = some bs) : isNum n = true ∧ bs = four n := by
  unfold numP at h
  split at h
  · rename_i c
    simp at c
    exact ⟨c, by simpa using (Option.some.inj h).symm⟩
  · cases h
theorem num_eq3 {n m : Int} {bs : List UInt8} (h : numP [n, m] = some bs) : isNum n = true ∧ isNum m = true ∧ bs = four n ++ four m := by
  unfold numP at h
  split at h
  · rename_i c
    simp at c
    exact ⟨c.1, c.2, by simpa using (Option.some.inj h).symm⟩
  · cases h
theorem txn_eq2 {n : Int} {bs : List UInt8} (h : txnP n = some bs) : 1 ≤ n ∧ isNum n = true ∧ bs = four n := by
  unfold txnP at h
  split at h
  · rename_i c; exact ⟨c, num_eq2 h⟩
  · cases h
/-- At place p of s stand these bytes. -/
def At (s : ByteArray) (p : Nat) (l : List UInt8) : Prop := p + l.length ≤ s.size ∧ (s.data.toList.drop p).take l.length = l
theorem at_append {s : ByteArray} {p : Nat} {a b : List UInt8} : At s p (a ++ b) ↔ At s p a ∧ At s (p + a.length) b := by
  unfold At
  rw [List.length_append]
  constructor
  · rintro ⟨h1, h2⟩
    have h3 := congrArg (List.take a.length) h2
    have h4 := congrArg (List.drop a.length) h2
    rw [List.take_take, Nat.min_eq_left (by omega), List.take_left] at h3
    rw [List.drop_take, List.drop_drop, List.drop_left, Nat.add_sub_cancel_left] at h4
    exact ⟨⟨by omega, h3⟩, by omega, h4⟩
  · rintro ⟨⟨h1, h2⟩, h3, h4⟩
    refine ⟨by omega, ?_⟩
    rw [List.take_add, h2, List.drop_drop, h4]
theorem len_eq (s : ByteArray) : s.data.toList.length = s.size := by rw [Array.length_toList]; rfl
theorem bt_at2 {s : ByteArray} {i : Nat} {x : UInt8} (h : s.data.toList[i]? = some x) : bt s (i : Int) = (x.toNat : Int) := by
  have hi : i < s.size := by
    rw [← len_eq]
    exact (List.getElem?_eq_some_iff.1 h).1
  have := bt_at s (i : Int) (by simpa using hi)
  rw [← this]
  have h2 : s.data.toList[i]? = some (s[i]'hi) := by
    rw [List.getElem?_eq_getElem (by rw [len_eq]; exact hi)]
    rfl
  rw [h] at h2
  simp only [Int.toNat_natCast]
  rw [Option.some.inj h2]
theorem ext_list (s : ByteArray) (a b : Nat) : (s.extract a b).data.toList = (s.data.toList.drop a).take (b - a) := by simp
theorem take_of_at {s : ByteArray} {p : Nat} {l : List UInt8} (h : At s p l) : takeR s p l.length = some (⟨l.toArray⟩, p + l.length) := by
  unfold takeR
  rw [if_pos h.1]
  have e : s.extract p (p + l.length) = ⟨l.toArray⟩ := by
    apply ByteArray.ext
    apply Array.toList_inj.1
    rw [ext_list, Nat.add_sub_cancel_left, h.2]
  rw [e]
theorem at_of_take {s : ByteArray} {p n : Nat} {b : ByteArray} {q : Nat} (h : takeR s p n = some (b, q)) : At s p b.data.toList ∧ q = p + n ∧ b.size = n := by
  have hs := take_size h
  unfold takeR at h
  split at h
  · rename_i c
    simp only [Option.some.injEq, Prod.mk.injEq] at h
    obtain ⟨h1, h2⟩ := h
    subst h1
    refine ⟨⟨by rw [len_eq]; omega, ?_⟩, by omega, hs.1⟩
    rw [len_eq, ext_list, Nat.add_sub_cancel_left, hs.1]
  · cases h
theorem b8_id (v : Int) (x : UInt8) (h : v = (x.toNat : Int)) : b8 v = x := by
  subst h
  unfold b8
  have := x.toNat_lt
  rw [show ((x.toNat : Int) % 256).toNat = x.toNat by omega]
  exact UInt8.ofNat_toNat
theorem small_of_at {s : ByteArray} {p : Nat} {n : Int} (h0 : 0 ≤ n) (h1 : n ≤ 255) (h : At s p [b8 n]) : smallR s p = some (n, p + 1) := by
  unfold smallR
  have ht := take_of_at h
  simp only [List.length_cons, List.length_nil, Nat.zero_add] at ht
  rw [ht]
  have hb : bt (⟨[b8 n].toArray⟩ : ByteArray) 0 = n := by
    have := bt_at2 (s := ⟨[b8 n].toArray⟩) (i := 0) (x := b8 n) rfl
    rw [show ((0 : Nat) : Int) = 0 from rfl] at this
    rw [this, b8_nat]
    omega
  simp only [Option.map_some, hb]
theorem at_of_small {s : ByteArray} {p : Nat} {v : Int} {q : Nat} (h : smallR s p = some (v, q)) : 0 ≤ v ∧ v ≤ 255 ∧ At s p [b8 v] ∧ q = p + 1 := by
  have h2 := small_some h
  unfold smallR at h
  cases h1 : takeR s p 1 with
  | none => rw [h1] at h; cases h
  | some b =>
    obtain ⟨b, q'⟩ := b
    rw [h1] at h
    simp only [Option.map_some, Option.some.injEq, Prod.mk.injEq] at h
    obtain ⟨rfl, rfl⟩ := h
    obtain ⟨ha, hq, hb⟩ := at_of_take h1
    refine ⟨h2.2.2.1, h2.2.2.2, ?_, hq⟩
    have hl : b.data.toList.length = 1 := by rw [len_eq, hb]
    obtain ⟨x, hx⟩ := List.length_eq_one_iff.1 hl
    have := bt_at2 (s := b) (i := 0) (x := x) (by rw [hx]; rfl)
    rw [show ((0 : Nat) : Int) = 0 from rfl] at this
    rw [hx] at ha
    rwa [b8_id _ x this]
theorem four_len (n : Int) : (four n).length = 4 := rfl
theorem num_of_at {s : ByteArray} {p : Nat} {n : Int} (hn : isNum n = true) (h : At s p (four n)) : numR s p = some (n, p + 4) := by
  have hn := (isNum_iff n).1 hn
  unfold numR
  have ht := take_of_at h
  rw [four_len] at ht
  rw [ht]
  have e : ∀ (i : Nat) (x : UInt8), (four n)[i]? = some x → bt (⟨(four n).toArray⟩ : ByteArray) (i : Int) = (x.toNat : Int) := fun i x hx => bt_at2 (by simpa using hx)
  have e0 := e 0 _ rfl; have e1 := e 1 _ rfl; have e2 := e 2 _ rfl; have e3 := e 3 _ rfl
  rw [b8_nat] at e0 e1 e2 e3
  have e0 : bt (⟨(four n).toArray⟩ : ByteArray) 0 = n / 16777216 % 256 := e0
  have e1 : bt (⟨(four n).toArray⟩ : ByteArray) 1 = n / 65536 % 256 := e1
  have e2 : bt (⟨(four n).toArray⟩ : ByteArray) 2 = n / 256 % 256 := e2
  have e3 : bt (⟨(four n).toArray⟩ : ByteArray) 3 = n % 256 := e3
  simp only [Option.map_some]
  unfold num4
  rw [e0, e1, e2, e3]
  congr 2
  omega
theorem at_of_num {s : ByteArray} {p : Nat} {v : Int} {q : Nat} (h : numR s p = some (v, q)) : At s p (four v) ∧ q = p + 4 ∧ 0 ≤ v := by
  unfold numR at h
  cases h1 : takeR s p 4 with
  | none => rw [h1] at h; cases h
  | some b =>
    obtain ⟨b, q'⟩ := b
    rw [h1] at h
    simp only [Option.map_some, Option.some.injEq, Prod.mk.injEq] at h
    obtain ⟨rfl, rfl⟩ := h
    obtain ⟨ha, hq, hb⟩ := at_of_take h1
    have hl : b.data.toList.length = 4 := by rw [len_eq, hb]
    obtain ⟨x, y, z, u, hx⟩ : ∃ x y z u, b.data.toList = [x, y, z, u] := by
      match hh : b.data.toList, hl with
      | [x, y, z, u], _ => exact ⟨x, y, z, u, rfl⟩
    have e : ∀ (i : Nat) (x : UInt8), b.data.toList[i]? = some x → bt b (i : Int) = (x.toNat : Int) := fun i x hx => bt_at2 hx
    have e0 : bt b 0 = (x.toNat : Int) := e 0 x (by rw [hx]; rfl)
    have e1 : bt b 1 = (y.toNat : Int) := e 1 y (by rw [hx]; rfl)
    have e2 : bt b 2 = (z.toNat : Int) := e 2 z (by rw [hx]; rfl)
    have e3 : bt b 3 = (u.toNat : Int) := e 3 u (by rw [hx]; rfl)
    have hx0 := x.toNat_lt; have hy0 := y.toNat_lt; have hz0 := z.toNat_lt; have hu0 := u.toNat_lt
    refine ⟨?_, hq, by unfold num4; omega⟩
    rw [hx] at ha
    have key : four (num4 b) = [x, y, z, u] := by
      unfold four num4
      rw [e0, e1, e2, e3]
      have b8m : ∀ (v : Int) (c : UInt8), v % 256 = (c.toNat : Int) → b8 v = c := fun v c hv => by
        rw [show b8 v = b8 (v % 256) by unfold b8; rw [Int.emod_emod_of_dvd v (by decide)]]
        exact b8_id _ c hv
      rw [b8m _ x (by omega), b8m _ y (by omega), b8m _ z (by omega), b8m _ u (by omega)]
    rwa [key]
theorem at_nil (s : ByteArray) (p : Nat) (h : p ≤ s.size) : At s p [] := ⟨by simpa using h, by simp⟩
/-- A row of the tables. -/
theorem rowT_of_at {s : ByteArray} {p : Nat} {x : S66} {bs : List UInt8} (hb : rowT x = some bs) (h : At s p bs) : rowT1 s p = some (x, p + 12) ∧ bs.length = 12 := by
  unfold rowT at hb
  obtain ⟨a, b, ha, hb', rfl⟩ := cat_eq hb
  obtain ⟨h1, h2, rfl⟩ := txn_eq2 ha
  obtain ⟨h3, h4, rfl⟩ := num_eq3 hb'
  rw [at_append, at_append] at h
  obtain ⟨k1, k2, k3⟩ := h
  have n1 := num_of_at h2 k1
  have n2 := num_of_at h3 k2
  have n3 := num_of_at h4 k3
  rw [four_len] at n2 n3
  rw [four_len] at n3
  refine ⟨?_, by simp [four_len]⟩
  unfold rowT1
  simp only [n1, n2, n3, Option.bind_some]
theorem rowQ_of_at {s : ByteArray} {p : Nat} {x : S68} {bs : List UInt8} (hb : rowQ x = some bs) (h : At s p bs) : rowQ1 s p = some (x, p + 5) ∧ bs.length = 5 := by
  unfold rowQ at hb
  obtain ⟨a, b, ha, hb', rfl⟩ := cat_eq hb
  obtain ⟨h1, h2, rfl⟩ := small_eq2 ha
  obtain ⟨h3, rfl⟩ := num_eq2 hb'
  rw [at_append] at h
  obtain ⟨k1, k2⟩ := h
  have n1 := small_of_at h1 (by omega) k1
  have n2 := num_of_at h3 k2
  simp only [List.length_cons, List.length_nil, Nat.zero_add] at n2
  refine ⟨?_, by simp [four_len]⟩
  unfold rowQ1
  simp only [n1, n2, Option.bind_some]
theorem rowT_to_at {s : ByteArray} {p : Nat} {x : S66} {q : Nat} {bs : List UInt8} (h : rowT1 s p = some (x, q)) (hb : rowT x = some bs) : At s p bs ∧ q = p + 12 := by
  unfold rowT1 at h
  simp only [Option.bind_eq_some_iff] at h
  obtain ⟨⟨a, pa⟩, ha, ⟨b, pb⟩, hb2, ⟨c, pc⟩, hc, h⟩ := h
  simp only [Option.some.injEq, Prod.mk.injEq] at h
  obtain ⟨rfl, rfl⟩ := h
  unfold rowT at hb
  obtain ⟨u, v, hu, hv, rfl⟩ := cat_eq hb
  obtain ⟨-, -, rfl⟩ := txn_eq2 hu
  obtain ⟨-, -, rfl⟩ := num_eq3 hv
  obtain ⟨k1, e1, -⟩ := at_of_num ha
  obtain ⟨k2, e2, -⟩ := at_of_num hb2
  obtain ⟨k3, e3, -⟩ := at_of_num hc
  simp only at e1 e2 e3 k1 k2 k3 ⊢
  subst e1; subst e2
  exact ⟨at_append.2 ⟨k1, at_append.2 ⟨k2, k3⟩⟩, e3⟩
theorem rowQ_to_at {s : ByteArray} {p : Nat} {x : S68} {q : Nat} {bs : List UInt8} (h : rowQ1 s p = some (x, q)) (hb : rowQ x = some bs) : At s p bs ∧ q = p + 5 := by
  unfold rowQ1 at h
  simp only [Option.bind_eq_some_iff] at h
  obtain ⟨⟨a, pa⟩, ha, ⟨b, pb⟩, hb2, h⟩ := h
  simp only [Option.some.injEq, Prod.mk.injEq] at h
  obtain ⟨rfl, rfl⟩ := h
  unfold rowQ at hb
  obtain ⟨u, v, hu, hv, rfl⟩ := cat_eq hb
  obtain ⟨-, -, rfl⟩ := small_eq2 hu
  obtain ⟨-, rfl⟩ := num_eq2 hv
  obtain ⟨-, -, k1, e1⟩ := at_of_small ha
  obtain ⟨k2, e2, -⟩ := at_of_num hb2
  simp only at e1 e2 k1 k2 ⊢
  subst e1
  exact ⟨at_append.2 ⟨k1, k2⟩, e2⟩
theorem join_snoc {α : Type} {f : α → Option (List UInt8)} {t : List α} {x : α} {bs : List UInt8} (h : joinP ((t ++ [x]).map f) = some bs) : ∃ u v, joinP (t.map f) = some u ∧ f x = some v ∧ bs = u ++ v := by
  rw [List.map_append, join_append] at h
  obtain ⟨u, v, hu, hv, rfl⟩ := cat_eq h
  simp only [List.map_cons, List.map_nil, joinP] at hv
  obtain ⟨y, z, hy, hz, rfl⟩ := cat_eq hv
  injection hz with hz
  subst hz
  exact ⟨u, y, hu, hy, by simp⟩
theorem rowsT_of_at {s : ByteArray} {p : Nat} (l : List S66) : ∀ {bs : List UInt8}, joinP (l.map rowT) = some bs → At s p bs → rowsT s l.length p = some (l, p + 12 * l.length) ∧ bs.length = 12 * l.length := by
  have key : ∀ (m : List S66) {bs : List UInt8}, joinP (m.reverse.map rowT) = some bs → At s p bs → rowsT s m.reverse.length p = some (m.reverse, p + 12 * m.reverse.length) ∧ bs.length = 12 * m.reverse.length := fun m => by
    induction m with
    | nil =>
      intro bs h _
      injection h with h
      subst h
      exact ⟨rfl, rfl⟩
    | cons x t ih =>
      intro bs h hat
      rw [List.reverse_cons] at h ⊢
      obtain ⟨u, v, hu, hv, rfl⟩ := join_snoc h
      obtain ⟨k1, k2⟩ := at_append.1 hat
      obtain ⟨i1, i2⟩ := ih hu k1
      rw [i2] at k2
      obtain ⟨r1, r2⟩ := rowT_of_at hv k2
      refine ⟨?_, by rw [List.length_append, List.length_append, i2, r2]; simp; omega⟩
      rw [List.length_append]
      simp only [List.length_cons, List.length_nil, rowsT, i1, Option.bind_some, r1, Option.some.injEq, Prod.mk.injEq, true_and]
      omega
  intro bs h hat
  have := key l.reverse (bs := bs) (by rwa [List.reverse_reverse]) hat
  rwa [List.reverse_reverse] at this
theorem rowsQ_of_at {s : ByteArray} {p : Nat} (l : List S68) : ∀ {bs : List UInt8}, joinP (l.map rowQ) = some bs → At s p bs → rowsQ s l.length p = some (l, p + 5 * l.length) ∧ bs.length = 5 * l.length := by
  have key : ∀ (m : List S68) {bs : List UInt8}, joinP (m.reverse.map rowQ) = some bs → At s p bs → rowsQ s m.reverse.length p = some (m.reverse, p + 5 * m.reverse.length) ∧ bs.length = 5 * m.reverse.length := fun m => by
    induction m with
    | nil =>
      intro bs h _
      injection h with h
      subst h
      exact ⟨rfl, rfl⟩
    | cons x t ih =>
      intro bs h hat
      rw [List.reverse_cons] at h ⊢
      obtain ⟨u, v, hu, hv, rfl⟩ := join_snoc h
      obtain ⟨k1, k2⟩ := at_append.1 hat
      obtain ⟨i1, i2⟩ := ih hu k1
      rw [i2] at k2
      obtain ⟨r1, r2⟩ := rowQ_of_at hv k2
      refine ⟨?_, by rw [List.length_append, List.length_append, i2, r2]; simp; omega⟩
      rw [List.length_append]
      simp only [List.length_cons, List.length_nil, rowsQ, i1, Option.bind_some, r1, Option.some.injEq, Prod.mk.injEq, true_and]
      omega
  intro bs h hat
  have := key l.reverse (bs := bs) (by rwa [List.reverse_reverse]) hat
  rwa [List.reverse_reverse] at this
theorem rowsT_to_at {s : ByteArray} {p : Nat} (n : Nat) : ∀ {l : List S66} {q : Nat} {bs : List UInt8}, p ≤ s.size → rowsT s n p = some (l, q) → joinP (l.map rowT) = some bs → At s p bs ∧ q = p + 12 * n ∧ l.length = n ∧ bs.length = 12 * n := by
  induction n with
  | zero =>
    intro l q bs hp h hj
    simp only [rowsT, Option.some.injEq, Prod.mk.injEq] at h
    obtain ⟨rfl, rfl⟩ := h
    injection hj with hj
    subst hj
    exact ⟨at_nil s p hp, rfl, rfl, rfl⟩
  | succ n ih =>
    intro l q bs hp h hj
    simp only [rowsT, Option.bind_eq_some_iff] at h
    obtain ⟨⟨l0, q0⟩, h0, ⟨x, q1⟩, h1, h⟩ := h
    simp only [Option.some.injEq, Prod.mk.injEq] at h h1
    obtain ⟨rfl, rfl⟩ := h
    obtain ⟨u, v, hu, hv, rfl⟩ := join_snoc hj
    obtain ⟨k1, k2, k3, k4⟩ := ih hp h0 hu
    subst k2
    obtain ⟨r1, r2⟩ := rowT_to_at h1 hv
    have r3 : v.length = 12 := (rowT_of_at hv r1).2
    refine ⟨at_append.2 ⟨k1, by rw [k4]; exact r1⟩, by omega, by rw [List.length_append, k3]; rfl, by rw [List.length_append, k4, r3]; omega⟩
theorem rowsQ_to_at {s : ByteArray} {p : Nat} (n : Nat) : ∀ {l : List S68} {q : Nat} {bs : List UInt8}, p ≤ s.size → rowsQ s n p = some (l, q) → joinP (l.map rowQ) = some bs → At s p bs ∧ q = p + 5 * n ∧ l.length = n ∧ bs.length = 5 * n := by
  induction n with
  | zero =>
    intro l q bs hp h hj
    simp only [rowsQ, Option.some.injEq, Prod.mk.injEq] at h
    obtain ⟨rfl, rfl⟩ := h
    injection hj with hj
    subst hj
    exact ⟨at_nil s p hp, rfl, rfl, rfl⟩
  | succ n ih =>
    intro l q bs hp h hj
    simp only [rowsQ, Option.bind_eq_some_iff] at h
    obtain ⟨⟨l0, q0⟩, h0, ⟨x, q1⟩, h1, h⟩ := h
    simp only [Option.some.injEq, Prod.mk.injEq] at h h1
    obtain ⟨rfl, rfl⟩ := h
    obtain ⟨u, v, hu, hv, rfl⟩ := join_snoc hj
    obtain ⟨k1, k2, k3, k4⟩ := ih hp h0 hu
    subst k2
    obtain ⟨r1, r2⟩ := rowQ_to_at h1 hv
    have r3 : v.length = 5 := (rowQ_of_at hv r1).2
    refine ⟨at_append.2 ⟨k1, by rw [k4]; exact r1⟩, by omega, by rw [List.length_append, k3]; rfl, by rw [List.length_append, k4, r3]; omega⟩
end Go.Proofs.Ytcfknakmamcinaa.Pt
namespace Go.Proofs.Ytcfknakmamcinaa.Pt
open Go Go.RowKit Go.Proofs.YtcfknakmamcinaaW.PrintWords Go.Proofs.Ytcfknakmamcinaa.X4 Go.Proofs.Ytcfknakmamcinaa.Rp Go.Proofs.Ytcfknakmamcinaa.Wr
set_option linter.unusedVariables false
set_option linter.unusedSimpArgs false
theorem rec_cut {r : S25} {bs : List UInt8} (h : recP r = some bs) : 0 ≤ r.f0 ∧ r.f0 ≤ 6 ∧ ∃ b, bodyP r = some b ∧ bs = b8 r.f0 :: b := by
  unfold recP at h
  obtain ⟨x, y, hx, hy, rfl⟩ := cat_eq h
  obtain ⟨h1, h2, rfl⟩ := small_eq2 hx
  exact ⟨h1, h2, y, hy, rfl⟩
theorem body1 {r : S25} {b : List UInt8} (e : r.f0 = 1) (h : bodyP r = some b) : (1 ≤ r.f1 ∧ isNum r.f1 = true) ∧ isNum r.f4 = true ∧ (0 ≤ r.f2 ∧ r.f2 ≤ 7) ∧ (0 ≤ r.f3 ∧ r.f3 ≤ 220 - min (r.f8.size : Int) 220) ∧ (1 ≤ (r.f8.size : Int) ∧ (r.f8.size : Int) ≤ 16) ∧ r.f7.size = r.f8.size ∧ b = four r.f1 ++ (four r.f4 ++ (([b8 r.f2] ++ ([b8 r.f3] ++ [b8 (r.f8.size : Int)])) ++ (r.f7.data.toList ++ r.f8.data.toList))) := by
  unfold bodyP at h
  rw [if_pos e] at h
  obtain ⟨x1, y1, h1, k1, rfl⟩ := cat_eq h
  obtain ⟨x2, y2, h2, k2, rfl⟩ := cat_eq k1
  obtain ⟨x3, y3, h3, k3, rfl⟩ := cat_eq k2
  obtain ⟨t1, t2, rfl⟩ := txn_eq2 h1
  obtain ⟨t3, rfl⟩ := num_eq2 h2
  split at k3
  · rename_i c
    injection k3 with k3
    subst k3
    unfold placeP at h3
    split at h3
    · rename_i c1
      obtain ⟨x4, y4, h4, k4, rfl⟩ := cat_eq h3
      obtain ⟨x5, y5, h5, k5, rfl⟩ := cat_eq k4
      obtain ⟨q1, q2, rfl⟩ := small_eq2 h4
      obtain ⟨q3, q4, rfl⟩ := small_eq2 h5
      obtain ⟨q5, q6, rfl⟩ := small_eq2 k5
      exact ⟨⟨t1, t2⟩, t3, ⟨q1, q2⟩, ⟨q3, q4⟩, ⟨c1, q6⟩, c, rfl⟩
    · cases h3
  · cases k3
theorem body2 {r : S25} {b : List UInt8} (e : r.f0 = 2) (h : bodyP r = some b) : (1 ≤ r.f1 ∧ isNum r.f1 = true) ∧ isNum r.f4 = true ∧ isNum r.f5 = true ∧ (0 ≤ r.f2 ∧ r.f2 ≤ 7) ∧ (0 ≤ r.f3 ∧ r.f3 ≤ 220 - min (r.f8.size : Int) 220) ∧ (1 ≤ (r.f8.size : Int) ∧ (r.f8.size : Int) ≤ 16) ∧ b = four r.f1 ++ ((four r.f4 ++ four r.f5) ++ (([b8 r.f2] ++ ([b8 r.f3] ++ [b8 (r.f8.size : Int)])) ++ r.f8.data.toList)) := by
  unfold bodyP at h
  rw [if_neg (by omega), if_pos e] at h
  obtain ⟨x1, y1, h1, k1, rfl⟩ := cat_eq h
  obtain ⟨x2, y2, h2, k2, rfl⟩ := cat_eq k1
  obtain ⟨x3, y3, h3, k3, rfl⟩ := cat_eq k2
  obtain ⟨t1, t2, rfl⟩ := txn_eq2 h1
  obtain ⟨t3, t4, rfl⟩ := num_eq3 h2
  injection k3 with k3
  subst k3
  unfold placeP at h3
  split at h3
  · rename_i c1
    obtain ⟨x4, y4, h4, k4, rfl⟩ := cat_eq h3
    obtain ⟨x5, y5, h5, k5, rfl⟩ := cat_eq k4
    obtain ⟨q1, q2, rfl⟩ := small_eq2 h4
    obtain ⟨q3, q4, rfl⟩ := small_eq2 h5
    obtain ⟨q5, q6, rfl⟩ := small_eq2 k5
    exact ⟨⟨t1, t2⟩, t3, t4, ⟨q1, q2⟩, ⟨q3, q4⟩, ⟨c1, q6⟩, rfl⟩
  · cases h3
theorem body3 {r : S25} {b : List UInt8} (e : r.f0 = 3 ∨ r.f0 = 4) (h : bodyP r = some b) : (1 ≤ r.f1 ∧ isNum r.f1 = true) ∧ isNum r.f4 = true ∧ b = four r.f1 ++ four r.f4 := by
  unfold bodyP at h
  rw [if_neg (by omega), if_neg (by omega), if_pos e] at h
  obtain ⟨x1, y1, h1, k1, rfl⟩ := cat_eq h
  obtain ⟨t1, t2, rfl⟩ := txn_eq2 h1
  obtain ⟨t3, rfl⟩ := num_eq2 k1
  exact ⟨⟨t1, t2⟩, t3, rfl⟩
theorem body6 {r : S25} {b : List UInt8} (e : r.f0 = 6) (h : bodyP r = some b) : isNum r.f6 = true ∧ r.f9.length ≤ 4 ∧ r.f10.length ≤ 8 ∧ ∃ bt bq, joinP (r.f9.map rowT) = some bt ∧ joinP (r.f10.map rowQ) = some bq ∧ b = four r.f6 ++ ([b8 (r.f9.length : Int)] ++ (bt ++ ([b8 (r.f10.length : Int)] ++ bq))) := by
  unfold bodyP at h
  rw [if_neg (by omega), if_neg (by omega), if_neg (by omega), if_neg (by omega), if_pos e] at h
  unfold tablesP at h
  obtain ⟨x1, y1, h1, k1, rfl⟩ := cat_eq h
  obtain ⟨x2, y2, h2, k2, rfl⟩ := cat_eq k1
  obtain ⟨x3, y3, h3, k3, rfl⟩ := cat_eq k2
  obtain ⟨x4, y4, h4, k4, rfl⟩ := cat_eq k3
  obtain ⟨t1, rfl⟩ := num_eq2 h1
  obtain ⟨q1, q2, rfl⟩ := small_eq2 h2
  obtain ⟨q3, q4, rfl⟩ := small_eq2 h4
  exact ⟨t1, by omega, by omega, x3, y4, h3, k4, rfl⟩
theorem take_of_at' {s : ByteArray} {p n : Nat} {b : ByteArray} (h : At s p b.data.toList) (hn : b.size = n) : takeR s p n = some (b, p + n) := by
  have := take_of_at h
  rw [len_eq, hn] at this
  rw [this]
/-- What is printed is read. -/
theorem rec_of_at {s : ByteArray} {p : Nat} {r : S25} {bs : List UInt8} (h : recP r = some bs) (ho : ownR r = r) (hs : At s p bs) : recR s p = some (r, p + bs.length) := by
  obtain ⟨k0, k6, b, hb, rfl⟩ := rec_cut h
  obtain ⟨a1, a2⟩ := (at_append (a := [b8 r.f0])).1 hs
  have n0 := small_of_at k0 (by omega) a1
  unfold recR
  rw [n0, Option.bind_some]
  have ho2 := ho
  unfold ownR at ho2
  by_cases e1 : r.f0 = 1
  · obtain ⟨⟨c1, c2⟩, c3, ⟨c4, c5⟩, ⟨c6, c7⟩, ⟨c8, c9⟩, c10, rfl⟩ := body1 e1 hb
    obtain ⟨d1, a2⟩ := at_append.1 a2
    obtain ⟨d2, a2⟩ := at_append.1 a2
    obtain ⟨a3, a2⟩ := at_append.1 a2
    obtain ⟨d3, a3⟩ := at_append.1 a3
    obtain ⟨d4, d5⟩ := at_append.1 a3
    obtain ⟨d6, d7⟩ := at_append.1 a2
    have m1 : numR s (p + 1) = some (r.f1, p + 5) := num_of_at c2 d1
    have m2 : numR s (p + 5) = some (r.f4, p + 9) := num_of_at c3 d2
    have m3 : smallR s (p + 9) = some (r.f2, p + 10) := small_of_at c4 (by omega) d3
    have m4 : smallR s (p + 10) = some (r.f3, p + 11) := small_of_at c6 (by omega) d4
    have m5 : smallR s (p + 11) = some ((r.f8.size : Int), p + 12) := small_of_at (by omega) (by omega) d5
    have m6 : takeR s (p + 12) r.f8.size = some (r.f7, p + 12 + r.f8.size) := take_of_at' d6 c10
    have m7 : takeR s (p + 12 + r.f8.size) r.f8.size = some (r.f8, p + 12 + r.f8.size + r.f8.size) := by
      refine take_of_at' ?_ rfl
      rw [len_eq, c10] at d7
      exact d7
    rw [if_pos e1] at ho2 ⊢
    simp only [m1, m2, m3, m4, m5, Option.bind_some, Int.toNat_natCast, m6, m7, ho2]
    simp only [List.length_cons, List.length_append, four_len, List.length_nil, len_eq, c10, Option.some.injEq, Prod.mk.injEq, true_and]
    omega
  by_cases e2 : r.f0 = 2
  · obtain ⟨⟨c1, c2⟩, c3, c3b, ⟨c4, c5⟩, ⟨c6, c7⟩, ⟨c8, c9⟩, rfl⟩ := body2 e2 hb
    obtain ⟨d1, a2⟩ := at_append.1 a2
    obtain ⟨d2, a2⟩ := at_append.1 a2
    obtain ⟨d2, d2b⟩ := at_append.1 d2
    obtain ⟨a3, d6⟩ := at_append.1 a2
    obtain ⟨d3, a3⟩ := at_append.1 a3
    obtain ⟨d4, d5⟩ := at_append.1 a3
    have m1 : numR s (p + 1) = some (r.f1, p + 5) := num_of_at c2 d1
    have m2 : numR s (p + 5) = some (r.f4, p + 9) := num_of_at c3 d2
    have m2b : numR s (p + 9) = some (r.f5, p + 13) := num_of_at c3b d2b
    have m3 : smallR s (p + 13) = some (r.f2, p + 14) := small_of_at c4 (by omega) d3
    have m4 : smallR s (p + 14) = some (r.f3, p + 15) := small_of_at c6 (by omega) d4
    have m5 : smallR s (p + 15) = some ((r.f8.size : Int), p + 16) := small_of_at (by omega) (by omega) d5
    have m6 : takeR s (p + 16) r.f8.size = some (r.f8, p + 16 + r.f8.size) := take_of_at' d6 rfl
    rw [if_neg e1, if_pos e2] at ho2 ⊢
    simp only [m1, m2, m2b, m3, m4, m5, Option.bind_some, Int.toNat_natCast, m6, ho2]
    simp only [List.length_cons, List.length_append, four_len, List.length_nil, len_eq, Option.some.injEq, Prod.mk.injEq, true_and]
    omega
  by_cases e3 : r.f0 = 3 ∨ r.f0 = 4
  · obtain ⟨⟨c1, c2⟩, c3, rfl⟩ := body3 e3 hb
    obtain ⟨d1, d2⟩ := at_append.1 a2
    have m1 : numR s (p + 1) = some (r.f1, p + 5) := num_of_at c2 d1
    have m2 : numR s (p + 5) = some (r.f4, p + 9) := num_of_at c3 d2
    rw [if_neg e1, if_neg e2, if_pos e3] at ho2 ⊢
    simp only [List.length_cons, List.length_nil, Nat.zero_add, m1, m2, Option.bind_some, ho2]
    simp only [List.length_append, four_len, Option.some.injEq, Prod.mk.injEq, true_and]
  by_cases e6 : r.f0 = 6
  · obtain ⟨c1, c2, c3, bt, bq, c4, c5, rfl⟩ := body6 e6 hb
    obtain ⟨d1, a2⟩ := at_append.1 a2
    obtain ⟨d2, a2⟩ := at_append.1 a2
    obtain ⟨d3, a2⟩ := at_append.1 a2
    obtain ⟨d4, d5⟩ := at_append.1 a2
    have m1 : numR s (p + 1) = some (r.f6, p + 5) := num_of_at c1 d1
    have m2 : smallR s (p + 5) = some ((r.f9.length : Int), p + 6) := small_of_at (by omega) (by omega) d2
    have m3 : rowsT s r.f9.length (p + 6) = some (r.f9, p + 6 + 12 * r.f9.length) := (rowsT_of_at _ c4 d3).1
    have l3 := (rowsT_of_at _ c4 d3).2
    rw [l3] at d4 d5
    have m4 : smallR s (p + 6 + 12 * r.f9.length) = some ((r.f10.length : Int), p + 6 + 12 * r.f9.length + 1) := small_of_at (by omega) (by omega) d4
    have m5 : rowsQ s r.f10.length (p + 6 + 12 * r.f9.length + 1) = some (r.f10, p + 6 + 12 * r.f9.length + 1 + 5 * r.f10.length) := (rowsQ_of_at _ c5 d5).1
    have l5 := (rowsQ_of_at _ c5 d5).2
    rw [if_neg e1, if_neg e2, if_neg e3, if_pos e6] at ho2 ⊢
    simp only [List.length_cons, List.length_nil, Nat.zero_add, m1, m2, m3, m4, m5, Option.bind_some, Int.toNat_natCast, ho2]
    simp only [List.length_cons, List.length_append, four_len, List.length_nil, l3, l5, Option.some.injEq, Prod.mk.injEq, true_and]
    omega
  · rw [if_neg e1, if_neg e2, if_neg e3, if_neg e6] at ho2 ⊢
    have hb5 : b = [] := by
      unfold bodyP at hb
      rw [if_neg e1, if_neg e2, if_neg e3] at hb
      split at hb
      · injection hb with hb; exact hb.symm
      · simp [e6] at hb
    subst hb5
    simp only [List.length_cons, List.length_nil, ho2]
/-- What is read stands there. -/
theorem rec_to_at {s : ByteArray} {p : Nat} {r : S25} {q : Nat} {bs : List UInt8} (h : recR s p = some (r, q)) (hb : recP r = some bs) : At s p bs ∧ q = p + bs.length := by
  obtain ⟨k0, k6, b, hc, rfl⟩ := rec_cut hb
  clear hb
  unfold recR at h
  obtain ⟨⟨v, p1⟩, h0, h⟩ := Option.bind_eq_some_iff.1 h
  obtain ⟨_, _, x0, rfl⟩ := at_of_small h0
  by_cases e1 : v = 1
  · subst e1
    rw [if_pos rfl] at h
    simp only [Option.bind_eq_some_iff] at h
    obtain ⟨⟨t, p2⟩, h1, ⟨pv, p3⟩, h2, ⟨pg, p4⟩, h3, ⟨o, p5⟩, h4, ⟨n, p6⟩, h5, ⟨be, p7⟩, h6, ⟨af, p8⟩, h7, h⟩ := h
    simp only [Option.some.injEq, Prod.mk.injEq] at h h1 h2 h3 h4 h5 h6 h7
    obtain ⟨rfl, rfl⟩ := h
    obtain ⟨-, -, -, -, -, -, rfl⟩ := body1 rfl hc
    obtain ⟨x1, rfl, -⟩ := at_of_num h1
    obtain ⟨x2, rfl, -⟩ := at_of_num h2
    obtain ⟨-, -, x3, rfl⟩ := at_of_small h3
    obtain ⟨-, -, x4, rfl⟩ := at_of_small h4
    obtain ⟨hn, -, x5, rfl⟩ := at_of_small h5
    obtain ⟨x6, rfl, s6⟩ := at_of_take h6
    obtain ⟨x7, rfl, s7⟩ := at_of_take h7
    simp only at *
    have en : (af.size : Int) = n := by omega
    rw [← en] at x5
    have x7 : At s (p + 1 + 4 + 4 + 1 + 1 + 1 + be.data.toList.length) af.data.toList := by rw [len_eq, s6]; exact x7
    refine ⟨(at_append (a := [b8 1])).2 ⟨x0, at_append.2 ⟨x1, at_append.2 ⟨x2, at_append.2 ⟨at_append.2 ⟨x3, at_append.2 ⟨x4, x5⟩⟩, at_append.2 ⟨x6, x7⟩⟩⟩⟩⟩, ?_⟩
    · simp only [List.length_cons, List.length_append, four_len, List.length_nil, len_eq]
      omega
  by_cases e2 : v = 2
  · subst e2
    rw [if_neg e1, if_pos rfl] at h
    simp only [Option.bind_eq_some_iff] at h
    obtain ⟨⟨t, p2⟩, h1, ⟨pv, p3⟩, h2, ⟨nx, p3b⟩, h2b, ⟨pg, p4⟩, h3, ⟨o, p5⟩, h4, ⟨n, p6⟩, h5, ⟨af, p8⟩, h7, h⟩ := h
    simp only [Option.some.injEq, Prod.mk.injEq] at h h1 h2 h2b h3 h4 h5 h7
    obtain ⟨rfl, rfl⟩ := h
    obtain ⟨-, -, -, -, -, -, rfl⟩ := body2 rfl hc
    obtain ⟨x1, rfl, -⟩ := at_of_num h1
    obtain ⟨x2, rfl, -⟩ := at_of_num h2
    obtain ⟨x2b, rfl, -⟩ := at_of_num h2b
    obtain ⟨-, -, x3, rfl⟩ := at_of_small h3
    obtain ⟨-, -, x4, rfl⟩ := at_of_small h4
    obtain ⟨hn, -, x5, rfl⟩ := at_of_small h5
    obtain ⟨x7, rfl, s7⟩ := at_of_take h7
    simp only at *
    have en : (af.size : Int) = n := by omega
    rw [← en] at x5
    refine ⟨(at_append (a := [b8 2])).2 ⟨x0, at_append.2 ⟨x1, at_append.2 ⟨at_append.2 ⟨x2, x2b⟩, at_append.2 ⟨at_append.2 ⟨x3, at_append.2 ⟨x4, x5⟩⟩, x7⟩⟩⟩⟩, ?_⟩
    · simp only [List.length_cons, List.length_append, four_len, List.length_nil, len_eq]
      omega
  by_cases e3 : v = 3 ∨ v = 4
  · rw [if_neg e1, if_neg e2, if_pos e3] at h
    simp only [Option.bind_eq_some_iff] at h
    obtain ⟨⟨t, p2⟩, h1, ⟨pv, p3⟩, h2, h⟩ := h
    simp only [Option.some.injEq, Prod.mk.injEq] at h h1 h2
    obtain ⟨rfl, rfl⟩ := h
    obtain ⟨-, -, rfl⟩ := body3 e3 hc
    obtain ⟨x1, rfl, -⟩ := at_of_num h1
    obtain ⟨x2, rfl, -⟩ := at_of_num h2
    exact ⟨(at_append (a := [b8 v])).2 ⟨x0, at_append.2 ⟨x1, x2⟩⟩, rfl⟩
  by_cases e6 : v = 6
  · subst e6
    rw [if_neg e1, if_neg e2, if_neg e3, if_pos rfl] at h
    simp only [Option.bind_eq_some_iff] at h
    obtain ⟨⟨bg, p2⟩, h1, ⟨n, p3⟩, h2, ⟨tx, p4⟩, h3, ⟨m, p5⟩, h4, ⟨pq, p6⟩, h5, h⟩ := h
    simp only [Option.some.injEq, Prod.mk.injEq] at h h1 h2 h3 h4 h5
    obtain ⟨rfl, rfl⟩ := h
    obtain ⟨-, -, -, bt, bq, jt, jq, rfl⟩ := body6 rfl hc
    obtain ⟨x1, rfl, -⟩ := at_of_num h1
    obtain ⟨n0, -, x2, rfl⟩ := at_of_small h2
    have y2 := (small_some h2).2.1
    obtain ⟨x3, rfl, l3, b3⟩ := rowsT_to_at _ y2 h3 jt
    obtain ⟨m0, -, x4, rfl⟩ := at_of_small h4
    have y4 := (small_some h4).2.1
    obtain ⟨x5, rfl, l5, b5⟩ := rowsQ_to_at _ y4 h5 jq
    simp only at *
    have en : (tx.length : Int) = n := by omega
    have em : (pq.length : Int) = m := by omega
    rw [← en] at x2
    rw [← em] at x4
    have x4 : At s (p + 1 + 4 + 1 + bt.length) [b8 (pq.length : Int)] := by rw [b3]; exact x4
    have x5 : At s (p + 1 + 4 + 1 + bt.length + 1) bq := by rw [b3]; exact x5
    refine ⟨(at_append (a := [b8 6])).2 ⟨x0, at_append.2 ⟨x1, at_append.2 ⟨x2, at_append.2 ⟨x3, at_append.2 ⟨x4, x5⟩⟩⟩⟩⟩, ?_⟩
    · simp only [List.length_cons, List.length_append, four_len, List.length_nil, b3, b5]
      omega
  · rw [if_neg e1, if_neg e2, if_neg e3, if_neg e6] at h
    simp only [Option.some.injEq, Prod.mk.injEq] at h
    obtain ⟨rfl, rfl⟩ := h
    have hb5 : b = [] := by
      unfold bodyP at hc
      simp only at hc
      rw [if_neg e1, if_neg e2, if_neg e3] at hc
      split at hc
      · injection hc with hc; exact hc.symm
      · simp [e6] at hc
    subst hb5
    exact ⟨x0, rfl⟩
end Go.Proofs.Ytcfknakmamcinaa.Pt
namespace Go.Proofs.Ytcfknakmamcinaa.Wr
open Go.Proofs.Ytcfknakmamcinaa.Rp Go.Proofs.Ytcfknakmamcinaa.X4
open Go Go.RowKit Go.ChangeMaps Go.Proofs.Ytcfknakmamcinaa.Arr Go.Proofs.Ytcfknakmamcinaa.Ow Go.Proofs.YtcfknakmamcinaaW.PrintWords Go.Proofs.YtcfknakmamcinaaW.PrintLast Go.Proofs.YtcfknakmamcinaaW.PrintMore
set_option linter.unusedVariables false
set_option linter.unusedSimpArgs false
set_option maxHeartbeats 4000000 in
theorem rrec_one (g : Nat) (s : ByteArray) (p p1 : Nat) (w : World) (h : RD w g s p) (hp : p ≤ s.size) (hs : s.size ≤ 1000000000) (h0 : smallR s p = some (1, p1)) : Calls Try.prog 31 #[.pointer (some ⟨g, 0, none⟩)] w fun x w' => AfterX g w s p x w' := by
  have HS := Aside0.mk (show s.size ≤ 1000000000000 by omega); have HL := Aside0.mk hp
  have HE := Aside0.mk (show recR s p = (numR s p1).bind fun t => (numR s t.2).bind fun v => (smallR s v.2).bind fun pg => (smallR s pg.2).bind fun o => (smallR s o.2).bind fun n => (takeR s n.2 n.1.toNat).bind fun b => (takeR s b.2 n.1.toNat).bind fun f => some (⟨1, t.1, pg.1, o.1, v.1, 0, 0, b.1, f.1, [], []⟩, f.2) by unfold recR; rw [h0, Option.bind_some]; simp only; rw [if_pos trivial])
  have HL1 := Aside0.mk (show p1 ≤ s.size from (small_some h0).2.1)
  have HP1 := Aside0.mk h0
  have HGN := Aside0.mk (show g ≠ w.heap.size from Nat.ne_of_lt (blk_lt h))
  have HGO := Aside0.mk (show ¬ One g w.heap.size from fun e => HGN.out (e : w.heap.size = g).symm)
  have HR0 := Aside0.mk (h.below ((Below.refl _ _).alloc (Nat.le_refl _) (.cells #[.int .i64 0, .int .i64 0, .int .i64 0, .int .i64 0, .int .i64 0, .int .i64 0, .int .i64 0, .string ⟨#[]⟩, .string ⟨#[]⟩, .slice none 0 0, .slice none 0 0] 25)))
  have F0 := Aside0.mk ((FS.refl (One g) w).alloc (.cells #[.int .i64 0, .int .i64 0, .int .i64 0, .int .i64 0, .int .i64 0, .int .i64 0, .int .i64 0, .string ⟨#[]⟩, .string ⟨#[]⟩, .slice none 0 0, .slice none 0 0] 25))
  have HO0 := Aside0.mk (heap_alloc_new w (.cells #[.int .i64 0, .int .i64 0, .int .i64 0, .int .i64 0, .int .i64 0, .int .i64 0, .int .i64 0, .string ⟨#[]⟩, .string ⟨#[]⟩, .slice none 0 0, .slice none 0 0] 25))
  clear h hp hs h0
  go_enter Try.func31, Try.ntmps31
  go_upto_region 1 with (fail)
  generalize w.alloc (.cells #[.int .i64 0, .int .i64 0, .int .i64 0, .int .i64 0, .int .i64 0, .int .i64 0, .int .i64 0, .string ⟨#[]⟩, .string ⟨#[]⟩, .slice none 0 0, .slice none 0 0] 25) = W1 at *
  go_upto_region 2 with (go_at_call 44; (with_reducible refine (smallr_calls g s p _ HR0.out HL.out HS.out).mono ?_); rintro e w1 hx; rw [HP1.out] at hx; obtain ⟨rfl, hk_, hf_⟩ := hx; have HR1 := Aside0.mk hk_; have F1 := Aside0.mk (F0.out.trans hf_); have HO1 := Aside0.mk (hf_.old HO0.out HGO.out); clear hk_ hf_ HR0 F0 HO0; have y0 : w1.cell? ⟨w.heap.size, 0, none⟩ = some _ := blk_cell HO1.out 0; have f0 := blk_frozen HO1.out 0)
  have HO1x := Aside0.mk (show (w1.setCell ⟨w.heap.size, 0, none⟩ (.int .i64 1)).heap[w.heap.size]? = some (.cells #[.int .i64 1, .int .i64 0, .int .i64 0, .int .i64 0, .int .i64 0, .int .i64 0, .int .i64 0, .string ⟨#[]⟩, .string ⟨#[]⟩, .slice none 0 0, .slice none 0 0] 25 (0, 0)) from set_blk HO1.out 0 (.int .i64 1))
  have HR1x := Aside0.mk (show RD (w1.setCell ⟨w.heap.size, 0, none⟩ (.int .i64 1)) g s p1 from keep_set HR1.out HGN.out 0 _)
  have F1x := Aside0.mk (FS.fresh F1.out 0 (.int .i64 1))
  have HL1x := HL1
  clear HO1 HR1 F1 y0 f0
  generalize w1.setCell ⟨w.heap.size, 0, none⟩ (.int .i64 1) = u1 at *
  have k0 : u1.cell? ⟨w.heap.size, 0, none⟩ = some (.int .i64 1) := blk_cell HO1x.out 0
  go_upto_region 7 with (fail)
  cases hp2 : numR s p1 with
  | none =>
    have HP2 := Aside0.mk hp2; clear hp2
    go_wp2_with (first | (go_at_call 45; (with_reducible refine (numr_calls g s p1 _ HR1x.out HL1x.out HS.out).mono ?_); rintro e w2 hx; rw [HP2.out] at hx; obtain ⟨rfl, hf_⟩ := hx; have F2 := Aside0.mk (F1x.out.trans hf_); clear hf_))
    refine ⟨rfl, ?_⟩
    show AfterX g w s p (gaveUp 3) _
    unfold AfterX
    rw [show recR s p = none by rw [HE.out]; simp only [HP2.out, Option.bind_some, Option.bind_none]]
    exact ⟨rfl, F2.out⟩
  | some q_ =>
  obtain ⟨t_, p2⟩ := q_
  have HL2 := Aside0.mk (show p2 ≤ s.size from (rnum_some hp2).2.1)
  have HP2 := Aside0.mk hp2; clear hp2
  cases hp3 : numR s p2 with
  | none =>
    have HP3 := Aside0.mk hp3; clear hp3
    go_wp2_with (first | (go_at_call 45; (with_reducible refine (numr_calls g s p1 _ HR1x.out HL1x.out HS.out).mono ?_); rintro e w2 hx; rw [HP2.out] at hx; obtain ⟨rfl, hk_, hf_⟩ := hx; have HR2 := Aside0.mk hk_; have F2 := Aside0.mk (F1x.out.trans hf_); have HO2 := Aside0.mk (hf_.old HO1x.out HGO.out); clear hk_ hf_ HR1x F1x HO1x) | (go_at_call 45; (with_reducible refine (numr_calls g s p2 _ HR2.out HL2.out HS.out).mono ?_); rintro e w3 hx; rw [HP3.out] at hx; obtain ⟨rfl, hf_⟩ := hx; have F3 := Aside0.mk (F2.out.trans hf_); clear hf_))
    refine ⟨rfl, ?_⟩
    show AfterX g w s p (gaveUp 3) _
    unfold AfterX
    rw [show recR s p = none by rw [HE.out]; simp only [HP2.out, HP3.out, Option.bind_some, Option.bind_none]]
    exact ⟨rfl, F3.out⟩
  | some q_ =>
  obtain ⟨v_, p3⟩ := q_
  have HL3 := Aside0.mk (show p3 ≤ s.size from (rnum_some hp3).2.1)
  have HP3 := Aside0.mk hp3; clear hp3
  go_upto_region 8 with (first | (go_at_call 45; (with_reducible refine (numr_calls g s p1 _ HR1x.out HL1x.out HS.out).mono ?_); rintro e w2 hx; rw [HP2.out] at hx; obtain ⟨rfl, hk_, hf_⟩ := hx; have HR2 := Aside0.mk hk_; have F2 := Aside0.mk (F1x.out.trans hf_); have HO2 := Aside0.mk (hf_.old HO1x.out HGO.out); clear hk_ hf_ HR1x F1x HO1x) | (go_at_call 45; (with_reducible refine (numr_calls g s p2 _ HR2.out HL2.out HS.out).mono ?_); rintro e w3 hx; rw [HP3.out] at hx; obtain ⟨rfl, hk_, hf_⟩ := hx; have HR3 := Aside0.mk hk_; have F3 := Aside0.mk (F2.out.trans hf_); have HO3 := Aside0.mk (hf_.old HO2.out HGO.out); clear hk_ hf_ HR2 F2 HO2; have y1 : w3.cell? ⟨w.heap.size, 1, none⟩ = some _ := blk_cell HO3.out 1; have f1 := blk_frozen HO3.out 1; have y4 : w3.cell? ⟨w.heap.size, 4, none⟩ = some _ := blk_cell HO3.out 4; have f4 := blk_frozen HO3.out 4))
  have HO3x := Aside0.mk (show ((w3.setCell ⟨w.heap.size, 1, none⟩ (.int .i64 t_)).setCell ⟨w.heap.size, 4, none⟩ (.int .i64 v_)).heap[w.heap.size]? = some (.cells #[.int .i64 1, .int .i64 t_, .int .i64 0, .int .i64 0, .int .i64 v_, .int .i64 0, .int .i64 0, .string ⟨#[]⟩, .string ⟨#[]⟩, .slice none 0 0, .slice none 0 0] 25 (0, 0)) from (set_blk (set_blk HO3.out 1 (.int .i64 t_)) 4 (.int .i64 v_)))
  have HR3x := Aside0.mk (show RD ((w3.setCell ⟨w.heap.size, 1, none⟩ (.int .i64 t_)).setCell ⟨w.heap.size, 4, none⟩ (.int .i64 v_)) g s p3 from (keep_set (keep_set HR3.out HGN.out 1 (.int .i64 t_)) HGN.out 4 (.int .i64 v_)))
  have F3x := Aside0.mk (FS.fresh (FS.fresh F3.out 1 (.int .i64 t_)) 4 (.int .i64 v_))
  have HL3x := HL3
  clear HO3 HR3 F3 y1 f1 y4 f4
  generalize (w3.setCell ⟨w.heap.size, 1, none⟩ (.int .i64 t_)).setCell ⟨w.heap.size, 4, none⟩ (.int .i64 v_) = u3 at *
  (try clear k0)
  have k0 : u3.cell? ⟨w.heap.size, 0, none⟩ = some (.int .i64 1) := blk_cell HO3x.out 0
  go_upto_region 12 with (fail)
  cases hp4 : smallR s p3 with
  | none =>
    have HP4 := Aside0.mk hp4; clear hp4
    go_wp2_with (first | (go_at_call 44; (with_reducible refine (smallr_calls g s p3 _ HR3x.out HL3x.out HS.out).mono ?_); rintro e w4 hx; rw [HP4.out] at hx; obtain ⟨rfl, hf_⟩ := hx; have F4 := Aside0.mk (F3x.out.trans hf_); clear hf_))
    refine ⟨rfl, ?_⟩
    show AfterX g w s p (gaveUp 3) _
    unfold AfterX
    rw [show recR s p = none by rw [HE.out]; simp only [HP2.out, HP3.out, HP4.out, Option.bind_some, Option.bind_none]]
    exact ⟨rfl, F4.out⟩
  | some q_ =>
  obtain ⟨a_, p4⟩ := q_
  have HL4 := Aside0.mk (show p4 ≤ s.size from (small_some hp4).2.1)
  have HNa_ := Aside0.mk (show 0 ≤ a_ ∧ a_ ≤ 255 from (small_some hp4).2.2)
  have HP4 := Aside0.mk hp4; clear hp4
  cases hp5 : smallR s p4 with
  | none =>
    have HP5 := Aside0.mk hp5; clear hp5
    go_wp2_with (first | (go_at_call 44; (with_reducible refine (smallr_calls g s p3 _ HR3x.out HL3x.out HS.out).mono ?_); rintro e w4 hx; rw [HP4.out] at hx; obtain ⟨rfl, hk_, hf_⟩ := hx; have HR4 := Aside0.mk hk_; have F4 := Aside0.mk (F3x.out.trans hf_); have HO4 := Aside0.mk (hf_.old HO3x.out HGO.out); clear hk_ hf_ HR3x F3x HO3x) | (go_at_call 44; (with_reducible refine (smallr_calls g s p4 _ HR4.out HL4.out HS.out).mono ?_); rintro e w5 hx; rw [HP5.out] at hx; obtain ⟨rfl, hf_⟩ := hx; have F5 := Aside0.mk (F4.out.trans hf_); clear hf_))
    refine ⟨rfl, ?_⟩
    show AfterX g w s p (gaveUp 3) _
    unfold AfterX
    rw [show recR s p = none by rw [HE.out]; simp only [HP2.out, HP3.out, HP4.out, HP5.out, Option.bind_some, Option.bind_none]]
    exact ⟨rfl, F5.out⟩
  | some q_ =>
  obtain ⟨b_, p5⟩ := q_
  have HL5 := Aside0.mk (show p5 ≤ s.size from (small_some hp5).2.1)
  have HNb_ := Aside0.mk (show 0 ≤ b_ ∧ b_ ≤ 255 from (small_some hp5).2.2)
  have HP5 := Aside0.mk hp5; clear hp5
  go_upto_region 13 with (first | (go_at_call 44; (with_reducible refine (smallr_calls g s p3 _ HR3x.out HL3x.out HS.out).mono ?_); rintro e w4 hx; rw [HP4.out] at hx; obtain ⟨rfl, hk_, hf_⟩ := hx; have HR4 := Aside0.mk hk_; have F4 := Aside0.mk (F3x.out.trans hf_); have HO4 := Aside0.mk (hf_.old HO3x.out HGO.out); clear hk_ hf_ HR3x F3x HO3x) | (go_at_call 44; (with_reducible refine (smallr_calls g s p4 _ HR4.out HL4.out HS.out).mono ?_); rintro e w5 hx; rw [HP5.out] at hx; obtain ⟨rfl, hk_, hf_⟩ := hx; have HR5 := Aside0.mk hk_; have F5 := Aside0.mk (F4.out.trans hf_); have HO5 := Aside0.mk (hf_.old HO4.out HGO.out); clear hk_ hf_ HR4 F4 HO4; have y2 : w5.cell? ⟨w.heap.size, 2, none⟩ = some _ := blk_cell HO5.out 2; have f2 := blk_frozen HO5.out 2; have y3 : w5.cell? ⟨w.heap.size, 3, none⟩ = some _ := blk_cell HO5.out 3; have f3 := blk_frozen HO5.out 3))
  have HO5x := Aside0.mk (show ((w5.setCell ⟨w.heap.size, 2, none⟩ (.int .i64 a_)).setCell ⟨w.heap.size, 3, none⟩ (.int .i64 b_)).heap[w.heap.size]? = some (.cells #[.int .i64 1, .int .i64 t_, .int .i64 a_, .int .i64 b_, .int .i64 v_, .int .i64 0, .int .i64 0, .string ⟨#[]⟩, .string ⟨#[]⟩, .slice none 0 0, .slice none 0 0] 25 (0, 0)) from (set_blk (set_blk HO5.out 2 (.int .i64 a_)) 3 (.int .i64 b_)))
  have HR5x := Aside0.mk (show RD ((w5.setCell ⟨w.heap.size, 2, none⟩ (.int .i64 a_)).setCell ⟨w.heap.size, 3, none⟩ (.int .i64 b_)) g s p5 from (keep_set (keep_set HR5.out HGN.out 2 (.int .i64 a_)) HGN.out 3 (.int .i64 b_)))
  have F5x := Aside0.mk (FS.fresh (FS.fresh F5.out 2 (.int .i64 a_)) 3 (.int .i64 b_))
  have HL5x := HL5
  clear HO5 HR5 F5 y2 f2 y3 f3
  generalize (w5.setCell ⟨w.heap.size, 2, none⟩ (.int .i64 a_)).setCell ⟨w.heap.size, 3, none⟩ (.int .i64 b_) = u5 at *
  (try clear k0)
  have k0 : u5.cell? ⟨w.heap.size, 0, none⟩ = some (.int .i64 1) := blk_cell HO5x.out 0
  cases hp6 : smallR s p5 with
  | none =>
    have HP6 := Aside0.mk hp6; clear hp6
    go_wp2_with (first | (go_at_call 44; (with_reducible refine (smallr_calls g s p5 _ HR5x.out HL5x.out HS.out).mono ?_); rintro e w6 hx; rw [HP6.out] at hx; obtain ⟨rfl, hf_⟩ := hx; have F6 := Aside0.mk (F5x.out.trans hf_); clear hf_))
    refine ⟨rfl, ?_⟩
    show AfterX g w s p (gaveUp 3) _
    unfold AfterX
    rw [show recR s p = none by rw [HE.out]; simp only [HP2.out, HP3.out, HP4.out, HP5.out, HP6.out, Option.bind_some, Option.bind_none]]
    exact ⟨rfl, F6.out⟩
  | some q_ =>
  obtain ⟨n_, p6⟩ := q_
  have HL6 := Aside0.mk (show p6 ≤ s.size from (small_some hp6).2.1)
  have HNn_ := Aside0.mk (show 0 ≤ n_ ∧ n_ ≤ 255 from (small_some hp6).2.2)
  have HP6 := Aside0.mk hp6; clear hp6
  go_upto_region 14 with (first | (go_at_call 44; (with_reducible refine (smallr_calls g s p5 _ HR5x.out HL5x.out HS.out).mono ?_); rintro e w6 hx; rw [HP6.out] at hx; obtain ⟨rfl, hk_, hf_⟩ := hx; have HR6 := Aside0.mk hk_; have F6 := Aside0.mk (F5x.out.trans hf_); have HO6 := Aside0.mk (hf_.old HO5x.out HGO.out); clear hk_ hf_ HR5x F5x HO5x))
  (try clear k0)
  have k0 : w6.cell? ⟨w.heap.size, 0, none⟩ = some (.int .i64 1) := blk_cell HO6.out 0
  go_upto_region 15 with (fail)
  cases hp7 : takeR s p6 n_.toNat with
  | none =>
    have HP7 := Aside0.mk hp7; clear hp7
    go_wp2_with (first | (go_at_call 46; (with_reducible refine (take_lit g s p6 n_.toNat n_ (Int.toNat_of_nonneg HNn_.out.1).symm _ HR6.out HL6.out HS.out (by have := HNn_.out.2; omega)).mono ?_); rintro e w7 hx; rw [HP7.out] at hx; obtain ⟨rfl, hf_⟩ := hx; have F7 := Aside0.mk (F6.out.trans hf_); clear hf_))
    refine ⟨rfl, ?_⟩
    show AfterX g w s p (gaveUp 3) _
    unfold AfterX
    rw [show recR s p = none by rw [HE.out]; simp only [HP2.out, HP3.out, HP4.out, HP5.out, HP6.out, HP7.out, Option.bind_some, Option.bind_none]]
    exact ⟨rfl, F7.out⟩
  | some q_ =>
  obtain ⟨c_, p7⟩ := q_
  have HL7 := Aside0.mk (show p7 ≤ s.size from (take_size hp7).2.2)
  have HP7 := Aside0.mk hp7; clear hp7
  go_upto_region 16 with (first | (go_at_call 46; (with_reducible refine (take_lit g s p6 n_.toNat n_ (Int.toNat_of_nonneg HNn_.out.1).symm _ HR6.out HL6.out HS.out (by have := HNn_.out.2; omega)).mono ?_); rintro e w7 hx; rw [HP7.out] at hx; obtain ⟨rfl, hk_, hf_⟩ := hx; have HR7 := Aside0.mk hk_; have F7 := Aside0.mk (F6.out.trans hf_); have HO7 := Aside0.mk (hf_.old HO6.out HGO.out); clear hk_ hf_ HR6 F6 HO6; have y7 : w7.cell? ⟨w.heap.size, 7, none⟩ = some _ := blk_cell HO7.out 7; have f7 := blk_frozen HO7.out 7))
  have HO7x := Aside0.mk (show (w7.setCell ⟨w.heap.size, 7, none⟩ (.string c_)).heap[w.heap.size]? = some (.cells #[.int .i64 1, .int .i64 t_, .int .i64 a_, .int .i64 b_, .int .i64 v_, .int .i64 0, .int .i64 0, .string c_, .string ⟨#[]⟩, .slice none 0 0, .slice none 0 0] 25 (0, 0)) from (set_blk HO7.out 7 (.string c_)))
  have HR7x := Aside0.mk (show RD (w7.setCell ⟨w.heap.size, 7, none⟩ (.string c_)) g s p7 from (keep_set HR7.out HGN.out 7 (.string c_)))
  have F7x := Aside0.mk (FS.fresh F7.out 7 (.string c_))
  have HL7x := HL7
  clear HO7 HR7 F7 y7 f7
  generalize w7.setCell ⟨w.heap.size, 7, none⟩ (.string c_) = u7 at *
  (try clear k0)
  have k0 : u7.cell? ⟨w.heap.size, 0, none⟩ = some (.int .i64 1) := blk_cell HO7x.out 0
  cases hp8 : takeR s p7 n_.toNat with
  | none =>
    have HP8 := Aside0.mk hp8; clear hp8
    go_wp2_with (first | (go_at_call 46; (with_reducible refine (take_lit g s p7 n_.toNat n_ (Int.toNat_of_nonneg HNn_.out.1).symm _ HR7x.out HL7x.out HS.out (by have := HNn_.out.2; omega)).mono ?_); rintro e w8 hx; rw [HP8.out] at hx; obtain ⟨rfl, hf_⟩ := hx; have F8 := Aside0.mk (F7x.out.trans hf_); clear hf_))
    refine ⟨rfl, ?_⟩
    show AfterX g w s p (gaveUp 3) _
    unfold AfterX
    rw [show recR s p = none by rw [HE.out]; simp only [HP2.out, HP3.out, HP4.out, HP5.out, HP6.out, HP7.out, HP8.out, Option.bind_some, Option.bind_none]]
    exact ⟨rfl, F8.out⟩
  | some q_ =>
  obtain ⟨d_, p8⟩ := q_
  have HL8 := Aside0.mk (show p8 ≤ s.size from (take_size hp8).2.2)
  have HP8 := Aside0.mk hp8; clear hp8
  go_upto_region 27 with (first | (go_at_call 46; (with_reducible refine (take_lit g s p7 n_.toNat n_ (Int.toNat_of_nonneg HNn_.out.1).symm _ HR7x.out HL7x.out HS.out (by have := HNn_.out.2; omega)).mono ?_); rintro e w8 hx; rw [HP8.out] at hx; obtain ⟨rfl, hk_, hf_⟩ := hx; have HR8 := Aside0.mk hk_; have F8 := Aside0.mk (F7x.out.trans hf_); have HO8 := Aside0.mk (hf_.old HO7x.out HGO.out); clear hk_ hf_ HR7x F7x HO7x; have y8 : w8.cell? ⟨w.heap.size, 8, none⟩ = some _ := blk_cell HO8.out 8; have f8 := blk_frozen HO8.out 8))
  have HO8x := Aside0.mk (show (w8.setCell ⟨w.heap.size, 8, none⟩ (.string d_)).heap[w.heap.size]? = some (.cells #[.int .i64 1, .int .i64 t_, .int .i64 a_, .int .i64 b_, .int .i64 v_, .int .i64 0, .int .i64 0, .string c_, .string d_, .slice none 0 0, .slice none 0 0] 25 (0, 0)) from (set_blk HO8.out 8 (.string d_)))
  have HR8x := Aside0.mk (show RD (w8.setCell ⟨w.heap.size, 8, none⟩ (.string d_)) g s p8 from (keep_set HR8.out HGN.out 8 (.string d_)))
  have F8x := Aside0.mk (FS.fresh F8.out 8 (.string d_))
  have HL8x := HL8
  clear HO8 HR8 F8 y8 f8
  generalize w8.setCell ⟨w.heap.size, 8, none⟩ (.string d_) = u8 at *
  (try clear k0)
  have k0 : u8.cell? ⟨w.heap.size, 0, none⟩ = some (.int .i64 1) := blk_cell HO8x.out 0
  clear k0
  have x0 : u8.cell? ⟨w.heap.size, 0, none⟩ = some _ := blk_cell HO8x.out 0; have f0 := blk_frozen HO8x.out 0
  have x1 : u8.cell? ⟨w.heap.size, 1, none⟩ = some _ := blk_cell HO8x.out 1; have f1 := blk_frozen HO8x.out 1
  have x2 : u8.cell? ⟨w.heap.size, 2, none⟩ = some _ := blk_cell HO8x.out 2; have f2 := blk_frozen HO8x.out 2
  have x3 : u8.cell? ⟨w.heap.size, 3, none⟩ = some _ := blk_cell HO8x.out 3; have f3 := blk_frozen HO8x.out 3
  have x4 : u8.cell? ⟨w.heap.size, 4, none⟩ = some _ := blk_cell HO8x.out 4; have f4 := blk_frozen HO8x.out 4
  have x5 : u8.cell? ⟨w.heap.size, 5, none⟩ = some _ := blk_cell HO8x.out 5; have f5 := blk_frozen HO8x.out 5
  have x6 : u8.cell? ⟨w.heap.size, 6, none⟩ = some _ := blk_cell HO8x.out 6; have f6 := blk_frozen HO8x.out 6
  have x7 : u8.cell? ⟨w.heap.size, 7, none⟩ = some _ := blk_cell HO8x.out 7; have f7 := blk_frozen HO8x.out 7
  have x8 : u8.cell? ⟨w.heap.size, 8, none⟩ = some _ := blk_cell HO8x.out 8; have f8 := blk_frozen HO8x.out 8
  have x9 : u8.cell? ⟨w.heap.size, 9, none⟩ = some _ := blk_cell HO8x.out 9; have f9 := blk_frozen HO8x.out 9
  have x10 : u8.cell? ⟨w.heap.size, 10, none⟩ = some _ := blk_cell HO8x.out 10; have f10 := blk_frozen HO8x.out 10
  have HB_ := HO8x; have HRR := HR8x; have FFF := F8x
  go_wp2
  refine bodyPost_ret (v := .agg #[.int .i64 1, .int .i64 t_, .int .i64 a_, .int .i64 b_, .int .i64 v_, .int .i64 0, .int .i64 0, .string c_, .string d_, .slice none 0 0, .slice none 0 0]) (by simp [results, Try.results31, go_sem, x0, x1, x2, x3, x4, x5, x6, x7, x8, x9, x10]) rfl ?_
  show AfterX g w s p _ _
  unfold AfterX
  rw [show recR s p = some ((⟨1, t_, a_, b_, v_, 0, 0, c_, d_, [], []⟩ : S25), p8) by rw [HE.out]; (try simp only [HP2.out, HP3.out, HP4.out, HP5.out, HP6.out, HP7.out, HP8.out, Option.bind_some])]
  refine ⟨_, _, rfl, Kd.R_nil _ _ _ _ _, Kd.R_nil _ _ _ _ _, ?_, ?_⟩
  · show RD _ g s p8
    repeat (first | (with_reducible refine RD.keep ?_ HGN.out _ _) | (with_reducible exact HRR.out))
  · repeat (first | (with_reducible refine FS.fresh ?_ _ _) | (with_reducible exact FFF.out))
end Go.Proofs.Ytcfknakmamcinaa.Wr
namespace Go.Proofs.Ytcfknakmamcinaa.Wr
open Go.Proofs.Ytcfknakmamcinaa.Rp Go.Proofs.Ytcfknakmamcinaa.X4
open Go Go.RowKit Go.ChangeMaps Go.Proofs.Ytcfknakmamcinaa.Arr Go.Proofs.Ytcfknakmamcinaa.Ow Go.Proofs.YtcfknakmamcinaaW.PrintWords Go.Proofs.YtcfknakmamcinaaW.PrintLast Go.Proofs.YtcfknakmamcinaaW.PrintMore
set_option linter.unusedVariables false
set_option linter.unusedSimpArgs false
theorem ap_ {P : Program} {ops : Array Oper} {Q : Exit → Act → World → Prop} {oi : Oper} {N : Option Tmp} {a : Act} {w w1 : World} {v : Value} {K : Act → World → Prop} (s x : Operand) (t : TypeId) (hw : Region.wanted oi (yielded ops a.tmps) = true) (hN : oi.dst = N)
    (ho : oi.op = .call { callee := .builtin .append, args := #[s, x], argTypes := #[t, t] }) (v1 v2 : Value) (hs : a.eval s = v1) (hx : a.eval x = v2) (hr : (Builtin.append_ #[t, t] oi.type #[v1, v2]).run P w = .ok v w1)
    (h : K (a.put N v) w1) : if Region.wanted oi (yielded ops a.tmps) = true then Oper.wp P oi a w K Q else K (a.put N undef) w := by
  refine value_ hw hN ?_ h
  unfold execOp
  simp only [ho, resolve, invoke, builtin, Sem.run_bind, Sem.run_pure, Result.andThen_ok, List.map_toArray, List.map_cons, List.map_nil, hs, hx, hr]
theorem ow_ne2 {w : World} {S S2 : Nat → Prop} {e e2 : TypeId} {sz sz2 : Nat} {v v2 : Value} {n n2 : Nat} {xs xs2 : List Value} (h : Ow w S e sz v n xs) (h2 : Ow w S2 e2 sz2 v2 n2 xs2) (ht : e2 ≠ e) : ∀ k, v.ownBlock = some k → v2.ownBlock ≠ some k := fun k hk e1 => by
  rcases h2.own.2 with ⟨rfl, _⟩ | ⟨g', cap, cur, rfl, _, hg, _⟩
  · cases e1
  · injection e1 with e1
    subst e1
    exact ow_ne h hg ht _ hk rfl
theorem Ow.far {w : World} {S : Nat → Prop} {e T : TypeId} {sz : Nat} {v : Value} {n : Nat} {xs : List Value} {o : Nat} {cs : Array Value} (h : Ow w S e sz v n xs) (hb : w.heap[o]? = some (.cells cs T (0, 0))) (hT : T ≠ e) (j : Nat) (u : Value) : Ow (w.setCell ⟨o, j, none⟩ u) S e sz v n xs :=
  h.same fun k hk => Below.heap_setCell w ⟨o, j, none⟩ u k (ow_ne h hb hT k hk)
theorem Ow.based {w : World} {S : Nat → Prop} {e : TypeId} {sz : Nat} {v : Value} {n : Nat} {xs : List Value} (h : Ow w S e sz v n xs) {B : Nat} (hB : ∀ k, S k → B ≤ k) : w.ownsRow B e sz v n xs := by
  refine ⟨h.own.1, ?_⟩
  rcases h.own.2 with h1 | ⟨g', cap, cur, rfl, _, r⟩
  · exact .inl h1
  · exact .inr ⟨g', cap, cur, rfl, hB g' (h.mem g' rfl), r⟩
theorem ow_fresh {w : World} {S : Nat → Prop} {e T : TypeId} {sz : Nat} {v : Value} {n : Nat} {xs : List Value} {o : Nat} (h : Ow w S e sz v n xs) (hT : T ≠ e) (j : Nat) (u : Value) (hb : ∃ cs, w.heap[o]? = some (.cells cs T (0, 0))) : Ow (w.setCell ⟨o, j, none⟩ u) S e sz v n xs := by
  obtain ⟨cs, hb⟩ := hb
  exact Wr.Ow.far h hb hT j u
theorem cells_kept {w : World} {T : TypeId} {o : Nat} (hb : ∃ cs, w.heap[o]? = some (.cells cs T (0, 0))) (j : Nat) (u : Value) : ∃ cs, (w.setCell ⟨o, j, none⟩ u).heap[o]? = some (.cells cs T (0, 0)) := by
  obtain ⟨cs, hb⟩ := hb
  exact ⟨_, set_blk hb j u⟩
abbrev From (B : Nat) : Nat → Prop := fun k => B ≤ k
def flatT (L : List S66) : List Value := L.flatMap fun x => [.int .i64 x.f0, .int .i64 x.f1, .int .i64 x.f2]
theorem infoT : (Try.prog.info? 66).map (fun i => (i.zero, i.size, i.bytes)) = some (some (.agg #[.int .i64 0, .int .i64 0, .int .i64 0]), 3, 24) := by kernel_rfl
theorem flatT_snoc (L : List S66) (x : S66) : flatT (L ++ [x]) = flatT L ++ [.int .i64 x.f0, .int .i64 x.f1, .int .i64 x.f2] := by unfold flatT; rw [List.flatMap_append]; rfl
theorem push_rowT {w : World} {S : Nat → Prop} {v : Value} (L : List S66) (x : S66) (h : Ow w S 66 3 v L.length (flatT L)) (hl : L.length ≤ 1000000) {nb : Nat} (hnb : w.heap[nb]? = some (.cells #[.int .i64 x.f0, .int .i64 x.f1, .int .i64 x.f2] 66 (0, 0))) (ty : TypeId) :
    ∃ v' w', (Builtin.append_ #[22, 22] ty #[v, .slice (some ⟨nb, 0, none⟩) 1 1]).run Try.prog w = .ok v' w' ∧ Ow w' (fun k => S k ∨ k = w.heap.size) 66 3 v' (L ++ [x]).length (flatT (L ++ [x])) ∧ w.grownBy w' v.ownBlock ∧ ∃ g' c', v' = .slice (some ⟨g', 0, none⟩) (L.length + 1) c' := by
  obtain ⟨i0, hi0, h2⟩ := Option.map_eq_some_iff.1 infoT
  have hz : i0.zero = some (.agg #[.int .i64 0, .int .i64 0, .int .i64 0]) := congrArg Prod.fst h2
  have hs : i0.size = 3 := congrArg (fun p => p.2.1) h2
  have hb : i0.bytes = 24 := congrArg (fun p => p.2.2) h2
  obtain ⟨v', w', r1, r2, r3, _, r5⟩ := run_append_ow (P := Try.prog) (ty := ty) 22 66 i0 _ 3 24 (by kernel_rfl) hi0 hz hs hb rfl (by decide) v L.length _ h ⟨nb, 0, none⟩ 1 1 [.int .i64 x.f0, .int .i64 x.f1, .int .i64 x.f2] rfl (fun j u hj => by
    rw [add_plain]
    exact (blk_cell hnb j).trans (by simpa using hj)) (fun u hu => by
    simp only [List.mem_cons, List.not_mem_nil, or_false] at hu
    rcases hu with rfl | rfl | rfl <;> rfl) (by simp only [maxLen]; omega) (by omega) (by decide)
  refine ⟨v', w', r1, ?_, r3, r5⟩
  rw [List.length_append, flatT_snoc]
  exact r2
theorem ow_RT {w : World} {S : Nat → Prop} {v : Value} {L : List S66} {B : Nat} (h : Ow w S 66 3 v L.length (flatT L)) (hB : ∀ k, S k → B ≤ k) : Kd.R k66 66 w B (fun _ => True) v L := by
  refine ⟨fun _ _ => trivial, flatT L, Wr.Ow.based h hB, ?_⟩
  have key : ∀ M : List S66, Reps (k66.M w B (fun k => True ∧ some k ≠ v.ownBlock)) 3 M.reverse (flatT M.reverse) := fun M => by
    induction M with
    | nil => exact Reps.none _ _
    | cons x t ih =>
      rw [List.reverse_cons, flatT_snoc]
      exact ih.snoc (k66_mkM _ _ _ x) rfl
  have := key L.reverse
  rwa [List.reverse_reverse] at this
theorem rowsT_none {s : ByteArray} {p k q n : Nat} {L : List S66} (h : rowsT s k p = some (L, q)) (h1 : rowT1 s q = none) (hk : k < n) : rowsT s n p = none := by
  induction n with
  | zero => omega
  | succ n ih =>
    simp only [rowsT]
    by_cases e : k = n
    · subst e
      rw [h]
      simp only [Option.bind_some, h1]
      rfl
    · rw [ih (by omega)]
      rfl
theorem rowsT_succ {s : ByteArray} {p k q : Nat} {L : List S66} {x : S66} {q2 : Nat} (h : rowsT s k p = some (L, q)) (h1 : rowT1 s q = some (x, q2)) : rowsT s (k + 1) p = some (L ++ [x], q2) := by
  simp only [rowsT, h, Option.bind_some, h1]
def flatQ (L : List S68) : List Value := L.flatMap fun x => [.int .i64 x.f0, .int .i64 x.f1]
theorem infoQ : (Try.prog.info? 68).map (fun i => (i.zero, i.size, i.bytes)) = some (some (.agg #[.int .i64 0, .int .i64 0]), 2, 16) := by kernel_rfl
theorem flatQ_snoc (L : List S68) (x : S68) : flatQ (L ++ [x]) = flatQ L ++ [.int .i64 x.f0, .int .i64 x.f1] := by unfold flatQ; rw [List.flatMap_append]; rfl
theorem push_rowQ {w : World} {S : Nat → Prop} {v : Value} (L : List S68) (x : S68) (h : Ow w S 68 2 v L.length (flatQ L)) (hl : L.length ≤ 1000000) {nb : Nat} (hnb : w.heap[nb]? = some (.cells #[.int .i64 x.f0, .int .i64 x.f1] 68 (0, 0))) (ty : TypeId) :
    ∃ v' w', (Builtin.append_ #[23, 23] ty #[v, .slice (some ⟨nb, 0, none⟩) 1 1]).run Try.prog w = .ok v' w' ∧ Ow w' (fun k => S k ∨ k = w.heap.size) 68 2 v' (L ++ [x]).length (flatQ (L ++ [x])) ∧ w.grownBy w' v.ownBlock ∧ ∃ g' c', v' = .slice (some ⟨g', 0, none⟩) (L.length + 1) c' := by
  obtain ⟨i0, hi0, h2⟩ := Option.map_eq_some_iff.1 infoQ
  have hz : i0.zero = some (.agg #[.int .i64 0, .int .i64 0]) := congrArg Prod.fst h2
  have hs : i0.size = 2 := congrArg (fun p => p.2.1) h2
  have hb : i0.bytes = 16 := congrArg (fun p => p.2.2) h2
  obtain ⟨v', w', r1, r2, r3, _, r5⟩ := run_append_ow (P := Try.prog) (ty := ty) 23 68 i0 _ 2 16 (by kernel_rfl) hi0 hz hs hb rfl (by decide) v L.length _ h ⟨nb, 0, none⟩ 1 1 [.int .i64 x.f0, .int .i64 x.f1] rfl (fun j u hj => by
    rw [add_plain]
    exact (blk_cell hnb j).trans (by simpa using hj)) (fun u hu => by
    simp only [List.mem_cons, List.not_mem_nil, or_false] at hu
    rcases hu with rfl | rfl <;> rfl) (by simp only [maxLen]; omega) (by omega) (by decide)
  refine ⟨v', w', r1, ?_, r3, r5⟩
  rw [List.length_append, flatQ_snoc]
  exact r2
theorem ow_RQ {w : World} {S : Nat → Prop} {v : Value} {L : List S68} {B : Nat} (h : Ow w S 68 2 v L.length (flatQ L)) (hB : ∀ k, S k → B ≤ k) : Kd.R k68 68 w B (fun _ => True) v L := by
  refine ⟨fun _ _ => trivial, flatQ L, Wr.Ow.based h hB, ?_⟩
  have key : ∀ M : List S68, Reps (k68.M w B (fun k => True ∧ some k ≠ v.ownBlock)) 2 M.reverse (flatQ M.reverse) := fun M => by
    induction M with
    | nil => exact Reps.none _ _
    | cons x t ih =>
      rw [List.reverse_cons, flatQ_snoc]
      exact ih.snoc (k68_mkM _ _ _ x) rfl
  have := key L.reverse
  rwa [List.reverse_reverse] at this
theorem rowsQ_none {s : ByteArray} {p k q n : Nat} {L : List S68} (h : rowsQ s k p = some (L, q)) (h1 : rowQ1 s q = none) (hk : k < n) : rowsQ s n p = none := by
  induction n with
  | zero => omega
  | succ n ih =>
    simp only [rowsQ]
    by_cases e : k = n
    · subst e
      rw [h]
      simp only [Option.bind_some, h1]
      rfl
    · rw [ih (by omega)]
      rfl
theorem rowsQ_succ {s : ByteArray} {p k q : Nat} {L : List S68} {x : S68} {q2 : Nat} (h : rowsQ s k p = some (L, q)) (h1 : rowQ1 s q = some (x, q2)) : rowsQ s (k + 1) p = some (L ++ [x], q2) := by
  simp only [rowsQ, h, Option.bind_some, h1]
end Go.Proofs.Ytcfknakmamcinaa.Wr
