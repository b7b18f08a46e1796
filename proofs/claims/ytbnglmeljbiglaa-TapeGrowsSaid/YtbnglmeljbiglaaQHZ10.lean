import Derived.Test.YtbnglmeljbiglaaQHZ0
import Derived.Test.YtbnglmeljbiglaaQHZ1
import Derived.Test.YtbnglmeljbiglaaQHZ2
import Derived.Test.YtbnglmeljbiglaaQHZ3
import Derived.Test.YtbnglmeljbiglaaQHZ4
set_option maxRecDepth 8192
namespace Go.Proofs.Ytbnglmeljbiglaa.Wr
open Go.Proofs.Ytbnglmeljbiglaa.Rgn
open Go.Proofs.Ytbnglmeljbiglaa.Rp Go.Proofs.Ytbnglmeljbiglaa.X4
open Go Go.RowKit Go.ChangeMaps Go.Proofs.Ytbnglmeljbiglaa.Arr Go.Proofs.Ytbnglmeljbiglaa.Ow Go.Proofs.YtbnglmeljbiglaaW.PrintWords Go.Proofs.YtbnglmeljbiglaaW.PrintLast Go.Proofs.YtbnglmeljbiglaaW.PrintMore
set_option linter.unusedVariables false
set_option linter.unusedSimpArgs false
set_option maxHeartbeats 4000000 in
theorem rrec_six (g : Nat) (s : ByteArray) (p p1 : Nat) (w : World) (h : RD w g s p) (hp : p ≤ s.size) (hs : s.size ≤ 1000000000) (h0 : smallR s p = some (6, p1)) : Calls Try.prog 92 #[.pointer (some ⟨g, 0, none⟩)] w fun x w' => AfterX g w s p x w' := by
  have HS := Aside0.mk (show s.size ≤ 1000000000000 by omega); have HL := Aside0.mk hp
  have HE := Aside0.mk (show recR s p = (numR s p1).bind fun b => (smallR s b.2).bind fun n => (rowsT s n.1.toNat n.2).bind fun x => (smallR s x.2).bind fun m => (rowsQ s m.1.toNat m.2).bind fun y => some (⟨6, 0, 0, 0, 0, 0, b.1, ⟨#[]⟩, ⟨#[]⟩, x.1, y.1⟩, y.2) by unfold recR; rw [h0, Option.bind_some]; simp only; rw [if_neg (by decide), if_neg (by decide), if_neg (by decide), if_pos trivial])
  have HL1 := Aside0.mk (show p1 ≤ s.size from (small_some h0).2.1)
  have HP1 := Aside0.mk h0
  have HGN := Aside0.mk (show g ≠ w.heap.size from Nat.ne_of_lt (blk_lt h))
  have HGO := Aside0.mk (show ¬ One g w.heap.size from fun e => HGN.out (e : w.heap.size = g).symm)
  have HR0 := Aside0.mk (h.below ((Below.refl _ _).alloc (Nat.le_refl _) (.cells #[.int .i64 0, .int .i64 0, .int .i64 0, .int .i64 0, .int .i64 0, .int .i64 0, .int .i64 0, .string ⟨#[]⟩, .string ⟨#[]⟩, .slice none 0 0, .slice none 0 0] 37)))
  have F0 := Aside0.mk ((FS.refl (One g) w).alloc (.cells #[.int .i64 0, .int .i64 0, .int .i64 0, .int .i64 0, .int .i64 0, .int .i64 0, .int .i64 0, .string ⟨#[]⟩, .string ⟨#[]⟩, .slice none 0 0, .slice none 0 0] 37))
  have HO0 := Aside0.mk (heap_alloc_new w (.cells #[.int .i64 0, .int .i64 0, .int .i64 0, .int .i64 0, .int .i64 0, .int .i64 0, .int .i64 0, .string ⟨#[]⟩, .string ⟨#[]⟩, .slice none 0 0, .slice none 0 0] 37))
  have HGL := Aside0.mk (blk_lt h)
  clear h hp hs h0
  go_enter Try.func92, Try.ntmps92
  go_upto_region 1 with (fail)
  generalize w.alloc (.cells #[.int .i64 0, .int .i64 0, .int .i64 0, .int .i64 0, .int .i64 0, .int .i64 0, .int .i64 0, .string ⟨#[]⟩, .string ⟨#[]⟩, .slice none 0 0, .slice none 0 0] 37) = W1 at *
  go_upto_region 2 with (go_at_call 95; (with_reducible refine (smallr_calls g s p _ HR0.out HL.out HS.out).mono ?_); rintro e w1 hx; rw [HP1.out] at hx; obtain ⟨rfl, hk_, hf_⟩ := hx; have HR1 := Aside0.mk hk_; have F1 := Aside0.mk (F0.out.trans hf_); have HO1 := Aside0.mk (hf_.old HO0.out HGO.out); clear hk_ hf_ HR0 F0 HO0; have y0 : w1.cell? ⟨w.heap.size, 0, none⟩ = some _ := blk_cell HO1.out 0; have f0 := blk_frozen HO1.out 0)
  have HO1x := Aside0.mk (show (w1.setCell ⟨w.heap.size, 0, none⟩ (.int .i64 6)).heap[w.heap.size]? = some (.cells #[.int .i64 6, .int .i64 0, .int .i64 0, .int .i64 0, .int .i64 0, .int .i64 0, .int .i64 0, .string ⟨#[]⟩, .string ⟨#[]⟩, .slice none 0 0, .slice none 0 0] 37 (0, 0)) from set_blk HO1.out 0 (.int .i64 6))
  have HR1x := Aside0.mk (show RD (w1.setCell ⟨w.heap.size, 0, none⟩ (.int .i64 6)) g s p1 from keep_set HR1.out HGN.out 0 _)
  have F1x := Aside0.mk (FS.fresh F1.out 0 (.int .i64 6))
  have HL1x := HL1
  clear HO1 HR1 F1 y0 f0
  generalize w1.setCell ⟨w.heap.size, 0, none⟩ (.int .i64 6) = u1 at *
  have k0 : u1.cell? ⟨w.heap.size, 0, none⟩ = some (.int .i64 6) := blk_cell HO1x.out 0
  go_upto_region 18 with (fail)
  cases hp2 : numR s p1 with
  | none =>
    have HP2 := Aside0.mk hp2; clear hp2
    go_wp2_with (first | (go_at_call 96; (with_reducible refine (numr_calls g s p1 _ HR1x.out HL1x.out HS.out).mono ?_); rintro e w2 hx; rw [HP2.out] at hx; obtain ⟨rfl, hf_⟩ := hx; have F2 := Aside0.mk (F1x.out.trans hf_); clear hf_))
    refine ⟨rfl, ?_⟩
    show AfterX g w s p (gaveUp 3) _
    unfold AfterX
    rw [show recR s p = none by rw [HE.out]; simp only [HP2.out, Option.bind_some, Option.bind_none]]
    exact ⟨rfl, F2.out⟩
  | some q_ =>
  obtain ⟨b_, p2⟩ := q_
  have HL2 := Aside0.mk (show p2 ≤ s.size from (rnum_some hp2).2.1)
  have HP2 := Aside0.mk hp2; clear hp2
  go_upto_region 19 with (first | (go_at_call 96; (with_reducible refine (numr_calls g s p1 _ HR1x.out HL1x.out HS.out).mono ?_); rintro e w2 hx; rw [HP2.out] at hx; obtain ⟨rfl, hk_, hf_⟩ := hx; have HR2 := Aside0.mk hk_; have F2 := Aside0.mk (F1x.out.trans hf_); have HO2 := Aside0.mk (hf_.old HO1x.out HGO.out); clear hk_ hf_ HR1x F1x HO1x; have y6 : w2.cell? ⟨w.heap.size, 6, none⟩ = some _ := blk_cell HO2.out 6; have f6 := blk_frozen HO2.out 6))
  have HO2x := Aside0.mk (show (w2.setCell ⟨w.heap.size, 6, none⟩ (.int .i64 b_)).heap[w.heap.size]? = some (.cells #[.int .i64 6, .int .i64 0, .int .i64 0, .int .i64 0, .int .i64 0, .int .i64 0, .int .i64 b_, .string ⟨#[]⟩, .string ⟨#[]⟩, .slice none 0 0, .slice none 0 0] 37 (0, 0)) from (set_blk HO2.out 6 (.int .i64 b_)))
  have HR2x := Aside0.mk (show RD (w2.setCell ⟨w.heap.size, 6, none⟩ (.int .i64 b_)) g s p2 from (keep_set HR2.out HGN.out 6 (.int .i64 b_)))
  have F2x := Aside0.mk (FS.fresh F2.out 6 (.int .i64 b_))
  have HL2x := HL2
  clear HO2 HR2 F2 y6 f6
  generalize w2.setCell ⟨w.heap.size, 6, none⟩ (.int .i64 b_) = u2 at *
  (try clear k0)
  have k0 : u2.cell? ⟨w.heap.size, 0, none⟩ = some (.int .i64 6) := blk_cell HO2x.out 0
  cases hp3 : smallR s p2 with
  | none =>
    have HP3 := Aside0.mk hp3; clear hp3
    go_wp2_with (first | (go_at_call 95; (with_reducible refine (smallr_calls g s p2 _ HR2x.out HL2x.out HS.out).mono ?_); rintro e w3 hx; rw [HP3.out] at hx; obtain ⟨rfl, hf_⟩ := hx; have F3 := Aside0.mk (F2x.out.trans hf_); clear hf_))
    refine ⟨rfl, ?_⟩
    show AfterX g w s p (gaveUp 3) _
    unfold AfterX
    rw [show recR s p = none by rw [HE.out]; simp only [HP2.out, HP3.out, Option.bind_some, Option.bind_none]]
    exact ⟨rfl, F3.out⟩
  | some q_ =>
  obtain ⟨n_, p3⟩ := q_
  have HL3 := Aside0.mk (show p3 ≤ s.size from (small_some hp3).2.1)
  have HNn_ := Aside0.mk (show 0 ≤ n_ ∧ n_ ≤ 255 from (small_some hp3).2.2)
  have HP3 := Aside0.mk hp3; clear hp3
  go_upto_region 20 with (first | (go_at_call 95; (with_reducible refine (smallr_calls g s p2 _ HR2x.out HL2x.out HS.out).mono ?_); rintro e w3 hx; rw [HP3.out] at hx; obtain ⟨rfl, hk_, hf_⟩ := hx; have HR3 := Aside0.mk hk_; have F3 := Aside0.mk (F2x.out.trans hf_); have HO3 := Aside0.mk (hf_.old HO2x.out HGO.out); clear hk_ hf_ HR2x F2x HO2x))
  (try clear k0)
  have k0 : w3.cell? ⟨w.heap.size, 0, none⟩ = some (.int .i64 6) := blk_cell HO3.out 0
  clear k0
  have HRx := HR3; have HOx := HO3; have Fx := F3; have HLx := HL3
  clear HR3 HO3 F3
  have HG9 := Aside0.mk (show ∀ k, From w.heap.size k → ¬ One g k from fun k hk e => by have h1 : k = g := e; have h2 : w.heap.size ≤ k := hk; have h3 := HGL.out; omega)
  go_loopw [56] (fun v wr => ∃ (k : Nat) (L9 : List S107) (q9 : Nat) (u9 : Value), v = .int .i64 k ∧ Aside0 ((k : Int) ≤ n_) ∧ Aside0 (rowsT s k p3 = some (L9, q9)) ∧ Aside0 (q9 ≤ s.size ∧ L9.length = k) ∧ Aside0 (RD wr g s q9) ∧ Aside0 (wr.heap[w.heap.size]? = some (.cells #[.int .i64 6, .int .i64 0, .int .i64 0, .int .i64 0, .int .i64 0, .int .i64 0, .int .i64 b_, .string ⟨#[]⟩, .string ⟨#[]⟩, u9, .slice none 0 0] 37 (0, 0))) ∧ Aside0 (Ow wr (From w.heap.size) 107 3 u9 L9.length (flatT L9)) ∧ Aside0 (FS (One g) w wr)) (fun v _ => n_.toNat - (intOf v).toNat)
  case atStart => exact ⟨0, [], p3, .slice none 0 0, rfl, ⟨HNn_.out.1⟩, ⟨rfl⟩, ⟨HLx.out, rfl⟩, HRx, HOx, ⟨Ow.nil _ _ _ _⟩, Fx⟩
  case round =>
    clear HRx HOx Fx
    obtain ⟨k, L9, q9, u9, rfl, K, HJ, HQ, HR, HO, HOW, F⟩ := hrel
    by_cases hlt : (k : Int) < n_
    · have HLT := Aside0.mk (show k < n_.toNat by omega)
      have hwk : wrap64 ((k : Int) + 1) = ((k + 1 : Nat) : Int) := by have := HNn_.out.2; unfold wrap64; omega
      obtain ⟨A_, c_, e_, -⟩ := HOW.out.shape
      subst e_
      have z9 : wr.drew.cell? ⟨w.heap.size, 9, none⟩ = some (.slice A_ L9.length c_) := blk_cell (w := wr.drew) HO.out 9
      have HR_n := Aside0.mk (HR.out.below ((Below.refl _ _).drew))
      clear HR
      have HR := HR_n
      clear HR_n
      have HO_n := Aside0.mk (show wr.drew.heap[w.heap.size]? = some (.cells #[.int .i64 6, .int .i64 0, .int .i64 0, .int .i64 0, .int .i64 0, .int .i64 0, .int .i64 b_, .string ⟨#[]⟩, .string ⟨#[]⟩, .slice A_ L9.length c_, .slice none 0 0] 37 (0, 0)) from HO.out)
      clear HO
      have HO := HO_n
      clear HO_n
      have HOW_n := Aside0.mk (HOW.out.same (w' := wr.drew) (fun _ _ => rfl))
      clear HOW
      have HOW := HOW_n
      clear HOW_n
      have F_n := Aside0.mk (F.out.drew)
      clear F
      have F := F_n
      clear F_n
      go_upto_region 21 with (fail)
      cases hp0 : numR s q9 with
      | none =>
        have HPr0 := Aside0.mk hp0; clear hp0
        refine start_ (n := 13) (S := fun w' => w'.cell? ⟨w.heap.size, 9, none⟩ = some (.slice A_ L9.length c_)) (ds := [12]) #[false, false, false, false, false, false, false, false, false, false, false, false, false] (by kernel_rfl) rfl rfl z9 (fun hHeld => ?_)
        refine rgp 0 58 ?_
        refine rgp 2 60 ?_
        refine rgp 4 62 ?_
        refine rgp 6 64 ?_
        refine rgt 1 59 hHeld ?_
        refine one_ (i := 3) (N := some 61) #[true, true, true, true, true, false, true, false, false, false, false, false, false] rfl rfl (by kernel_rfl) (by decide) (fun K hK => ?_)
        generalize wr.drew = X0_ at *
        refine goesQ_ Try.func96 (by kernel_rfl) rfl #[.pointer (some ⟨g, 0, none⟩)] (by rfl) rfl rfl (by (try simp only [List.map_toArray, List.map_cons, List.map_nil]); first | done | rfl) ?_
        refine (numr_calls g s q9 _ HR.out HQ.out.1 HS.out).mono ?_
        rintro e w9 hx
        rw [HPr0.out] at hx
        obtain ⟨rfl, hf_⟩ := hx
        refine Or.inr ⟨_, rfl, rfl, ?_⟩
        show AfterX g w s p (gaveUp 3) _
        unfold AfterX
        rw [show recR s p = none by rw [HE.out]; simp only [Option.bind_some, HP2.out, HP3.out, rowsT_none HJ.out (show rowT1 s q9 = none by unfold rowT1; simp only [Option.bind_some, Option.bind_none, HPr0.out]) HLT.out, Option.bind_some, Option.bind_none]]
        exact ⟨rfl, F.out.trans hf_⟩
      | some q_ =>
      obtain ⟨a_, q0⟩ := q_
      have HL_0 := Aside0.mk (show q0 ≤ s.size from (rnum_some hp0).2.1)
      have HPr0 := Aside0.mk hp0; clear hp0
      cases hp1 : numR s q0 with
      | none =>
        have HPr1 := Aside0.mk hp1; clear hp1
        refine start_ (n := 13) (S := fun w' => w'.cell? ⟨w.heap.size, 9, none⟩ = some (.slice A_ L9.length c_)) (ds := [12]) #[false, false, false, false, false, false, false, false, false, false, false, false, false] (by kernel_rfl) rfl rfl z9 (fun hHeld => ?_)
        refine rgp 0 58 ?_
        refine rgp 2 60 ?_
        refine rgp 4 62 ?_
        refine rgp 6 64 ?_
        refine rgt 1 59 hHeld ?_
        refine one_ (i := 3) (N := some 61) #[true, true, true, true, true, false, true, false, false, false, false, false, false] rfl rfl (by kernel_rfl) (by decide) (fun K hK => ?_)
        generalize wr.drew = X0_ at *
        refine goes_ Try.func96 (by kernel_rfl) rfl #[.pointer (some ⟨g, 0, none⟩)] (by rfl) rfl rfl (by (try simp only [List.map_toArray, List.map_cons, List.map_nil]); first | done | rfl) ?_
        refine (numr_calls g s q9 _ HR.out HQ.out.1 HS.out).mono ?_
        rintro e v1_ hx
        rw [HPr0.out] at hx
        obtain ⟨rfl, hk_, hf_⟩ := hx
        refine ⟨_, rfl, ?_⟩
        have HR_n := Aside0.mk (hk_)
        have F_n := Aside0.mk (F.out.trans hf_)
        have HO_n := Aside0.mk (hf_.old HO.out HGO.out)
        have HOW_n := Aside0.mk (HOW.out.kept hf_ (fun k hk e => HG9.out k hk e))
        clear HR F HO HOW
        have HR := HR_n
        have F := F_n
        have HO := HO_n
        have HOW := HOW_n
        clear HR_n F_n HO_n HOW_n
        refine hK _ _ (blk_cell HO.out 9) (fun hHeld => ?_)
        clear hK K hk_ hf_
        refine norm_ (a' := ?_) ?_ ?_
        rotate_left
        · show Act.put _ (some 61) _ = _
          simp only [Act.put, List.setIfInBounds_toArray, List.set_cons_zero, List.set_cons_succ, i64_w, i32_w]
          rfl
        refine one_ (i := 5) (N := some 63) #[true, true, true, true, true, true, true, false, false, false, false, false, false] rfl rfl (by kernel_rfl) (by decide) (fun K hK => ?_)
        refine goesQ_ Try.func96 (by kernel_rfl) rfl #[.pointer (some ⟨g, 0, none⟩)] (by rfl) rfl rfl (by (try simp only [List.map_toArray, List.map_cons, List.map_nil]); first | done | rfl) ?_
        refine (numr_calls g s q0 _ HR.out HL_0.out HS.out).mono ?_
        rintro e w9 hx
        rw [HPr1.out] at hx
        obtain ⟨rfl, hf_⟩ := hx
        refine Or.inr ⟨_, rfl, rfl, ?_⟩
        show AfterX g w s p (gaveUp 3) _
        unfold AfterX
        rw [show recR s p = none by rw [HE.out]; simp only [Option.bind_some, HP2.out, HP3.out, rowsT_none HJ.out (show rowT1 s q9 = none by unfold rowT1; simp only [HPr0.out, Option.bind_some, Option.bind_none, HPr1.out]) HLT.out, Option.bind_some, Option.bind_none]]
        exact ⟨rfl, F.out.trans hf_⟩
      | some q_ =>
      obtain ⟨e_, q1⟩ := q_
      have HL_1 := Aside0.mk (show q1 ≤ s.size from (rnum_some hp1).2.1)
      have HPr1 := Aside0.mk hp1; clear hp1
      cases hp2 : numR s q1 with
      | none =>
        have HPr2 := Aside0.mk hp2; clear hp2
        refine start_ (n := 13) (S := fun w' => w'.cell? ⟨w.heap.size, 9, none⟩ = some (.slice A_ L9.length c_)) (ds := [12]) #[false, false, false, false, false, false, false, false, false, false, false, false, false] (by kernel_rfl) rfl rfl z9 (fun hHeld => ?_)
        refine rgp 0 58 ?_
        refine rgp 2 60 ?_
        refine rgp 4 62 ?_
        refine rgp 6 64 ?_
        refine rgt 1 59 hHeld ?_
        refine one_ (i := 3) (N := some 61) #[true, true, true, true, true, false, true, false, false, false, false, false, false] rfl rfl (by kernel_rfl) (by decide) (fun K hK => ?_)
        generalize wr.drew = X0_ at *
        refine goes_ Try.func96 (by kernel_rfl) rfl #[.pointer (some ⟨g, 0, none⟩)] (by rfl) rfl rfl (by (try simp only [List.map_toArray, List.map_cons, List.map_nil]); first | done | rfl) ?_
        refine (numr_calls g s q9 _ HR.out HQ.out.1 HS.out).mono ?_
        rintro e v1_ hx
        rw [HPr0.out] at hx
        obtain ⟨rfl, hk_, hf_⟩ := hx
        refine ⟨_, rfl, ?_⟩
        have HR_n := Aside0.mk (hk_)
        have F_n := Aside0.mk (F.out.trans hf_)
        have HO_n := Aside0.mk (hf_.old HO.out HGO.out)
        have HOW_n := Aside0.mk (HOW.out.kept hf_ (fun k hk e => HG9.out k hk e))
        clear HR F HO HOW
        have HR := HR_n
        have F := F_n
        have HO := HO_n
        have HOW := HOW_n
        clear HR_n F_n HO_n HOW_n
        refine hK _ _ (blk_cell HO.out 9) (fun hHeld => ?_)
        clear hK K hk_ hf_
        refine norm_ (a' := ?_) ?_ ?_
        rotate_left
        · show Act.put _ (some 61) _ = _
          simp only [Act.put, List.setIfInBounds_toArray, List.set_cons_zero, List.set_cons_succ, i64_w, i32_w]
          rfl
        refine one_ (i := 5) (N := some 63) #[true, true, true, true, true, true, true, false, false, false, false, false, false] rfl rfl (by kernel_rfl) (by decide) (fun K hK => ?_)
        refine goes_ Try.func96 (by kernel_rfl) rfl #[.pointer (some ⟨g, 0, none⟩)] (by rfl) rfl rfl (by (try simp only [List.map_toArray, List.map_cons, List.map_nil]); first | done | rfl) ?_
        refine (numr_calls g s q0 _ HR.out HL_0.out HS.out).mono ?_
        rintro e v2_ hx
        rw [HPr1.out] at hx
        obtain ⟨rfl, hk_, hf_⟩ := hx
        refine ⟨_, rfl, ?_⟩
        have HR_n := Aside0.mk (hk_)
        have F_n := Aside0.mk (F.out.trans hf_)
        have HO_n := Aside0.mk (hf_.old HO.out HGO.out)
        have HOW_n := Aside0.mk (HOW.out.kept hf_ (fun k hk e => HG9.out k hk e))
        clear HR F HO HOW
        have HR := HR_n
        have F := F_n
        have HO := HO_n
        have HOW := HOW_n
        clear HR_n F_n HO_n HOW_n
        refine hK _ _ (blk_cell HO.out 9) (fun hHeld => ?_)
        clear hK K hk_ hf_
        refine norm_ (a' := ?_) ?_ ?_
        rotate_left
        · show Act.put _ (some 63) _ = _
          simp only [Act.put, List.setIfInBounds_toArray, List.set_cons_zero, List.set_cons_succ, i64_w, i32_w]
          rfl
        refine one_ (i := 7) (N := some 65) #[true, true, true, true, true, true, true, true, false, false, false, false, false] rfl rfl (by kernel_rfl) (by decide) (fun K hK => ?_)
        refine goesQ_ Try.func96 (by kernel_rfl) rfl #[.pointer (some ⟨g, 0, none⟩)] (by rfl) rfl rfl (by (try simp only [List.map_toArray, List.map_cons, List.map_nil]); first | done | rfl) ?_
        refine (numr_calls g s q1 _ HR.out HL_1.out HS.out).mono ?_
        rintro e w9 hx
        rw [HPr2.out] at hx
        obtain ⟨rfl, hf_⟩ := hx
        refine Or.inr ⟨_, rfl, rfl, ?_⟩
        show AfterX g w s p (gaveUp 3) _
        unfold AfterX
        rw [show recR s p = none by rw [HE.out]; simp only [Option.bind_some, HP2.out, HP3.out, rowsT_none HJ.out (show rowT1 s q9 = none by unfold rowT1; simp only [HPr0.out, HPr1.out, Option.bind_some, Option.bind_none, HPr2.out]) HLT.out, Option.bind_some, Option.bind_none]]
        exact ⟨rfl, F.out.trans hf_⟩
      | some q_ =>
      obtain ⟨f_, q2⟩ := q_
      have HL_2 := Aside0.mk (show q2 ≤ s.size from (rnum_some hp2).2.1)
      have HPr2 := Aside0.mk hp2; clear hp2
      refine start_ (n := 13) (S := fun w' => w'.cell? ⟨w.heap.size, 9, none⟩ = some (.slice A_ L9.length c_)) (ds := [12]) #[false, false, false, false, false, false, false, false, false, false, false, false, false] (by kernel_rfl) rfl rfl z9 (fun hHeld => ?_)
      refine rgp 0 58 ?_
      refine rgp 2 60 ?_
      refine rgp 4 62 ?_
      refine rgp 6 64 ?_
      refine rgt 1 59 hHeld ?_
      refine one_ (i := 3) (N := some 61) #[true, true, true, true, true, false, true, false, false, false, false, false, false] rfl rfl (by kernel_rfl) (by decide) (fun K hK => ?_)
      generalize wr.drew = X0_ at *
      refine goes_ Try.func96 (by kernel_rfl) rfl #[.pointer (some ⟨g, 0, none⟩)] (by rfl) rfl rfl (by (try simp only [List.map_toArray, List.map_cons, List.map_nil]); first | done | rfl) ?_
      refine (numr_calls g s q9 _ HR.out HQ.out.1 HS.out).mono ?_
      rintro e v1_ hx
      rw [HPr0.out] at hx
      obtain ⟨rfl, hk_, hf_⟩ := hx
      refine ⟨_, rfl, ?_⟩
      have HR_n := Aside0.mk (hk_)
      have F_n := Aside0.mk (F.out.trans hf_)
      have HO_n := Aside0.mk (hf_.old HO.out HGO.out)
      have HOW_n := Aside0.mk (HOW.out.kept hf_ (fun k hk e => HG9.out k hk e))
      clear HR F HO HOW
      have HR := HR_n
      have F := F_n
      have HO := HO_n
      have HOW := HOW_n
      clear HR_n F_n HO_n HOW_n
      refine hK _ _ (blk_cell HO.out 9) (fun hHeld => ?_)
      clear hK K hk_ hf_
      refine norm_ (a' := ?_) ?_ ?_
      rotate_left
      · show Act.put _ (some 61) _ = _
        simp only [Act.put, List.setIfInBounds_toArray, List.set_cons_zero, List.set_cons_succ, i64_w, i32_w]
        rfl
      refine one_ (i := 5) (N := some 63) #[true, true, true, true, true, true, true, false, false, false, false, false, false] rfl rfl (by kernel_rfl) (by decide) (fun K hK => ?_)
      refine goes_ Try.func96 (by kernel_rfl) rfl #[.pointer (some ⟨g, 0, none⟩)] (by rfl) rfl rfl (by (try simp only [List.map_toArray, List.map_cons, List.map_nil]); first | done | rfl) ?_
      refine (numr_calls g s q0 _ HR.out HL_0.out HS.out).mono ?_
      rintro e v2_ hx
      rw [HPr1.out] at hx
      obtain ⟨rfl, hk_, hf_⟩ := hx
      refine ⟨_, rfl, ?_⟩
      have HR_n := Aside0.mk (hk_)
      have F_n := Aside0.mk (F.out.trans hf_)
      have HO_n := Aside0.mk (hf_.old HO.out HGO.out)
      have HOW_n := Aside0.mk (HOW.out.kept hf_ (fun k hk e => HG9.out k hk e))
      clear HR F HO HOW
      have HR := HR_n
      have F := F_n
      have HO := HO_n
      have HOW := HOW_n
      clear HR_n F_n HO_n HOW_n
      refine hK _ _ (blk_cell HO.out 9) (fun hHeld => ?_)
      clear hK K hk_ hf_
      refine norm_ (a' := ?_) ?_ ?_
      rotate_left
      · show Act.put _ (some 63) _ = _
        simp only [Act.put, List.setIfInBounds_toArray, List.set_cons_zero, List.set_cons_succ, i64_w, i32_w]
        rfl
      refine one_ (i := 7) (N := some 65) #[true, true, true, true, true, true, true, true, false, false, false, false, false] rfl rfl (by kernel_rfl) (by decide) (fun K hK => ?_)
      refine goes_ Try.func96 (by kernel_rfl) rfl #[.pointer (some ⟨g, 0, none⟩)] (by rfl) rfl rfl (by (try simp only [List.map_toArray, List.map_cons, List.map_nil]); first | done | rfl) ?_
      refine (numr_calls g s q1 _ HR.out HL_1.out HS.out).mono ?_
      rintro e v3_ hx
      rw [HPr2.out] at hx
      obtain ⟨rfl, hk_, hf_⟩ := hx
      refine ⟨_, rfl, ?_⟩
      have HR_n := Aside0.mk (hk_)
      have F_n := Aside0.mk (F.out.trans hf_)
      have HO_n := Aside0.mk (hf_.old HO.out HGO.out)
      have HOW_n := Aside0.mk (HOW.out.kept hf_ (fun k hk e => HG9.out k hk e))
      clear HR F HO HOW
      have HR := HR_n
      have F := F_n
      have HO := HO_n
      have HOW := HOW_n
      clear HR_n F_n HO_n HOW_n
      refine hK _ _ (blk_cell HO.out 9) (fun hHeld => ?_)
      clear hK K hk_ hf_
      refine norm_ (a' := ?_) ?_ ?_
      rotate_left
      · show Act.put _ (some 65) _ = _
        simp only [Act.put, List.setIfInBounds_toArray, List.set_cons_zero, List.set_cons_succ, i64_w, i32_w]
        rfl
      refine rgp 8 66 ?_
      refine one_ (i := 9) (N := some 67) #[true, true, true, true, true, true, true, true, true, true, false, false, false] rfl rfl (by kernel_rfl) (by decide) (fun K hK => ?_)
      refine value_ (w1 := ?_) (v := ?_) (by kernel_rfl) rfl ?_ ?_
      rotate_left 2
      · go_simp
        constructor
        · rfl
        · rfl
      have HNB := Aside0.mk (heap_alloc_new v3_ (.cells #[.int .i64 a_, .int .i64 e_, .int .i64 f_] 107))
      have hb_ := (Below.refl v3_.heap.size v3_).alloc (Nat.le_refl _) (.cells #[.int .i64 a_, .int .i64 e_, .int .i64 f_] 107)
      have HR_n := Aside0.mk (HR.out.below hb_)
      have F_n := Aside0.mk (F.out.below hb_)
      have HO_n := Aside0.mk (blk_below HO.out hb_)
      have HOW_n := Aside0.mk (HOW.out.same fun k hk => hb_.block k (HOW.out.own.lt k hk).2)
      clear HR F HO HOW
      have HR := HR_n
      have F := F_n
      have HO := HO_n
      have HOW := HOW_n
      clear HR_n F_n HO_n HOW_n
      clear hb_
      generalize v3_.alloc (.cells #[.int .i64 a_, .int .i64 e_, .int .i64 f_] 107) = v4_ at *
      refine hK _ _ (blk_cell HO.out 9) (fun hHeld => ?_)
      clear hK K
      refine norm_ (a' := ?_) ?_ ?_
      rotate_left
      · show Act.put _ (some 67) _ = _
        simp only [Act.put, List.setIfInBounds_toArray, List.set_cons_zero, List.set_cons_succ, i64_w, i32_w]
        rfl
      refine one_ (i := 10) (N := some 68) #[true, true, true, true, true, true, true, true, true, true, true, false, false] rfl rfl (by kernel_rfl) (by decide) (fun K hK => ?_)
      have hsz_ : w.heap.size ≤ v4_.heap.size := F.out.size
      obtain ⟨u2, v5_, hr_, how_, hgr_, g2, c2, e2_⟩ := push_rowT L9 (⟨a_, e_, f_⟩ : S107) HOW.out (by have := HQ.out.2; have := HNn_.out; omega) HNB.out 34
      subst e2_
      refine ap_ _ _ _ (by kernel_rfl) rfl rfl _ _ rfl rfl hr_ ?_
      have hne_ := ow_ne HOW.out HO.out (by decide)
      have HO_n := Aside0.mk (grown_blk hgr_ HO.out (fun e => hne_ _ e.symm rfl))
      have HR_n := Aside0.mk (show RD _ g s q2 from grown_blk hgr_ HR.out (fun e => HG9.out g (HOW.out.mem g e.symm) rfl))
      have F_n := Aside0.mk (F.out.grown hgr_ (fun k hk => .inr (HOW.out.mem k hk)))
      clear HO HR F
      have HO := HO_n
      have HR := HR_n
      have F := F_n
      clear HO_n HR_n F_n
      have HOW2 := Aside0.mk (how_.mono (S2 := From w.heap.size) (fun k _ hk => hk.elim id (fun e => by rw [e]; exact hsz_)))
      clear HOW how_ hgr_ hr_ hne_ hsz_
      refine hK _ _ (blk_cell HO.out 9) (fun hHeld => ?_)
      clear hK K
      refine norm_ (a' := ?_) ?_ ?_
      rotate_left
      · show Act.put _ (some 68) _ = _
        simp only [Act.put, List.setIfInBounds_toArray, List.set_cons_zero, List.set_cons_succ, i64_w, i32_w]
        rfl
      refine rgp 11 69 ?_
      refine last_ (i := 12) (N := none) #[true, true, true, true, true, true, true, true, true, true, true, true, true] rfl rfl (by kernel_rfl) (by decide) (fun K hK => ?_)
      have cz : v5_.cell? ⟨w.heap.size, 9, none⟩ = some _ := blk_cell HO.out 9
      have fz : v5_.frozen? ⟨w.heap.size, 9, none⟩ = false := blk_frozen HO.out 9
      refine skip_ (w1 := ?_) (by kernel_rfl) rfl ?_ ?_
      rotate_left
      · go_simp
        rfl
      clear cz fz
      have HR_n := Aside0.mk (HR.out.keep HGN.out 9 (.slice (some ⟨g2, 0, none⟩) (L9.length + 1) c2))
      have HOW2_n := Aside0.mk (Wr.Ow.far HOW2.out HO.out (by decide) 9 (.slice (some ⟨g2, 0, none⟩) (L9.length + 1) c2))
      have F_n := Aside0.mk (FS.fresh F.out 9 (.slice (some ⟨g2, 0, none⟩) (L9.length + 1) c2))
      have HO_n := Aside0.mk (show (v5_.setCell ⟨w.heap.size, 9, none⟩ (.slice (some ⟨g2, 0, none⟩) (L9.length + 1) c2)).heap[w.heap.size]? = some (.cells #[.int .i64 6, .int .i64 0, .int .i64 0, .int .i64 0, .int .i64 0, .int .i64 0, .int .i64 b_, .string ⟨#[]⟩, .string ⟨#[]⟩, .slice (some ⟨g2, 0, none⟩) (L9.length + 1) c2, .slice none 0 0] 37 (0, 0)) from set_blk HO.out 9 (.slice (some ⟨g2, 0, none⟩) (L9.length + 1) c2))
      clear HR HOW2 F HO
      have HR := HR_n
      have HOW2 := HOW2_n
      have F := F_n
      have HO := HO_n
      clear HR_n HOW2_n F_n HO_n
      generalize v5_.setCell ⟨w.heap.size, 9, none⟩ (.slice (some ⟨g2, 0, none⟩) (L9.length + 1) c2) = W9 at *
      refine hK _ _ ?_
      clear hK K
      refine done_ (by kernel_rfl) ?_
      simp only [Exit.inBlock, Exit.then]
      go_wp2
      (try simp only [hwk])
      refine ⟨⟨k + 1, L9 ++ [⟨a_, e_, f_⟩], q2, _, rfl, ⟨?_⟩, ⟨rowsT_succ HJ.out (show rowT1 s q9 = some (⟨a_, e_, f_⟩, q2) by unfold rowT1; simp only [HPr0.out, HPr1.out, HPr2.out, Option.bind_some])⟩, ⟨HL_2.out, ?_⟩, HR, HO, HOW2, F⟩, ?_⟩
      · have := HLT.out; have := HNn_.out; omega
      · rw [List.length_append, HQ.out.2]; rfl
      · have := HLT.out
        show n_.toNat - (intOf (.int .i64 ((k + 1 : Nat) : Int))).toNat < n_.toNat - (intOf (.int .i64 (k : Int))).toNat
        simp only [intOf]; omega
    · have hkn : k = n_.toNat := by have := K.out; have := HNn_.out; omega
      have HJN := Aside0.mk (show rowsT s n_.toNat p3 = some (L9, q9) by rw [← hkn]; exact HJ.out)
      have hki : (k : Int) = n_ := by have := HNn_.out; omega
      clear hkn HJ
      have HJ9 := HJN; have HO9 := HOW
      clear HJN HOW K hki
      go_upto_region 23 with (fail)
      cases hp4 : smallR s q9 with
      | none =>
        have HP4 := Aside0.mk hp4; clear hp4
        go_wp2_with (go_at_call 95; (with_reducible refine (smallr_calls g s q9 _ HR.out HQ.out.1 HS.out).mono ?_); rintro e w9 hx; rw [HP4.out] at hx; obtain ⟨rfl, hf_⟩ := hx; have F9 := Aside0.mk (F.out.trans hf_); clear hf_)
        refine ⟨rfl, ?_⟩
        show AfterX g w s p (gaveUp 3) _
        unfold AfterX
        rw [show recR s p = none by rw [HE.out]; simp only [HP2.out, HP3.out, HJ9.out, HP4.out, Option.bind_some, Option.bind_none]]
        exact ⟨rfl, F9.out⟩
      | some q_ =>
      obtain ⟨m_, p4⟩ := q_
      have HLx := Aside0.mk (show p4 ≤ s.size from (small_some hp4).2.1)
      have HNm_ := Aside0.mk (show 0 ≤ m_ ∧ m_ ≤ 255 from (small_some hp4).2.2)
      have HP4 := Aside0.mk hp4; clear hp4
      go_upto_region 24 with (go_at_call 95; (with_reducible refine (smallr_calls g s q9 _ HR.out HQ.out.1 HS.out).mono ?_); rintro e w9 hx; rw [HP4.out] at hx; obtain ⟨rfl, hk_, hf_⟩ := hx; have HRx := Aside0.mk hk_; have Fx := Aside0.mk (F.out.trans hf_); have HOx := Aside0.mk (hf_.old HO.out HGO.out); have HO9x := Aside0.mk (HO9.out.kept hf_ (fun k hk e => HG9.out k hk e)); clear hk_ hf_ HR F HO HO9)
      have HO9 := HO9x; clear HO9x
      clear hlt HQ
      go_loopw [73] (fun v wr => ∃ (k : Nat) (L : List S109) (q : Nat) (u : Value), v = .int .i64 k ∧ Aside0 ((k : Int) ≤ m_) ∧ Aside0 (rowsQ s k p4 = some (L, q)) ∧ Aside0 (q ≤ s.size ∧ L.length = k) ∧ Aside0 (RD wr g s q) ∧ Aside0 (wr.heap[w.heap.size]? = some (.cells #[.int .i64 6, .int .i64 0, .int .i64 0, .int .i64 0, .int .i64 0, .int .i64 0, .int .i64 b_, .string ⟨#[]⟩, .string ⟨#[]⟩, u9, u] 37 (0, 0))) ∧ Aside0 (Ow wr (From w.heap.size) 109 2 u L.length (flatQ L)) ∧ Aside0 (FS (One g) w wr) ∧ Aside0 (Ow wr (From w.heap.size) 107 3 u9 L9.length (flatT L9))) (fun v _ => m_.toNat - (intOf v).toNat)
      case atStart => exact ⟨0, [], p4, .slice none 0 0, rfl, ⟨HNm_.out.1⟩, ⟨rfl⟩, ⟨HLx.out, rfl⟩, HRx, HOx, ⟨Ow.nil _ _ _ _⟩, Fx, HO9⟩
      case round =>
        clear HRx HOx Fx HO9
        obtain ⟨k, L, q, u, rfl, K, HJ, HQ, HR, HO, HOW, F, HO9⟩ := hrel
        by_cases hlt : (k : Int) < m_
        · have HLT := Aside0.mk (show k < m_.toNat by omega)
          have hwk : wrap64 ((k : Int) + 1) = ((k + 1 : Nat) : Int) := by have := HNm_.out.2; unfold wrap64; omega
          obtain ⟨A_, c_, e_, -⟩ := HOW.out.shape
          subst e_
          have z9 : wr.drew.cell? ⟨w.heap.size, 10, none⟩ = some (.slice A_ L.length c_) := blk_cell (w := wr.drew) HO.out 10
          have HR_n := Aside0.mk (HR.out.below ((Below.refl _ _).drew))
          clear HR
          have HR := HR_n
          clear HR_n
          have HO_n := Aside0.mk (show wr.drew.heap[w.heap.size]? = some (.cells #[.int .i64 6, .int .i64 0, .int .i64 0, .int .i64 0, .int .i64 0, .int .i64 0, .int .i64 b_, .string ⟨#[]⟩, .string ⟨#[]⟩, u9, .slice A_ L.length c_] 37 (0, 0)) from HO.out)
          clear HO
          have HO := HO_n
          clear HO_n
          have HOW_n := Aside0.mk (HOW.out.same (w' := wr.drew) (fun _ _ => rfl))
          clear HOW
          have HOW := HOW_n
          clear HOW_n
          have F_n := Aside0.mk (F.out.drew)
          clear F
          have F := F_n
          clear F_n
          have HO9_n := Aside0.mk (HO9.out.same (w' := wr.drew) (fun _ _ => rfl))
          clear HO9
          have HO9 := HO9_n
          clear HO9_n
          go_upto_region 25 with (fail)
          cases hp0 : smallR s q with
          | none =>
            have HPr0 := Aside0.mk hp0; clear hp0
            refine start_ (n := 11) (S := fun w' => w'.cell? ⟨w.heap.size, 10, none⟩ = some (.slice A_ L.length c_)) (ds := [10]) #[false, false, false, false, false, false, false, false, false, false, false] (by kernel_rfl) rfl rfl z9 (fun hHeld => ?_)
            refine rgp 0 75 ?_
            refine rgp 2 77 ?_
            refine rgp 4 79 ?_
            refine rgt 1 76 hHeld ?_
            refine one_ (i := 3) (N := some 78) #[true, true, true, true, true, false, false, false, false, false, false] rfl rfl (by kernel_rfl) (by decide) (fun K hK => ?_)
            generalize wr.drew = X0_ at *
            refine goesQ_ Try.func95 (by kernel_rfl) rfl #[.pointer (some ⟨g, 0, none⟩)] (by rfl) rfl rfl (by (try simp only [List.map_toArray, List.map_cons, List.map_nil]); first | done | rfl) ?_
            refine (smallr_calls g s q _ HR.out HQ.out.1 HS.out).mono ?_
            rintro e w9 hx
            rw [HPr0.out] at hx
            obtain ⟨rfl, hf_⟩ := hx
            refine Or.inr ⟨_, rfl, rfl, ?_⟩
            show AfterX g w s p (gaveUp 3) _
            unfold AfterX
            rw [show recR s p = none by rw [HE.out]; simp only [Option.bind_some, HP2.out, HP3.out, HJ9.out, HP4.out, rowsQ_none HJ.out (show rowQ1 s q = none by unfold rowQ1; simp only [Option.bind_some, Option.bind_none, HPr0.out]) HLT.out, Option.bind_some, Option.bind_none]]
            exact ⟨rfl, F.out.trans hf_⟩
          | some q_ =>
          obtain ⟨a_, q0⟩ := q_
          have HL_0 := Aside0.mk (show q0 ≤ s.size from (small_some hp0).2.1)
          have HPr0 := Aside0.mk hp0; clear hp0
          cases hp1 : numR s q0 with
          | none =>
            have HPr1 := Aside0.mk hp1; clear hp1
            refine start_ (n := 11) (S := fun w' => w'.cell? ⟨w.heap.size, 10, none⟩ = some (.slice A_ L.length c_)) (ds := [10]) #[false, false, false, false, false, false, false, false, false, false, false] (by kernel_rfl) rfl rfl z9 (fun hHeld => ?_)
            refine rgp 0 75 ?_
            refine rgp 2 77 ?_
            refine rgp 4 79 ?_
            refine rgt 1 76 hHeld ?_
            refine one_ (i := 3) (N := some 78) #[true, true, true, true, true, false, false, false, false, false, false] rfl rfl (by kernel_rfl) (by decide) (fun K hK => ?_)
            generalize wr.drew = X0_ at *
            refine goes_ Try.func95 (by kernel_rfl) rfl #[.pointer (some ⟨g, 0, none⟩)] (by rfl) rfl rfl (by (try simp only [List.map_toArray, List.map_cons, List.map_nil]); first | done | rfl) ?_
            refine (smallr_calls g s q _ HR.out HQ.out.1 HS.out).mono ?_
            rintro e v1_ hx
            rw [HPr0.out] at hx
            obtain ⟨rfl, hk_, hf_⟩ := hx
            refine ⟨_, rfl, ?_⟩
            have HR_n := Aside0.mk (hk_)
            have F_n := Aside0.mk (F.out.trans hf_)
            have HO_n := Aside0.mk (hf_.old HO.out HGO.out)
            have HOW_n := Aside0.mk (HOW.out.kept hf_ (fun k hk e => HG9.out k hk e))
            have HO9_n := Aside0.mk (HO9.out.kept hf_ (fun k hk e => HG9.out k hk e))
            clear HR F HO HOW HO9
            have HR := HR_n
            have F := F_n
            have HO := HO_n
            have HOW := HOW_n
            have HO9 := HO9_n
            clear HR_n F_n HO_n HOW_n HO9_n
            refine hK _ _ (blk_cell HO.out 10) (fun hHeld => ?_)
            clear hK K hk_ hf_
            refine norm_ (a' := ?_) ?_ ?_
            rotate_left
            · show Act.put _ (some 78) _ = _
              simp only [Act.put, List.setIfInBounds_toArray, List.set_cons_zero, List.set_cons_succ, i64_w, i32_w]
              rfl
            refine one_ (i := 5) (N := some 80) #[true, true, true, true, true, true, false, false, false, false, false] rfl rfl (by kernel_rfl) (by decide) (fun K hK => ?_)
            refine goesQ_ Try.func96 (by kernel_rfl) rfl #[.pointer (some ⟨g, 0, none⟩)] (by rfl) rfl rfl (by (try simp only [List.map_toArray, List.map_cons, List.map_nil]); first | done | rfl) ?_
            refine (numr_calls g s q0 _ HR.out HL_0.out HS.out).mono ?_
            rintro e w9 hx
            rw [HPr1.out] at hx
            obtain ⟨rfl, hf_⟩ := hx
            refine Or.inr ⟨_, rfl, rfl, ?_⟩
            show AfterX g w s p (gaveUp 3) _
            unfold AfterX
            rw [show recR s p = none by rw [HE.out]; simp only [Option.bind_some, HP2.out, HP3.out, HJ9.out, HP4.out, rowsQ_none HJ.out (show rowQ1 s q = none by unfold rowQ1; simp only [HPr0.out, Option.bind_some, Option.bind_none, HPr1.out]) HLT.out, Option.bind_some, Option.bind_none]]
            exact ⟨rfl, F.out.trans hf_⟩
          | some q_ =>
          obtain ⟨e_, q1⟩ := q_
          have HL_1 := Aside0.mk (show q1 ≤ s.size from (rnum_some hp1).2.1)
          have HPr1 := Aside0.mk hp1; clear hp1
          refine start_ (n := 11) (S := fun w' => w'.cell? ⟨w.heap.size, 10, none⟩ = some (.slice A_ L.length c_)) (ds := [10]) #[false, false, false, false, false, false, false, false, false, false, false] (by kernel_rfl) rfl rfl z9 (fun hHeld => ?_)
          refine rgp 0 75 ?_
          refine rgp 2 77 ?_
          refine rgp 4 79 ?_
          refine rgt 1 76 hHeld ?_
          refine one_ (i := 3) (N := some 78) #[true, true, true, true, true, false, false, false, false, false, false] rfl rfl (by kernel_rfl) (by decide) (fun K hK => ?_)
          generalize wr.drew = X0_ at *
          refine goes_ Try.func95 (by kernel_rfl) rfl #[.pointer (some ⟨g, 0, none⟩)] (by rfl) rfl rfl (by (try simp only [List.map_toArray, List.map_cons, List.map_nil]); first | done | rfl) ?_
          refine (smallr_calls g s q _ HR.out HQ.out.1 HS.out).mono ?_
          rintro e v1_ hx
          rw [HPr0.out] at hx
          obtain ⟨rfl, hk_, hf_⟩ := hx
          refine ⟨_, rfl, ?_⟩
          have HR_n := Aside0.mk (hk_)
          have F_n := Aside0.mk (F.out.trans hf_)
          have HO_n := Aside0.mk (hf_.old HO.out HGO.out)
          have HOW_n := Aside0.mk (HOW.out.kept hf_ (fun k hk e => HG9.out k hk e))
          have HO9_n := Aside0.mk (HO9.out.kept hf_ (fun k hk e => HG9.out k hk e))
          clear HR F HO HOW HO9
          have HR := HR_n
          have F := F_n
          have HO := HO_n
          have HOW := HOW_n
          have HO9 := HO9_n
          clear HR_n F_n HO_n HOW_n HO9_n
          refine hK _ _ (blk_cell HO.out 10) (fun hHeld => ?_)
          clear hK K hk_ hf_
          refine norm_ (a' := ?_) ?_ ?_
          rotate_left
          · show Act.put _ (some 78) _ = _
            simp only [Act.put, List.setIfInBounds_toArray, List.set_cons_zero, List.set_cons_succ, i64_w, i32_w]
            rfl
          refine one_ (i := 5) (N := some 80) #[true, true, true, true, true, true, false, false, false, false, false] rfl rfl (by kernel_rfl) (by decide) (fun K hK => ?_)
          refine goes_ Try.func96 (by kernel_rfl) rfl #[.pointer (some ⟨g, 0, none⟩)] (by rfl) rfl rfl (by (try simp only [List.map_toArray, List.map_cons, List.map_nil]); first | done | rfl) ?_
          refine (numr_calls g s q0 _ HR.out HL_0.out HS.out).mono ?_
          rintro e v2_ hx
          rw [HPr1.out] at hx
          obtain ⟨rfl, hk_, hf_⟩ := hx
          refine ⟨_, rfl, ?_⟩
          have HR_n := Aside0.mk (hk_)
          have F_n := Aside0.mk (F.out.trans hf_)
          have HO_n := Aside0.mk (hf_.old HO.out HGO.out)
          have HOW_n := Aside0.mk (HOW.out.kept hf_ (fun k hk e => HG9.out k hk e))
          have HO9_n := Aside0.mk (HO9.out.kept hf_ (fun k hk e => HG9.out k hk e))
          clear HR F HO HOW HO9
          have HR := HR_n
          have F := F_n
          have HO := HO_n
          have HOW := HOW_n
          have HO9 := HO9_n
          clear HR_n F_n HO_n HOW_n HO9_n
          refine hK _ _ (blk_cell HO.out 10) (fun hHeld => ?_)
          clear hK K hk_ hf_
          refine norm_ (a' := ?_) ?_ ?_
          rotate_left
          · show Act.put _ (some 80) _ = _
            simp only [Act.put, List.setIfInBounds_toArray, List.set_cons_zero, List.set_cons_succ, i64_w, i32_w]
            rfl
          refine rgp 6 81 ?_
          refine one_ (i := 7) (N := some 82) #[true, true, true, true, true, true, true, true, false, false, false] rfl rfl (by kernel_rfl) (by decide) (fun K hK => ?_)
          refine value_ (w1 := ?_) (v := ?_) (by kernel_rfl) rfl ?_ ?_
          rotate_left 2
          · go_simp
            constructor
            · rfl
            · rfl
          have HNB := Aside0.mk (heap_alloc_new v2_ (.cells #[.int .i64 a_, .int .i64 e_] 109))
          have hb_ := (Below.refl v2_.heap.size v2_).alloc (Nat.le_refl _) (.cells #[.int .i64 a_, .int .i64 e_] 109)
          have HR_n := Aside0.mk (HR.out.below hb_)
          have F_n := Aside0.mk (F.out.below hb_)
          have HO_n := Aside0.mk (blk_below HO.out hb_)
          have HOW_n := Aside0.mk (HOW.out.same fun k hk => hb_.block k (HOW.out.own.lt k hk).2)
          have HO9_n := Aside0.mk (HO9.out.same fun k hk => hb_.block k (HO9.out.own.lt k hk).2)
          clear HR F HO HOW HO9
          have HR := HR_n
          have F := F_n
          have HO := HO_n
          have HOW := HOW_n
          have HO9 := HO9_n
          clear HR_n F_n HO_n HOW_n HO9_n
          clear hb_
          generalize v2_.alloc (.cells #[.int .i64 a_, .int .i64 e_] 109) = v3_ at *
          refine hK _ _ (blk_cell HO.out 10) (fun hHeld => ?_)
          clear hK K
          refine norm_ (a' := ?_) ?_ ?_
          rotate_left
          · show Act.put _ (some 82) _ = _
            simp only [Act.put, List.setIfInBounds_toArray, List.set_cons_zero, List.set_cons_succ, i64_w, i32_w]
            rfl
          refine one_ (i := 8) (N := some 83) #[true, true, true, true, true, true, true, true, true, false, false] rfl rfl (by kernel_rfl) (by decide) (fun K hK => ?_)
          have hsz_ : w.heap.size ≤ v3_.heap.size := F.out.size
          obtain ⟨u2, v4_, hr_, how_, hgr_, g2, c2, e2_⟩ := push_rowQ L (⟨a_, e_⟩ : S109) HOW.out (by have := HQ.out.2; have := HNm_.out; omega) HNB.out 35
          subst e2_
          refine ap_ _ _ _ (by kernel_rfl) rfl rfl _ _ rfl rfl hr_ ?_
          have hne_ := ow_ne HOW.out HO.out (by decide)
          have HO_n := Aside0.mk (grown_blk hgr_ HO.out (fun e => hne_ _ e.symm rfl))
          have HR_n := Aside0.mk (show RD _ g s q1 from grown_blk hgr_ HR.out (fun e => HG9.out g (HOW.out.mem g e.symm) rfl))
          have HO9_n := Aside0.mk (HO9.out.same fun k hk => hgr_.block k (HO9.out.own.lt k hk).2 (fun e => ow_ne2 HO9.out HOW.out (by decide) k hk e.symm))
          have F_n := Aside0.mk (F.out.grown hgr_ (fun k hk => .inr (HOW.out.mem k hk)))
          clear HO HR HO9 F
          have HO := HO_n
          have HR := HR_n
          have HO9 := HO9_n
          have F := F_n
          clear HO_n HR_n HO9_n F_n
          have HOW2 := Aside0.mk (how_.mono (S2 := From w.heap.size) (fun k _ hk => hk.elim id (fun e => by rw [e]; exact hsz_)))
          clear HOW how_ hgr_ hr_ hne_ hsz_
          refine hK _ _ (blk_cell HO.out 10) (fun hHeld => ?_)
          clear hK K
          refine norm_ (a' := ?_) ?_ ?_
          rotate_left
          · show Act.put _ (some 83) _ = _
            simp only [Act.put, List.setIfInBounds_toArray, List.set_cons_zero, List.set_cons_succ, i64_w, i32_w]
            rfl
          refine rgp 9 84 ?_
          refine last_ (i := 10) (N := none) #[true, true, true, true, true, true, true, true, true, true, true] rfl rfl (by kernel_rfl) (by decide) (fun K hK => ?_)
          have cz : v4_.cell? ⟨w.heap.size, 10, none⟩ = some _ := blk_cell HO.out 10
          have fz : v4_.frozen? ⟨w.heap.size, 10, none⟩ = false := blk_frozen HO.out 10
          refine skip_ (w1 := ?_) (by kernel_rfl) rfl ?_ ?_
          rotate_left
          · go_simp
            rfl
          clear cz fz
          have HR_n := Aside0.mk (HR.out.keep HGN.out 10 (.slice (some ⟨g2, 0, none⟩) (L.length + 1) c2))
          have HOW2_n := Aside0.mk (Wr.Ow.far HOW2.out HO.out (by decide) 10 (.slice (some ⟨g2, 0, none⟩) (L.length + 1) c2))
          have HO9_n := Aside0.mk (Wr.Ow.far HO9.out HO.out (by decide) 10 (.slice (some ⟨g2, 0, none⟩) (L.length + 1) c2))
          have F_n := Aside0.mk (FS.fresh F.out 10 (.slice (some ⟨g2, 0, none⟩) (L.length + 1) c2))
          have HO_n := Aside0.mk (show (v4_.setCell ⟨w.heap.size, 10, none⟩ (.slice (some ⟨g2, 0, none⟩) (L.length + 1) c2)).heap[w.heap.size]? = some (.cells #[.int .i64 6, .int .i64 0, .int .i64 0, .int .i64 0, .int .i64 0, .int .i64 0, .int .i64 b_, .string ⟨#[]⟩, .string ⟨#[]⟩, u9, .slice (some ⟨g2, 0, none⟩) (L.length + 1) c2] 37 (0, 0)) from set_blk HO.out 10 (.slice (some ⟨g2, 0, none⟩) (L.length + 1) c2))
          clear HR HOW2 HO9 F HO
          have HR := HR_n
          have HOW2 := HOW2_n
          have HO9 := HO9_n
          have F := F_n
          have HO := HO_n
          clear HR_n HOW2_n HO9_n F_n HO_n
          generalize v4_.setCell ⟨w.heap.size, 10, none⟩ (.slice (some ⟨g2, 0, none⟩) (L.length + 1) c2) = W9 at *
          refine hK _ _ ?_
          clear hK K
          refine done_ (by kernel_rfl) ?_
          simp only [Exit.inBlock, Exit.then]
          go_wp2
          (try simp only [hwk])
          refine ⟨⟨k + 1, L ++ [⟨a_, e_⟩], q1, _, rfl, ⟨?_⟩, ⟨rowsQ_succ HJ.out (show rowQ1 s q = some (⟨a_, e_⟩, q1) by unfold rowQ1; simp only [HPr0.out, HPr1.out, Option.bind_some])⟩, ⟨HL_1.out, ?_⟩, HR, HO, HOW2, F, HO9⟩, ?_⟩
          · have := HLT.out; have := HNm_.out; omega
          · rw [List.length_append, HQ.out.2]; rfl
          · have := HLT.out
            show m_.toNat - (intOf (.int .i64 ((k + 1 : Nat) : Int))).toNat < m_.toNat - (intOf (.int .i64 (k : Int))).toNat
            simp only [intOf]; omega
        · have hkn : k = m_.toNat := by have := K.out; have := HNm_.out; omega
          have HJN := Aside0.mk (show rowsQ s m_.toNat p4 = some (L, q) by rw [← hkn]; exact HJ.out)
          have hki : (k : Int) = m_ := by have := HNm_.out; omega
          clear hkn HJ
          obtain ⟨A_, c_, e_, -⟩ := HOW.out.shape
          subst e_
          obtain ⟨A9, c9, e9_, -⟩ := HO9.out.shape
          subst e9_
          go_upto_region 27 with (fail)
          obtain ⟨x0, f0, x1, f1, x2, f2, x3, f3, x4, f4, x5, f5, x6, f6, x7, f7, x8, f8, x9, f9, x10, f10⟩ := cellsF11 wr (w.heap.size) HO.out
          go_wp2
          refine bodyPost_ret (v := .agg #[.int .i64 6, .int .i64 0, .int .i64 0, .int .i64 0, .int .i64 0, .int .i64 0, .int .i64 b_, .string ⟨#[]⟩, .string ⟨#[]⟩, .slice A9 L9.length c9, .slice A_ L.length c_]) (by simp [results, Try.results92, go_sem, x0, x1, x2, x3, x4, x5, x6, x7, x8, x9, x10]) rfl ?_
          show AfterX g w s p _ _
          unfold AfterX
          rw [show recR s p = some ((⟨6, 0, 0, 0, 0, 0, b_, ⟨#[]⟩, ⟨#[]⟩, L9, L⟩ : S37), q) by rw [HE.out]; simp only [HP2.out, HP3.out, HJ9.out, HP4.out, HJN.out, Option.bind_some]]
          refine ⟨_, _, rfl, ow_RT (S := From w.heap.size) ?_ (fun _ h => h), ow_RQ (S := From w.heap.size) ?_ (fun _ h => h), ?_, ?_⟩
          · repeat (first | (with_reducible refine ow_fresh (T := 37) ?_ (by decide) _ _ ?_) | (with_reducible exact HO9.out) | (with_reducible exact ⟨_, HO.out⟩) | (with_reducible refine cells_kept ?_ _ _))
          · repeat (first | (with_reducible refine ow_fresh (T := 37) ?_ (by decide) _ _ ?_) | (with_reducible exact HOW.out) | (with_reducible exact ⟨_, HO.out⟩) | (with_reducible refine cells_kept ?_ _ _))
          · show RD _ g s q
            repeat (first | (with_reducible refine RD.keep ?_ HGN.out _ _) | (with_reducible exact HR.out))
          · repeat (first | (with_reducible refine FS.fresh ?_ _ _) | (with_reducible exact F.out))
end Go.Proofs.Ytbnglmeljbiglaa.Wr
