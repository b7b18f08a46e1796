import Derived.Defers
import Derived.WalkMore
import Derived.Test.YtcelfhoomhmioaaPEZ0
import Derived.Test.YtcelfhoomhmioaaPEZ1
import Derived.Test.YtcelfhoomhmioaaPEZ2
import Derived.Test.YtcelfhoomhmioaaPEZ3
import Derived.Test.YtcelfhoomhmioaaPEZ4
import Derived.Test.YtcelfhoomhmioaaPEZ5
import Derived.Test.YtcelfhoomhmioaaPEZ6
import Derived.Test.YtcelfhoomhmioaaPEZ7
import Derived.Test.YtcelfhoomhmioaaPEZ8
import Derived.Test.YtcelfhoomhmioaaPEZ9
import Derived.Test.YtcelfhoomhmioaaPEZ10
import Derived.Test.YtcelfhoomhmioaaPEZ11
import Derived.Test.YtcelfhoomhmioaaPEZ12
set_option maxRecDepth 8192
namespace Go.Proofs.Ytcelfhoomhmioaa.Wr
open Go.Proofs.Ytcelfhoomhmioaa.Rp Go.Proofs.Ytcelfhoomhmioaa.X4
open Go Go.RowKit Go.ChangeMaps Go.Proofs.Ytcelfhoomhmioaa.Arr Go.Proofs.Ytcelfhoomhmioaa.Ow Go.Proofs.YtcelfhoomhmioaaW.PrintWords Go.Proofs.YtcelfhoomhmioaaW.PrintLast Go.Proofs.YtcelfhoomhmioaaW.PrintMore
set_option linter.unusedVariables false
set_option linter.unusedSimpArgs false
theorem rec_calls (g : Nat) (l : List UInt8) (b : Nat) (r : S39) (A9 : Option Addr) (c9 : Nat) (A10 : Option Addr) (c10 : Nat) (S : Nat → Prop) (w : World) (hS : Top S w) (h : WK w S g l) (hb : RB w b r A9 c9 A10 c10) (hSb : ¬ S b) (hl : l.length ≤ 800000) (hz : r.f8.size ≤ 1000000) (h9 : ∀ w', FS S w w' → Kd.C k134 w' A9 r.f9.length r.f9) (h10 : ∀ w', FS S w w' → Kd.C k70 w' A10 r.f10.length r.f10) : Calls Try.prog 52 #[.pointer (some ⟨g, 0, none⟩), .pointer (some ⟨b, 0, none⟩)] w fun x w' => AfterR S g w l r A9 c9 A10 c10 x w' := by
  by_cases h0 : 0 ≤ r.f0 ∧ r.f0 ≤ 6
  · rcases (show r.f0 = 0 ∨ r.f0 = 1 ∨ r.f0 = 2 ∨ r.f0 = 3 ∨ r.f0 = 4 ∨ r.f0 = 5 ∨ r.f0 = 6 by omega) with e | e | e | e | e | e | e
    · exact rec_zero g l b r A9 c9 A10 c10 S w hS h hb hSb hl hz e
    · exact rec_one g l b r A9 c9 A10 c10 S w hS h hb hSb hl hz e
    · exact rec_two g l b r A9 c9 A10 c10 S w hS h hb hSb hl hz e
    · exact rec_three g l b r A9 c9 A10 c10 S w hS h hb hSb hl hz e
    · exact rec_four g l b r A9 c9 A10 c10 S w hS h hb hSb hl hz e
    · exact rec_five g l b r A9 c9 A10 c10 S w hS h hb hSb hl hz e
    · exact rec_six g l b r A9 c9 A10 c10 S w hS h hb hSb hl hz h9 h10 e
  · exact rec_none g l b r A9 c9 A10 c10 S w hS h hb hSb hl hz h0
end Go.Proofs.Ytcelfhoomhmioaa.Wr
set_option maxRecDepth 8192
namespace Go.Proofs.Ytcelfhoomhmioaa.Wr
open Go.Proofs.Ytcelfhoomhmioaa.Rgn
open Go.Proofs.Ytcelfhoomhmioaa.Rp Go.Proofs.Ytcelfhoomhmioaa.X4
open Go Go.RowKit Go.ChangeMaps Go.Proofs.Ytcelfhoomhmioaa.Arr Go.Proofs.Ytcelfhoomhmioaa.Ow Go.Proofs.YtcelfhoomhmioaaW.PrintWords Go.Proofs.YtcelfhoomhmioaaW.PrintLast Go.Proofs.YtcelfhoomhmioaaW.PrintMore
set_option linter.unusedVariables false
set_option linter.unusedSimpArgs false
theorem wk_new (S : Nat → Prop) (w : World) (h : S w.heap.size) : WK (w.alloc (.cells #[.pointer none, .slice none 0 0] TW)) S w.heap.size [] :=
  ⟨.pointer none, .slice none 0 0, heap_alloc_new w _, .inl rfl, Ow.nil _ _ _ _, h⟩
theorem own_f9 (r : S39) : (r.f0 = 6 → (ownR r).f9 = r.f9 ∧ (ownR r).f10 = r.f10) ∧ (r.f0 ≠ 6 → (ownR r).f9 = [] ∧ (ownR r).f10 = []) := by
  constructor
  · intro h6
    have o : ownR r = ⟨6, 0, 0, 0, 0, 0, r.f6, ⟨#[]⟩, ⟨#[]⟩, r.f9, r.f10⟩ := by unfold ownR; rw [if_neg (by omega), if_neg (by omega), if_neg (by omega), if_pos h6]
    rw [o]
    exact ⟨rfl, rfl⟩
  · intro h6
    unfold ownR
    split
    · exact ⟨rfl, rfl⟩
    · split
      · exact ⟨rfl, rfl⟩
      · split
        · exact ⟨rfl, rfl⟩
        · exact ⟨rfl, rfl⟩
theorem own_rows {r : S39} {A9 B9 A10 B10 : Option Addr} {c9 d9 c10 d10 : Nat} (w : World) (hB : (r.f0 = 6 ∧ B9 = A9 ∧ d9 = c9 ∧ B10 = A10 ∧ d10 = c10) ∨ (r.f0 ≠ 6 ∧ B9 = none ∧ d9 = 0 ∧ B10 = none ∧ d10 = 0))
    (h9 : Kd.C k134 w A9 r.f9.length r.f9) (l9 : r.f9.length ≤ c9) (h10 : Kd.C k70 w A10 r.f10.length r.f10) (l10 : r.f10.length ≤ c10) :
    Kd.C k134 w B9 (ownR r).f9.length (ownR r).f9 ∧ (ownR r).f9.length ≤ d9 ∧ Kd.C k70 w B10 (ownR r).f10.length (ownR r).f10 ∧ (ownR r).f10.length ≤ d10 := by
  rcases hB with ⟨h, rfl, rfl, rfl, rfl⟩ | ⟨h, rfl, rfl, rfl, rfl⟩
  · obtain ⟨e1, e2⟩ := (own_f9 r).1 h
    rw [e1, e2]
    exact ⟨h9, l9, h10, l10⟩
  · obtain ⟨e1, e2⟩ := (own_f9 r).2 h
    rw [e1, e2]
    exact ⟨Kd.C_nil _ _, Nat.le_refl _, Kd.C_nil _ _, Nat.le_refl _⟩
theorem same_calls (a b : S39) (A9 : Option Addr) (c9 : Nat) (A10 : Option Addr) (c10 : Nat) (B9 : Option Addr) (d9 : Nat) (B10 : Option Addr) (d10 : Nat) (w : World)
    (h9 : Kd.C k134 w A9 a.f9.length a.f9) (l9 : a.f9.length ≤ c9) (h10 : Kd.C k70 w A10 a.f10.length a.f10) (l10 : a.f10.length ≤ c10) (g9 : Kd.C k134 w B9 b.f9.length b.f9) (m9 : b.f9.length ≤ d9) (g10 : Kd.C k70 w B10 b.f10.length b.f10) (m10 : b.f10.length ≤ d10) (s9 : a.f9.length ≤ 1000000) (s10 : a.f10.length ≤ 1000000) :
    Calls Try.prog 51 #[aggR a A9 c9 A10 c10, aggR b B9 d9 B10 d10] w fun e w' => e = .returned (.bool (decide (a = b))) ∧ Below w.heap.size w w' :=
  Sa.same_calls a b A9 c9 A10 c10 B9 d9 B10 d10 w h9 h10 g9 g10 s9 s10
set_option maxHeartbeats 4000000 in
theorem print_calls (r : S39) (A9 : Option Addr) (c9 : Nat) (A10 : Option Addr) (c10 : Nat) (w : World) (h9 : Kd.C k134 w A9 r.f9.length r.f9) (l9 : r.f9.length ≤ c9) (h10 : Kd.C k70 w A10 r.f10.length r.f10) (l10 : r.f10.length ≤ c10) (hz : r.f8.size ≤ 1000000) :
    Calls Try.prog 39 #[.agg #[.int .i64 r.f0, .int .i64 r.f1, .int .i64 r.f2, .int .i64 r.f3, .int .i64 r.f4, .int .i64 r.f5, .int .i64 r.f6, .string r.f7, .string r.f8, .slice A9 r.f9.length c9, .slice A10 r.f10.length c10]] w fun e w' => e = .returned (.tuple #[.string (printF r).1, .int .i64 (printF r).2]) ∧ Below w.heap.size w w' := by
  have H9 := Aside0.mk h9; have H10 := Aside0.mk h10; have HZ := Aside0.mk hz; have L9 := Aside0.mk l9; have L10 := Aside0.mk l10
  clear h9 h10 hz l9 l10
  go_enter_defers Try.func39, Try.ntmps39
  go_upto_region 3 with (fail)
  obtain ⟨W0, hW0, HBZ0, HBR0, HBE0, HWK0, HTS0⟩ : ∃ W0, W0 = (((w.alloc (.cells #[.int .i64 r.f0, .int .i64 r.f1, .int .i64 r.f2, .int .i64 r.f3, .int .i64 r.f4, .int .i64 r.f5, .int .i64 r.f6, .string r.f7, .string r.f8, .slice A9 r.f9.length c9, .slice A10 r.f10.length c10] 39)).alloc (.cells #[.int .i64 0] TE)).alloc (.cells #[.pointer none, .slice none 0 0] TW)) ∧ Below w.heap.size w W0 ∧ RB W0 w.heap.size r A9 c9 A10 c10 ∧ W0.heap[w.heap.size + 1]? = some (.cells #[.int .i64 0] TE (0, 0)) ∧ WK W0 (fun k => w.heap.size + 1 + 1 ≤ k) (w.heap.size + 1 + 1) [] ∧ Top (fun k => w.heap.size + 1 + 1 ≤ k) W0 := by
    refine ⟨_, rfl, ?_, ?_, ?_, ?_, ?_⟩
    · exact (((Below.refl _ _).alloc (Nat.le_refl _) _).alloc (by simp) _).alloc (by simp; omega) _
    · exact blk_below (blk_below (heap_alloc_new w _) ((Below.refl _ _).alloc (Nat.le_refl _) _)) ((Below.refl _ _).alloc (Nat.le_refl _) _)
    · have h := heap_alloc_new (w.alloc (.cells #[.int .i64 r.f0, .int .i64 r.f1, .int .i64 r.f2, .int .i64 r.f3, .int .i64 r.f4, .int .i64 r.f5, .int .i64 r.f6, .string r.f7, .string r.f8, .slice A9 r.f9.length c9, .slice A10 r.f10.length c10] 39)) (.cells #[.int .i64 0] TE)
      rw [show (w.alloc (.cells #[.int .i64 r.f0, .int .i64 r.f1, .int .i64 r.f2, .int .i64 r.f3, .int .i64 r.f4, .int .i64 r.f5, .int .i64 r.f6, .string r.f7, .string r.f8, .slice A9 r.f9.length c9, .slice A10 r.f10.length c10] 39)).heap.size = w.heap.size + 1 by simp] at h
      exact blk_below h ((Below.refl _ _).alloc (Nat.le_refl _) _)
    · have h := wk_new (fun k => w.heap.size + 1 + 1 ≤ k) ((w.alloc (.cells #[.int .i64 r.f0, .int .i64 r.f1, .int .i64 r.f2, .int .i64 r.f3, .int .i64 r.f4, .int .i64 r.f5, .int .i64 r.f6, .string r.f7, .string r.f8, .slice A9 r.f9.length c9, .slice A10 r.f10.length c10] 39)).alloc (.cells #[.int .i64 0] TE)) (by simp)
      rw [show ((w.alloc (.cells #[.int .i64 r.f0, .int .i64 r.f1, .int .i64 r.f2, .int .i64 r.f3, .int .i64 r.f4, .int .i64 r.f5, .int .i64 r.f6, .string r.f7, .string r.f8, .slice A9 r.f9.length c9, .slice A10 r.f10.length c10] 39)).alloc (.cells #[.int .i64 0] TE)).heap.size = w.heap.size + 1 + 1 by simp] at h
      exact h
    · intro k hk
      simp at hk
      show w.heap.size + 1 + 1 ≤ k
      omega
  rw [← hW0]
  clear hW0
  have HB0 := Aside0.mk (HBZ0.trans ((Below.refl _ W0).drew)); have HBR := Aside0.mk (show RB W0.drew w.heap.size r A9 c9 A10 c10 from HBR0); have HBE0 := Aside0.mk (show W0.drew.heap[w.heap.size + 1]? = some (.cells #[.int .i64 0] TE (0, 0)) from HBE0); have HWK := Aside0.mk HWK0.drew; have HTS := Aside0.mk (show Top (fun k => w.heap.size + 1 + 1 ≤ k) W0.drew from HTS0)
  clear HBZ0 HBR0 HWK0 HTS0
  obtain ⟨z0, z1, z2, z3, z4, z5, z6, z7, z8, z9, z10⟩ := cells11 W0.drew (w.heap.size) HBR.out.at
  cases hp : recP r with
  | none =>
    have HP := Aside0.mk hp; clear hp
    refine start_ (n := 5) (S := fun w' => w'.cell? ⟨w.heap.size, 0, none⟩ = some (.int .i64 r.f0) ∧ w'.cell? ⟨w.heap.size, 1, none⟩ = some (.int .i64 r.f1) ∧ w'.cell? ⟨w.heap.size, 2, none⟩ = some (.int .i64 r.f2) ∧ w'.cell? ⟨w.heap.size, 3, none⟩ = some (.int .i64 r.f3) ∧ w'.cell? ⟨w.heap.size, 4, none⟩ = some (.int .i64 r.f4) ∧ w'.cell? ⟨w.heap.size, 5, none⟩ = some (.int .i64 r.f5) ∧ w'.cell? ⟨w.heap.size, 6, none⟩ = some (.int .i64 r.f6) ∧ w'.cell? ⟨w.heap.size, 7, none⟩ = some (.string r.f7) ∧ w'.cell? ⟨w.heap.size, 8, none⟩ = some (.string r.f8) ∧ w'.cell? ⟨w.heap.size, 9, none⟩ = some (.slice A9 r.f9.length c9) ∧ w'.cell? ⟨w.heap.size, 10, none⟩ = some (.slice A10 r.f10.length c10)) (ds := []) #[false, false, false, false, false] (by kernel_rfl) rfl rfl ⟨z0, z1, z2, z3, z4, z5, z6, z7, z8, z9, z10⟩ (fun hHeld => ?_)
    refine rgp 0 7 ?_ (hi := rfl) (hN := rfl) (hQ := fun _ _ _ h => bp_print _ (by decide) _ _ _ _ h)
    refine rgt 2 9 hHeld ?_ (hi := rfl) (hN := rfl) (hQ := fun _ _ _ h => bp_print _ (by decide) _ _ _ _ h)
    refine one_ (i := 1) (N := some 8) #[true, true, true, false, false] rfl rfl (by kernel_rfl) (by decide) (fun K hK => ?_)
    generalize W0.drew = X0_ at *
    refine goesP_ Try.func52 (by kernel_rfl) rfl #[.pointer (some ⟨w.heap.size + 1 + 1, 0, none⟩), .pointer (some ⟨w.heap.size, 0, none⟩)] (by rfl) rfl rfl (by (try simp only [List.map_toArray, List.map_cons, List.map_nil]); first | done | rfl) ?_
    refine (rec_calls (w.heap.size + 1 + 1) [] w.heap.size r A9 c9 A10 c10 (fun k => w.heap.size + 1 + 1 ≤ k) X0_ HTS.out HWK.out HBR.out (by omega) (by simp) HZ.out (fun w' hf => Kd.C_below H9.out (hf.to_below HB0.out (fun k hk => by omega))) (fun w' hf => Kd.C_below H10.out (hf.to_below HB0.out (fun k hk => by omega)))).mono ?_
    rintro e w9 hx
    unfold AfterR at hx
    rw [HP.out] at hx
    obtain ⟨rfl, hf⟩ := hx
    have HBE := Aside0.mk (hf.old HBE0.out (show ¬ w.heap.size + 1 + 1 ≤ w.heap.size + 1 by omega)); have HBZ := Aside0.mk (hf.to_below HB0.out (fun k hk => by omega))
    have HPF := Aside0.mk (show printF r = (⟨#[]⟩, 1) by unfold printF; rw [HP.out])
    clear hf
    refine Or.inr ⟨_, rfl, ?_⟩
    refine leaves_cons (f := 49) (args := #[.pointer (some ⟨w.heap.size + 1, 0, none⟩)]) (by simp) (by simp [go_sem]) ?_
    refine (caught_up ⟨w.heap.size + 1, 0, none⟩ 0 1 [] _ (blk_cell HBE.out 0) (blk_frozen HBE.out 0)).mono ?_
    rintro e u' w'' ⟨rfl, rfl, rfl⟩
    have hb := HBZ.out.setCell (p := ⟨w.heap.size + 1, 0, none⟩) (show w.heap.size ≤ w.heap.size + 1 by omega) (.int .i64 1)
    have hc1 : _ = some (Value.int .i64 1) := blk_cell (set_blk HBE.out 0 (.int .i64 1)) 0
    rw [HPF.out]
    refine ⟨.tuple #[.string ⟨#[]⟩, .int .i64 1], ?_, rfl, hb⟩
    simp [results, Try.results39, go_sem, hc1]
  | some bs =>
  have HP := Aside0.mk hp; have HNE := Aside0.mk (rec_ne hp); have HOS := Aside0.mk (show (ownR r).f9.length ≤ 1000000 ∧ (ownR r).f10.length ≤ 1000000 from by have := own_small hp; omega); clear hp
  by_cases hs : ownR r = r
  rotate_left
  · have HSD := Aside0.mk (show decide (ownR r = r) = false from decide_eq_false hs)
    have HPF := Aside0.mk (show printF r = (⟨#[]⟩, 1) by unfold printF; rw [HP.out]; simp only; rw [if_neg hs])
    clear hs
    refine start_ (n := 5) (S := fun w' => w'.cell? ⟨w.heap.size, 0, none⟩ = some (.int .i64 r.f0) ∧ w'.cell? ⟨w.heap.size, 1, none⟩ = some (.int .i64 r.f1) ∧ w'.cell? ⟨w.heap.size, 2, none⟩ = some (.int .i64 r.f2) ∧ w'.cell? ⟨w.heap.size, 3, none⟩ = some (.int .i64 r.f3) ∧ w'.cell? ⟨w.heap.size, 4, none⟩ = some (.int .i64 r.f4) ∧ w'.cell? ⟨w.heap.size, 5, none⟩ = some (.int .i64 r.f5) ∧ w'.cell? ⟨w.heap.size, 6, none⟩ = some (.int .i64 r.f6) ∧ w'.cell? ⟨w.heap.size, 7, none⟩ = some (.string r.f7) ∧ w'.cell? ⟨w.heap.size, 8, none⟩ = some (.string r.f8) ∧ w'.cell? ⟨w.heap.size, 9, none⟩ = some (.slice A9 r.f9.length c9) ∧ w'.cell? ⟨w.heap.size, 10, none⟩ = some (.slice A10 r.f10.length c10)) (ds := []) #[false, false, false, false, false] (by kernel_rfl) rfl rfl ⟨z0, z1, z2, z3, z4, z5, z6, z7, z8, z9, z10⟩ (fun hHeld => ?_)
    refine rgp 0 7 ?_ (hi := rfl) (hN := rfl) (hQ := fun _ _ _ h => bp_print _ (by decide) _ _ _ _ h)
    refine rgt 2 9 hHeld ?_ (hi := rfl) (hN := rfl) (hQ := fun _ _ _ h => bp_print _ (by decide) _ _ _ _ h)
    refine one_ (i := 1) (N := some 8) #[true, true, true, false, false] rfl rfl (by kernel_rfl) (by decide) (fun K hK => ?_)
    generalize W0.drew = X0_ at *
    refine goes_ Try.func52 (by kernel_rfl) rfl #[.pointer (some ⟨w.heap.size + 1 + 1, 0, none⟩), .pointer (some ⟨w.heap.size, 0, none⟩)] (by rfl) rfl rfl (by (try simp only [List.map_toArray, List.map_cons, List.map_nil]); first | done | rfl) ?_
    refine (rec_calls (w.heap.size + 1 + 1) [] w.heap.size r A9 c9 A10 c10 (fun k => w.heap.size + 1 + 1 ≤ k) X0_ HTS.out HWK.out HBR.out (by omega) (by simp) HZ.out (fun w' hf => Kd.C_below H9.out (hf.to_below HB0.out (fun k hk => by omega))) (fun w' hf => Kd.C_below H10.out (hf.to_below HB0.out (fun k hk => by omega)))).mono ?_
    rintro e v1_ hx
    unfold AfterR at hx
    rw [HP.out] at hx
    obtain ⟨⟨B9, d9, B10, d10, rfl, hB⟩, hk, hf⟩ := hx
    refine ⟨_, rfl, ?_⟩
    have F := Aside0.mk hf; have HK := Aside0.mk hk
    have HOW := Aside0.mk (own_rows v1_ hB (Kd.C_below H9.out (F.out.to_below HB0.out (fun k hk => by omega))) L9.out (Kd.C_below H10.out (F.out.to_below HB0.out (fun k hk => by omega))) L10.out)
    clear hB hk hf HWK
    have HBR2 := F.out.old HBR.out (show ¬ w.heap.size + 1 + 1 ≤ w.heap.size by omega)
    refine hK _ _ ⟨blk_cell (w := v1_) HBR2 0, blk_cell (w := v1_) HBR2 1, blk_cell (w := v1_) HBR2 2, blk_cell (w := v1_) HBR2 3, blk_cell (w := v1_) HBR2 4, blk_cell (w := v1_) HBR2 5, blk_cell (w := v1_) HBR2 6, blk_cell (w := v1_) HBR2 7, blk_cell (w := v1_) HBR2 8, blk_cell (w := v1_) HBR2 9, blk_cell (w := v1_) HBR2 10⟩ (fun hHeld => ?_)
    clear hK K HBR2
    refine norm_ (a' := ?_) ?_ ?_
    rotate_left
    · show Act.put _ (some 8) _ = _
      simp only [Act.put, List.setIfInBounds_toArray, List.set_cons_zero, List.set_cons_succ, i64_w, i32_w]
      rfl
    refine one_ (i := 3) (N := some 10) #[true, true, true, true, false] rfl rfl (by kernel_rfl) (by decide) (fun K hK => ?_)
    refine goes_ Try.func51 (by kernel_rfl) rfl #[aggR (ownR r) B9 d9 B10 d10, aggR r A9 c9 A10 c10] (by rfl) rfl rfl (by (try simp only [List.map_toArray, List.map_cons, List.map_nil]); first | done | rfl) ?_
    refine (same_calls (ownR r) r B9 d9 B10 d10 A9 c9 A10 c10 _ HOW.out.1 HOW.out.2.1 HOW.out.2.2.1 HOW.out.2.2.2 (Kd.C_below H9.out (F.out.to_below HB0.out (fun k hk => by omega))) L9.out (Kd.C_below H10.out (F.out.to_below HB0.out (fun k hk => by omega))) L10.out HOS.out.1 HOS.out.2).mono ?_
    rintro e v2_ ⟨rfl, hb1⟩
    refine ⟨_, rfl, ?_⟩
    have F_n := Aside0.mk (F.out.below hb1)
    have HK_n := Aside0.mk (HK.out.below hb1)
    clear F HK hb1
    have F := F_n; have HK := HK_n; clear F_n HK_n
    have HBR2 := F.out.old HBR.out (show ¬ w.heap.size + 1 + 1 ≤ w.heap.size by omega)
    rw [HSD.out]
    refine hK _ _ ⟨blk_cell (w := v2_) HBR2 0, blk_cell (w := v2_) HBR2 1, blk_cell (w := v2_) HBR2 2, blk_cell (w := v2_) HBR2 3, blk_cell (w := v2_) HBR2 4, blk_cell (w := v2_) HBR2 5, blk_cell (w := v2_) HBR2 6, blk_cell (w := v2_) HBR2 7, blk_cell (w := v2_) HBR2 8, blk_cell (w := v2_) HBR2 9, blk_cell (w := v2_) HBR2 10⟩ (fun hHeld => ?_)
    clear hK K HBR2
    refine norm_ (a' := ?_) ?_ ?_
    rotate_left
    · show Act.put _ (some 10) _ = _
      simp only [Act.put, List.setIfInBounds_toArray, List.set_cons_zero, List.set_cons_succ, i64_w, i32_w]
      rfl
    refine one_ (i := 4) (N := some 11) #[true, true, true, true, true] rfl rfl (by kernel_rfl) (by decide) (fun K hK => ?_)
    refine goesP_ Try.func50 (by kernel_rfl) rfl #[.bool false, .int .i64 1] (by rfl) rfl rfl (by (try simp only [List.map_toArray, List.map_cons, List.map_nil]); first | done | rfl) ?_
    refine (must_no 1 _).mono ?_
    rintro e w9 ⟨rfl, hw⟩
    replace hw := hw.symm
    subst hw
    have HBE := Aside0.mk (F.out.old HBE0.out (show ¬ w.heap.size + 1 + 1 ≤ w.heap.size + 1 by omega)); have HBZ := Aside0.mk (F.out.to_below HB0.out (fun k hk => by omega))
    refine Or.inr ⟨_, rfl, ?_⟩
    refine leaves_cons (f := 49) (args := #[.pointer (some ⟨w.heap.size + 1, 0, none⟩)]) (by simp) (by simp [go_sem]) ?_
    refine (caught_up ⟨w.heap.size + 1, 0, none⟩ 0 1 [] _ (blk_cell HBE.out 0) (blk_frozen HBE.out 0)).mono ?_
    rintro e u' w'' ⟨rfl, rfl, rfl⟩
    have hb := HBZ.out.setCell (p := ⟨w.heap.size + 1, 0, none⟩) (show w.heap.size ≤ w.heap.size + 1 by omega) (.int .i64 1)
    have hc1 : _ = some (Value.int .i64 1) := blk_cell (set_blk HBE.out 0 (.int .i64 1)) 0
    rw [HPF.out]
    refine ⟨.tuple #[.string ⟨#[]⟩, .int .i64 1], ?_, rfl, hb⟩
    simp [results, Try.results39, go_sem, hc1]
  have HSD := Aside0.mk (show decide (ownR r = r) = true from decide_eq_true hs)
  have HPF := Aside0.mk (show printF r = (⟨bs.toArray⟩, 0) by unfold printF; rw [HP.out]; simp only; rw [if_pos hs])
  clear hs
  refine start_ (n := 5) (S := fun w' => w'.cell? ⟨w.heap.size, 0, none⟩ = some (.int .i64 r.f0) ∧ w'.cell? ⟨w.heap.size, 1, none⟩ = some (.int .i64 r.f1) ∧ w'.cell? ⟨w.heap.size, 2, none⟩ = some (.int .i64 r.f2) ∧ w'.cell? ⟨w.heap.size, 3, none⟩ = some (.int .i64 r.f3) ∧ w'.cell? ⟨w.heap.size, 4, none⟩ = some (.int .i64 r.f4) ∧ w'.cell? ⟨w.heap.size, 5, none⟩ = some (.int .i64 r.f5) ∧ w'.cell? ⟨w.heap.size, 6, none⟩ = some (.int .i64 r.f6) ∧ w'.cell? ⟨w.heap.size, 7, none⟩ = some (.string r.f7) ∧ w'.cell? ⟨w.heap.size, 8, none⟩ = some (.string r.f8) ∧ w'.cell? ⟨w.heap.size, 9, none⟩ = some (.slice A9 r.f9.length c9) ∧ w'.cell? ⟨w.heap.size, 10, none⟩ = some (.slice A10 r.f10.length c10)) (ds := []) #[false, false, false, false, false] (by kernel_rfl) rfl rfl ⟨z0, z1, z2, z3, z4, z5, z6, z7, z8, z9, z10⟩ (fun hHeld => ?_)
  refine rgp 0 7 ?_ (hi := rfl) (hN := rfl) (hQ := fun _ _ _ h => bp_print _ (by decide) _ _ _ _ h)
  refine rgt 2 9 hHeld ?_ (hi := rfl) (hN := rfl) (hQ := fun _ _ _ h => bp_print _ (by decide) _ _ _ _ h)
  refine one_ (i := 1) (N := some 8) #[true, true, true, false, false] rfl rfl (by kernel_rfl) (by decide) (fun K hK => ?_)
  generalize W0.drew = X0_ at *
  refine goes_ Try.func52 (by kernel_rfl) rfl #[.pointer (some ⟨w.heap.size + 1 + 1, 0, none⟩), .pointer (some ⟨w.heap.size, 0, none⟩)] (by rfl) rfl rfl (by (try simp only [List.map_toArray, List.map_cons, List.map_nil]); first | done | rfl) ?_
  refine (rec_calls (w.heap.size + 1 + 1) [] w.heap.size r A9 c9 A10 c10 (fun k => w.heap.size + 1 + 1 ≤ k) X0_ HTS.out HWK.out HBR.out (by omega) (by simp) HZ.out (fun w' hf => Kd.C_below H9.out (hf.to_below HB0.out (fun k hk => by omega))) (fun w' hf => Kd.C_below H10.out (hf.to_below HB0.out (fun k hk => by omega)))).mono ?_
  rintro e v1_ hx
  unfold AfterR at hx
  rw [HP.out] at hx
  obtain ⟨⟨B9, d9, B10, d10, rfl, hB⟩, hk, hf⟩ := hx
  refine ⟨_, rfl, ?_⟩
  have F := Aside0.mk hf; have HK := Aside0.mk hk
  have HOW := Aside0.mk (own_rows v1_ hB (Kd.C_below H9.out (F.out.to_below HB0.out (fun k hk => by omega))) L9.out (Kd.C_below H10.out (F.out.to_below HB0.out (fun k hk => by omega))) L10.out)
  clear hB hk hf HWK
  have HBR2 := F.out.old HBR.out (show ¬ w.heap.size + 1 + 1 ≤ w.heap.size by omega)
  refine hK _ _ ⟨blk_cell (w := v1_) HBR2 0, blk_cell (w := v1_) HBR2 1, blk_cell (w := v1_) HBR2 2, blk_cell (w := v1_) HBR2 3, blk_cell (w := v1_) HBR2 4, blk_cell (w := v1_) HBR2 5, blk_cell (w := v1_) HBR2 6, blk_cell (w := v1_) HBR2 7, blk_cell (w := v1_) HBR2 8, blk_cell (w := v1_) HBR2 9, blk_cell (w := v1_) HBR2 10⟩ (fun hHeld => ?_)
  clear hK K HBR2
  refine norm_ (a' := ?_) ?_ ?_
  rotate_left
  · show Act.put _ (some 8) _ = _
    simp only [Act.put, List.setIfInBounds_toArray, List.set_cons_zero, List.set_cons_succ, i64_w, i32_w]
    rfl
  refine one_ (i := 3) (N := some 10) #[true, true, true, true, false] rfl rfl (by kernel_rfl) (by decide) (fun K hK => ?_)
  refine goes_ Try.func51 (by kernel_rfl) rfl #[aggR (ownR r) B9 d9 B10 d10, aggR r A9 c9 A10 c10] (by rfl) rfl rfl (by (try simp only [List.map_toArray, List.map_cons, List.map_nil]); first | done | rfl) ?_
  refine (same_calls (ownR r) r B9 d9 B10 d10 A9 c9 A10 c10 _ HOW.out.1 HOW.out.2.1 HOW.out.2.2.1 HOW.out.2.2.2 (Kd.C_below H9.out (F.out.to_below HB0.out (fun k hk => by omega))) L9.out (Kd.C_below H10.out (F.out.to_below HB0.out (fun k hk => by omega))) L10.out HOS.out.1 HOS.out.2).mono ?_
  rintro e v2_ ⟨rfl, hb1⟩
  refine ⟨_, rfl, ?_⟩
  have F_n := Aside0.mk (F.out.below hb1)
  have HK_n := Aside0.mk (HK.out.below hb1)
  clear F HK hb1
  have F := F_n; have HK := HK_n; clear F_n HK_n
  have HBR2 := F.out.old HBR.out (show ¬ w.heap.size + 1 + 1 ≤ w.heap.size by omega)
  rw [HSD.out]
  refine hK _ _ ⟨blk_cell (w := v2_) HBR2 0, blk_cell (w := v2_) HBR2 1, blk_cell (w := v2_) HBR2 2, blk_cell (w := v2_) HBR2 3, blk_cell (w := v2_) HBR2 4, blk_cell (w := v2_) HBR2 5, blk_cell (w := v2_) HBR2 6, blk_cell (w := v2_) HBR2 7, blk_cell (w := v2_) HBR2 8, blk_cell (w := v2_) HBR2 9, blk_cell (w := v2_) HBR2 10⟩ (fun hHeld => ?_)
  clear hK K HBR2
  refine norm_ (a' := ?_) ?_ ?_
  rotate_left
  · show Act.put _ (some 10) _ = _
    simp only [Act.put, List.setIfInBounds_toArray, List.set_cons_zero, List.set_cons_succ, i64_w, i32_w]
    rfl
  refine one_ (i := 4) (N := some 11) #[true, true, true, true, true] rfl rfl (by kernel_rfl) (by decide) (fun K hK => ?_)
  refine goes_ Try.func50 (by kernel_rfl) rfl #[.bool true, .int .i64 1] (by rfl) rfl rfl (by (try simp only [List.map_toArray, List.map_cons, List.map_nil]); first | done | rfl) ?_
  refine (must_yes 1 _).mono ?_
  rintro e w9 ⟨rfl, hw⟩
  replace hw := hw.symm
  subst hw
  refine ⟨_, rfl, ?_⟩
  refine hK _ _ hHeld (fun hHeld => ?_)
  clear hK K
  refine norm_ (a' := ?_) ?_ ?_
  rotate_left
  · show Act.put _ (some 11) _ = _
    simp only [Act.put, List.setIfInBounds_toArray, List.set_cons_zero, List.set_cons_succ, i64_w, i32_w]
    rfl
  refine done_ (by kernel_rfl) ?_
  clear z0 z1 z2 z3 z4 z5 z6 z7 z8 z9 z10
  have HX := Aside0.mk F.out
  simp only [Exit.then]
  have HBE := Aside0.mk (F.out.old HBE0.out (show ¬ w.heap.size + 1 + 1 ≤ w.heap.size + 1 by omega)); have HBZ := Aside0.mk (F.out.to_below HB0.out (fun k hk => by omega))
  clear F HX hHeld
  go_wp2_with (go_at_call 53; (with_reducible refine (string_calls (w.heap.size + 1 + 1) ([] ++ bs) (fun k => w.heap.size + 1 + 1 ≤ k) _ HK.out (by simpa using HNE.out)).mono ?_); rintro e w5 ⟨rfl, hf⟩; have HBE5 := Aside0.mk (hf.old HBE.out (show ¬ w.heap.size + 1 + 1 ≤ w.heap.size + 1 by omega)); have HBZ5 := Aside0.mk (hf.to_below HBZ.out (fun k hk => by omega)); clear hf; have y0 : w5.cell? ⟨w.heap.size + 1, 0, none⟩ = some (.int .i64 0) := blk_cell HBE5.out 0; have f0 := blk_frozen HBE5.out 0)
  refine leaves_cons (f := 49) (args := #[.pointer (some ⟨w.heap.size + 1, 0, none⟩)]) (by simp) (by simp [go_sem]) ?_
  refine (caught_idle ⟨w.heap.size + 1, 0, none⟩ _).mono ?_
  rintro e u' w'' ⟨rfl, rfl, rfl⟩
  have hb := HBZ5.out.setCell (p := ⟨w.heap.size + 1, 0, none⟩) (show w.heap.size ≤ w.heap.size + 1 by omega) (.int .i64 0)
  have hc1 : _ = some (Value.int .i64 0) := blk_cell (set_blk HBE5.out 0 (.int .i64 0)) 0
  rw [HPF.out]
  refine ⟨.tuple #[.string ⟨bs.toArray⟩, .int .i64 0], ?_, rfl, hb⟩
  simp [results, Try.results39, go_sem, hc1]
end Go.Proofs.Ytcelfhoomhmioaa.Wr
set_option maxRecDepth 8192
namespace Go.Proofs.Ytcelfhoomhmioaa.Pt
open Go Go.RowKit Go.Proofs.YtcelfhoomhmioaaW.PrintWords Go.Proofs.Ytcelfhoomhmioaa.X4 Go.Proofs.Ytcelfhoomhmioaa.Rp Go.Proofs.Ytcelfhoomhmioaa.Wr
set_option linter.unusedVariables false
set_option linter.unusedSimpArgs false
theorem small_mk {n m : Int} (h0 : 0 ≤ n) (h1 : n ≤ m) : smallP n m = some [b8 n] := by unfold smallP; rw [if_pos ⟨h0, h1⟩]
theorem num_mk1 {n : Int} (h : isNum n = true) : numP [n] = some (four n) := by unfold numP; rw [if_pos (by simp [h])]; simp
theorem num_mk2 {n m : Int} (h : isNum n = true) (h2 : isNum m = true) : numP [n, m] = some (four n ++ four m) := by unfold numP; rw [if_pos (by simp [h, h2])]; simp
theorem txn_mk {n : Int} (h0 : 1 ≤ n) (h : isNum n = true) : txnP n = some (four n) := by unfold txnP; rw [if_pos h0, num_mk1 h]
theorem place_mk {p o n : Int} (h1 : 0 ≤ p ∧ p ≤ 7) (h2 : 0 ≤ o ∧ o ≤ 220 - min n 220) (h3 : 1 ≤ n ∧ n ≤ 16) : placeP p o n = some ([b8 p] ++ ([b8 o] ++ [b8 n])) := by
  unfold placeP
  rw [if_pos h3.1, small_mk h1.1 h1.2, small_mk h2.1 h2.2, small_mk (by omega) h3.2]
  rfl
theorem rowT_iff (x : S134) : rowTB x = (rowT x).isSome := by
  cases h : rowT x with
  | some bs =>
    unfold rowT at h
    obtain ⟨a, b, ha, hb, -⟩ := cat_eq h
    obtain ⟨h1, h2, -⟩ := txn_eq2 ha
    obtain ⟨h3, h4, -⟩ := num_eq3 hb
    simp [rowTB, h1, h2, h3, h4]
  | none =>
    cases hb : rowTB x with
    | false => rfl
    | true =>
      simp only [rowTB, List.all_cons, List.all_nil, Bool.and_true, Bool.and_eq_true, decide_eq_true_eq] at hb
      obtain ⟨h1, h2, h3, h4⟩ := hb
      unfold rowT at h
      rw [txn_mk h1 h2, num_mk2 h3 h4] at h
      cases h
theorem rowQ_iff (x : S70) : rowQB x = (rowQ x).isSome := by
  cases h : rowQ x with
  | some bs =>
    unfold rowQ at h
    obtain ⟨a, b, ha, hb, -⟩ := cat_eq h
    obtain ⟨h1, h2, -⟩ := small_eq2 ha
    obtain ⟨h3, -⟩ := num_eq2 hb
    simp [rowQB, h1, h2, h3]
  | none =>
    cases hb : rowQB x with
    | false => rfl
    | true =>
      simp only [rowQB, Bool.and_eq_true, decide_eq_true_eq] at hb
      obtain ⟨⟨h1, h2⟩, h3⟩ := hb
      unfold rowQ at h
      rw [small_mk h1 h2, num_mk1 h3] at h
      cases h
theorem join_iff {α : Type} (f : α → Option (List UInt8)) (b : α → Bool) (h : ∀ x, b x = (f x).isSome) (l : List α) : l.all b = (joinP (l.map f)).isSome := by
  induction l with
  | nil => rfl
  | cons x t ih =>
    simp only [List.all_cons, List.map_cons, joinP, ih, h x]
    cases f x <;> cases joinP (t.map f) <;> rfl
theorem some_of {α : Type} {o : Option α} (h : o.isSome = true) : ∃ x, o = some x := Option.isSome_iff_exists.1 h
/-- What may be is what is printed. -/
theorem may_iff (r : S39) : mayB r = true ↔ (∃ bs, recP r = some bs) ∧ ownR r = r := by
  unfold mayB
  by_cases e1 : r.f0 = 1
  · rw [if_pos e1]
    simp only [Bool.and_eq_true, decide_eq_true_eq, List.all_cons, List.all_nil, Bool.and_true, spotB]
    have ho : ownR r = ⟨1, r.f1, r.f2, r.f3, r.f4, 0, 0, r.f7, r.f8, [], []⟩ := by unfold ownR; rw [if_pos e1]
    rw [ho]
    constructor
    · rintro ⟨h1, ⟨h2, h3⟩, ⟨g1, g2, g3, g4, g5, g6, g7⟩, h4, h5⟩
      refine ⟨some_of ?_, h5.symm⟩
      unfold recP bodyP
      rw [small_mk (by omega) (by omega), if_pos e1, txn_mk h1 h2, num_mk1 h3, place_mk ⟨g1, g2⟩ ⟨g3, by omega⟩ ⟨by omega, by omega⟩, if_pos h4]
      rfl
    · rintro ⟨⟨bs, hb⟩, h5⟩
      obtain ⟨-, -, b, hb, -⟩ := rec_cut hb
      obtain ⟨⟨c1, c2⟩, c3, ⟨c4, c5⟩, ⟨c6, c7⟩, ⟨c8, c9⟩, c10, -⟩ := body1 e1 hb
      exact ⟨c1, ⟨c2, c3⟩, ⟨c4, c5, c6, by omega, by omega, by omega, by omega⟩, c10, h5.symm⟩
  rw [if_neg e1]
  by_cases e2 : r.f0 = 2
  · rw [if_pos e2]
    simp only [Bool.and_eq_true, decide_eq_true_eq, List.all_cons, List.all_nil, Bool.and_true, spotB]
    have ho : ownR r = ⟨2, r.f1, r.f2, r.f3, r.f4, r.f5, 0, ⟨#[]⟩, r.f8, [], []⟩ := by unfold ownR; rw [if_neg e1, if_pos e2]
    rw [ho]
    constructor
    · rintro ⟨h1, ⟨h2, h3, h3b⟩, ⟨g1, g2, g3, g4, g5, g6, g7⟩, h5⟩
      refine ⟨some_of ?_, h5.symm⟩
      unfold recP bodyP
      rw [small_mk (by omega) (by omega), if_neg e1, if_pos e2, txn_mk h1 h2, num_mk2 h3 h3b, place_mk ⟨g1, g2⟩ ⟨g3, by omega⟩ ⟨by omega, by omega⟩]
      rfl
    · rintro ⟨⟨bs, hb⟩, h5⟩
      obtain ⟨-, -, b, hb, -⟩ := rec_cut hb
      obtain ⟨⟨c1, c2⟩, c3, c3b, ⟨c4, c5⟩, ⟨c6, c7⟩, ⟨c8, c9⟩, -⟩ := body2 e2 hb
      exact ⟨c1, ⟨c2, c3, c3b⟩, ⟨c4, c5, c6, by omega, by omega, by omega, by omega⟩, h5.symm⟩
  rw [if_neg e2]
  by_cases e3 : r.f0 = 3 ∨ r.f0 = 4
  · rw [if_pos e3]
    simp only [Bool.and_eq_true, decide_eq_true_eq, List.all_cons, List.all_nil, Bool.and_true]
    have ho : ownR r = ⟨r.f0, r.f1, 0, 0, r.f4, 0, 0, ⟨#[]⟩, ⟨#[]⟩, [], []⟩ := by unfold ownR; rw [if_neg e1, if_neg e2, if_pos e3]
    rw [ho]
    constructor
    · rintro ⟨h1, ⟨h2, h3⟩, h5⟩
      refine ⟨some_of ?_, h5.symm⟩
      unfold recP bodyP
      rw [small_mk (by omega) (by omega), if_neg e1, if_neg e2, if_pos e3, txn_mk h1 h2, num_mk1 h3]
      rfl
    · rintro ⟨⟨bs, hb⟩, h5⟩
      obtain ⟨-, -, b, hb, -⟩ := rec_cut hb
      obtain ⟨⟨c1, c2⟩, c3, -⟩ := body3 e3 hb
      exact ⟨c1, ⟨c2, c3⟩, h5.symm⟩
  rw [if_neg e3]
  by_cases e5 : r.f0 = 5
  · rw [if_pos e5, decide_eq_true_eq]
    have ho : ownR r = ⟨5, 0, 0, 0, 0, 0, 0, ⟨#[]⟩, ⟨#[]⟩, [], []⟩ := by unfold ownR; rw [if_neg e1, if_neg e2, if_neg e3, if_neg (by omega), e5]
    rw [ho]
    constructor
    · intro h5
      refine ⟨some_of ?_, h5.symm⟩
      unfold recP bodyP
      rw [small_mk (by omega) (by omega), if_neg e1, if_neg e2, if_neg e3, if_pos e5]
      rfl
    · rintro ⟨-, h5⟩
      exact h5.symm
  rw [if_neg e5]
  by_cases e6 : r.f0 = 6
  · rw [if_pos e6]
    simp only [Bool.and_eq_true, decide_eq_true_eq, List.all_cons, List.all_nil, Bool.and_true]
    have ho : ownR r = ⟨6, 0, 0, 0, 0, 0, r.f6, ⟨#[]⟩, ⟨#[]⟩, r.f9, r.f10⟩ := by unfold ownR; rw [if_neg e1, if_neg e2, if_neg e3, if_pos e6]
    rw [ho, join_iff rowT rowTB rowT_iff, join_iff rowQ rowQB rowQ_iff]
    constructor
    · rintro ⟨h1, h2, h3, h4, h5, h6⟩
      obtain ⟨bt, h5⟩ := some_of h5
      obtain ⟨bq, h6⟩ := some_of h6
      refine ⟨some_of ?_, h4.symm⟩
      unfold recP bodyP tablesP
      rw [small_mk (by omega) (by omega), if_neg e1, if_neg e2, if_neg e3, if_neg e5, if_pos e6, num_mk1 h1, small_mk (by omega) (by omega), h5, small_mk (by omega) (by omega), h6]
      rfl
    · rintro ⟨⟨bs, hb⟩, h5⟩
      obtain ⟨-, -, b, hb, -⟩ := rec_cut hb
      obtain ⟨c1, c2, c3, bt, bq, c4, c5, -⟩ := body6 e6 hb
      exact ⟨c1, c2, c3, h5.symm, by rw [c4]; rfl, by rw [c5]; rfl⟩
  · rw [if_neg e6]
    constructor
    · intro h; cases h
    · rintro ⟨⟨bs, hb⟩, -⟩
      obtain ⟨h0, h1, b, hb, -⟩ := rec_cut hb
      unfold bodyP at hb
      rw [if_neg e1, if_neg e2, if_neg e3, if_neg e5, if_neg e6] at hb
      cases hb
attribute [local irreducible] takeI smallI fourI rowsTI rowsQI
end Go.Proofs.Ytcelfhoomhmioaa.Pt
set_option maxRecDepth 8192
namespace Go.Proofs.Ytcelfhoomhmioaa.Pt
open Go Go.RowKit Go.Proofs.YtcelfhoomhmioaaW.PrintWords Go.Proofs.Ytcelfhoomhmioaa.X4 Go.Proofs.Ytcelfhoomhmioaa.Rp Go.Proofs.Ytcelfhoomhmioaa.Wr
set_option linter.unusedVariables false
set_option linter.unusedSimpArgs false
def B (l : List UInt8) : ByteArray := ⟨l.toArray⟩
theorem B_list (l : List UInt8) : (B l).data.toList = l := by simp [B]
theorem rowT_bytes {x : S134} {b : List UInt8} (h : rowT x = some b) : b = four x.f0 ++ (four x.f1 ++ four x.f2) := by
  unfold rowT at h
  obtain ⟨a, c, ha, hc, rfl⟩ := cat_eq h
  obtain ⟨-, -, rfl⟩ := txn_eq2 ha
  obtain ⟨-, -, rfl⟩ := num_eq3 hc
  rfl
theorem rowQ_bytes {x : S70} {b : List UInt8} (h : rowQ x = some b) : b = [b8 x.f0] ++ four x.f1 := by
  unfold rowQ at h
  obtain ⟨a, c, ha, hc, rfl⟩ := cat_eq h
  obtain ⟨-, -, rfl⟩ := small_eq2 ha
  obtain ⟨-, rfl⟩ := num_eq2 hc
  rfl
/-- How long a record's bytes are. -/
theorem rec_len {r : S39} {bs : List UInt8} (h : recP r = some bs) : bs.length = (if r.f0 = 1 then 12 + 2 * r.f8.size else if r.f0 = 2 then 16 + r.f8.size else if r.f0 = 3 ∨ r.f0 = 4 then 9 else if r.f0 = 5 then 1 else 7 + 12 * r.f9.length + 5 * r.f10.length) ∧ bs.length ≤ 112 ∧ 1 ≤ bs.length := by
  obtain ⟨k0, k6, b, hb, rfl⟩ := rec_cut h
  by_cases e1 : r.f0 = 1
  · obtain ⟨⟨c1, c2⟩, c3, ⟨c4, c5⟩, ⟨c6, c7⟩, ⟨c8, c9⟩, c10, rfl⟩ := body1 e1 hb
    rw [if_pos e1]
    simp [four_len, len_eq, c10]
    omega
  rw [if_neg e1]
  by_cases e2 : r.f0 = 2
  · obtain ⟨⟨c1, c2⟩, c3, c3b, ⟨c4, c5⟩, ⟨c6, c7⟩, ⟨c8, c9⟩, rfl⟩ := body2 e2 hb
    rw [if_pos e2]
    simp [four_len, len_eq]
    omega
  rw [if_neg e2]
  by_cases e3 : r.f0 = 3 ∨ r.f0 = 4
  · obtain ⟨⟨c1, c2⟩, c3, rfl⟩ := body3 e3 hb
    rw [if_pos e3]
    simp [four_len]
  rw [if_neg e3]
  by_cases e6 : r.f0 = 6
  · obtain ⟨c1, c2, c3, bt, bq, c4, c5, rfl⟩ := body6 e6 hb
    have lt : bt.length = 12 * r.f9.length := by
      have key : ∀ (l : List S134) (b : List UInt8), joinP (l.map rowT) = some b → b.length = 12 * l.length := fun l => by
        induction l with
        | nil => intro b h; injection h with h; subst h; rfl
        | cons x t ih =>
          intro b h
          rw [List.map_cons, joinP] at h
          obtain ⟨u, v, hu, hv, rfl⟩ := cat_eq h
          rw [List.length_append, ih v hv, rowT_bytes hu]
          simp [four_len]
          omega
      exact key _ _ c4
    have lq : bq.length = 5 * r.f10.length := by
      have key : ∀ (l : List S70) (b : List UInt8), joinP (l.map rowQ) = some b → b.length = 5 * l.length := fun l => by
        induction l with
        | nil => intro b h; injection h with h; subst h; rfl
        | cons x t ih =>
          intro b h
          rw [List.map_cons, joinP] at h
          obtain ⟨u, v, hu, hv, rfl⟩ := cat_eq h
          rw [List.length_append, ih v hv, rowQ_bytes hu]
          simp [four_len]
          omega
      exact key _ _ c5
    rw [if_neg (by omega)]
    simp [four_len, lt, lq]
    omega
  · have hb5 : b = [] ∧ r.f0 = 5 := by
      unfold bodyP at hb
      rw [if_neg e1, if_neg e2, if_neg e3] at hb
      split at hb
      · rename_i c; injection hb with hb; exact ⟨hb.symm, c⟩
      · simp [e6] at hb
    obtain ⟨rfl, e5⟩ := hb5
    rw [if_pos e5]
    simp
theorem print_some {r : S39} {bs : List UInt8} (h : recP r = some bs) (ho : ownR r = r) : printF r = (B bs, 0) := by
  unfold printF
  rw [h]
  simp only
  rw [if_pos ho]
  rfl
theorem print_may {r : S39} : (∃ bs, recP r = some bs ∧ ownR r = r ∧ printF r = (B bs, 0) ∧ mayB r = true) ∨ (printF r = (⟨#[]⟩, 1) ∧ mayB r = false) := by
  by_cases m : mayB r = true
  · obtain ⟨⟨bs, h⟩, ho⟩ := (may_iff r).1 m
    exact .inl ⟨bs, h, ho, print_some h ho, m⟩
  · refine .inr ⟨?_, by simpa using m⟩
    unfold printF
    cases h : recP r with
    | none => rfl
    | some bs =>
      simp only
      rw [if_neg fun ho => m ((may_iff r).2 ⟨⟨bs, h⟩, ho⟩)]
end Go.Proofs.Ytcelfhoomhmioaa.Pt
set_option maxRecDepth 8192
namespace Go.Proofs.Ytcelfhoomhmioaa.Wl
open Go.Proofs.Ytcelfhoomhmioaa.Rgn
open Go.Proofs.Ytcelfhoomhmioaa.X4 Go.Proofs.Ytcelfhoomhmioaa.Pt Go Go.RowKit Go.ChangeMaps Go.Proofs.Ytcelfhoomhmioaa.Arr Go.Proofs.Ytcelfhoomhmioaa.Mp Go.Proofs.Ytcelfhoomhmioaa.Ow Go.Proofs.Ytcelfhoomhmioaa.Dk Go.Proofs.Ytcelfhoomhmioaa.Fr Go.Proofs.YtcelfhoomhmioaaW.PrintWords Go.Proofs.YtcelfhoomhmioaaW.PrintLast Go.Proofs.YtcelfhoomhmioaaW.PrintMore
set_option linter.unusedVariables false
set_option linter.unusedSimpArgs false
/-- The sector that a record of so many bytes goes to; what stands there. -/
def goesW (W : WS) (k : Nat) : Int × ByteArray := if bdy W W.op ≠ ⟨#[]⟩ ∧ 112 < (bdy W W.op).size + k then (W.op + 1, ⟨#[]⟩) else (W.op, bdy W W.op)
def fill (f : Int → Option ByteArray) (i : Int) (b : ByteArray) : Int → Option ByteArray := fun j => if j = i then some b else f j
/-- What Append does with a record's bytes: the place, the error, the log. -/
def appW (W : WS) (s : ByteArray) : Int × Int × WS :=
  if (goesW W s.size).2 = ⟨#[]⟩ ∧ W.low + W.n ≤ (goesW W s.size).1 then (0, 5, W)
  else ((goesW W s.size).1 * 128 + ((goesW W s.size).2.size : Int), 0, { W with op := (goesW W s.size).1, f := fill W.f (goesW W s.size).1 ((goesW W s.size).2 ++ s) })
/-- What Append does. -/
def appendW (W : WS) (r : S39) : Int × Int × WS := if (Rp.printF r).2 ≠ 0 then (0, 1, W) else appW W (Rp.printF r).1
theorem print_le (r : S39) : (Rp.printF r).1.size ≤ 112 := by
  rcases print_may (r := r) with ⟨bs, hb, ho, hp, hm⟩ | ⟨hp, hm⟩
  · rw [hp]
    show (B bs).size ≤ 112
    have := (rec_len hb).2.1
    rw [← X12.bl_len]
    show (B bs).data.toList.length ≤ 112
    rw [B_list]; exact this
  · rw [hp]; show (0 : Nat) ≤ 112; omega
section
variable {w : World} {c : Nat → Nat} {gl m g N : Nat} {W : WS}
theorem append_nil (v : Value) (hv : ∃ (r : S39) (A9 : Option Addr) (c9 : Nat) (A10 : Option Addr) (c10 : Nat), v = .agg #[.int .i64 r.f0, .int .i64 r.f1, .int .i64 r.f2, .int .i64 r.f3, .int .i64 r.f4, .int .i64 r.f5, .int .i64 r.f6, .string r.f7, .string r.f8, .slice A9 r.f9.length c9, .slice A10 r.f10.length c10]) (w : World) : Calls Try.prog 22 #[.pointer none, v] w fun e w' => e = .returned (.tuple #[.int .i64 0, .int .i64 10]) ∧ Below w.heap.size w w' := by
  obtain ⟨r, A9, c9, A10, c10, rfl⟩ := hv
  have HB := Aside0.mk ((Below.refl w.heap.size w).alloc (Nat.le_refl _) (.cells #[.int .i64 r.f0, .int .i64 r.f1, .int .i64 r.f2, .int .i64 r.f3, .int .i64 r.f4, .int .i64 r.f5, .int .i64 r.f6, .string r.f7, .string r.f8, .slice A9 r.f9.length c9, .slice A10 r.f10.length c10] 39))
  go_enter Try.func22, Try.ntmps22
  go_wp2
  go_ret2
  exact ⟨rfl, HB.out⟩
set_option maxHeartbeats 16000000 in
theorem append_calls (h : LO w c gl m g W) (F : Fit W) (hbd : (bdy W W.op).size ≤ 1000) (r : S39) (A9 : Option Addr) (c9 : Nat) (A10 : Option Addr) (c10 : Nat) (h9 : Kd.C k134 w A9 r.f9.length r.f9) (l9 : r.f9.length ≤ c9) (h10 : Kd.C k70 w A10 r.f10.length r.f10) (l10 : r.f10.length ≤ c10) (hz : r.f8.size ≤ 1000000) :
    Calls Try.prog 22 #[.pointer (some ⟨gl, 0, none⟩), .agg #[.int .i64 r.f0, .int .i64 r.f1, .int .i64 r.f2, .int .i64 r.f3, .int .i64 r.f4, .int .i64 r.f5, .int .i64 r.f6, .string r.f7, .string r.f8, .slice A9 r.f9.length c9, .slice A10 r.f10.length c10]] w fun e w' => e = .returned (.tuple #[.int .i64 (appendW W r).1, .int .i64 (appendW W r).2.1]) ∧ Fr [3] w c w' c ∧ LO w' c gl m g (appendW W r).2.2 := by
  have HL := Aside0.mk h; have HF := Aside0.mk F
  have H9 := Aside0.mk h9; have H10 := Aside0.mk h10; have HZ := Aside0.mk hz; have L9 := Aside0.mk l9; have L10 := Aside0.mk l10
  have HBD := Aside0.mk hbd
  have G := Aside0.mk (Below.refl w.heap.size w)
  clear h F h9 l9 h10 l10 hz hbd
  have FR := Aside0.mk (Fr.refl [3] w c)
  go_enter Try.func22, Try.ntmps22
  go_upto_region 1 with (fail)
  have hba := (Below.refl w.heap.size w).alloc (Nat.le_refl _) (.cells #[.int .i64 r.f0, .int .i64 r.f1, .int .i64 r.f2, .int .i64 r.f3, .int .i64 r.f4, .int .i64 r.f5, .int .i64 r.f6, .string r.f7, .string r.f8, .slice A9 r.f9.length c9, .slice A10 r.f10.length c10] 39)
  have HT := Aside0.mk (heap_alloc_new w (.cells #[.int .i64 r.f0, .int .i64 r.f1, .int .i64 r.f2, .int .i64 r.f3, .int .i64 r.f4, .int .i64 r.f5, .int .i64 r.f6, .string r.f7, .string r.f8, .slice A9 r.f9.length c9, .slice A10 r.f10.length c10] 39))
  have HL1 := Aside0.mk (HL.out.below hba); have FR1 := Aside0.mk (FR.out.trans (Fr.of_below (M := [3]) hba)); have G1 := Aside0.mk hba
  clear hba HL FR G
  generalize w.alloc (.cells #[.int .i64 r.f0, .int .i64 r.f1, .int .i64 r.f2, .int .i64 r.f3, .int .i64 r.f4, .int .i64 r.f5, .int .i64 r.f6, .string r.f7, .string r.f8, .slice A9 r.f9.length c9, .slice A10 r.f10.length c10] 39) = w0 at *
  have H9b := Aside0.mk (Kd.C_below H9.out G1.out); have H10b := Aside0.mk (Kd.C_below H10.out G1.out)
  obtain ⟨a0, a1, a2, a3, a4, a5, a6, a7, a8, a9, a10⟩ := cells11 w0 (w.heap.size) HT.out
  go_upto_region 4 with (go_at_call 39; (with_reducible refine (Wr.print_calls r A9 c9 A10 c10 _ H9b.out L9.out H10b.out L10.out HZ.out).mono ?_); rintro e w1 ⟨rfl, hb1⟩; have HL2 := Aside0.mk (HL1.out.below hb1); have FR2 := Aside0.mk (FR1.out.trans (Fr.of_below (M := [3]) hb1)); clear hb1 HL1 FR1)
  clear a0 a1 a2 a3 a4 a5 a6 a7 a8 a9 a10 HT H9b H10b G1
  obtain ⟨s, pe, hs⟩ : ∃ s pe, Rp.printF r = (s, pe) := ⟨_, _, rfl⟩
  have HS := Aside0.mk hs
  have hsl := print_le r
  rw [hs] at hsl ⊢
  have HSL := Aside0.mk (show s.size ≤ 112 from hsl)
  clear hsl hs
  by_cases hpe : pe = 0
  rotate_left
  · have e1 : (pe != 0) = true := by simpa using hpe
    have e0 : (pe == 0) = false := by simpa using hpe
    have HA := Aside0.mk (show appendW W r = (0, 1, W) by unfold appendW; rw [HS.out, if_pos hpe])
    clear hpe
    go_wp2
    go_ret2
    exact ⟨by rw [HA.out]; rfl, FR2.out, by rw [HA.out]; exact HL2.out⟩
  subst hpe
  have HA := Aside0.mk (show appendW W r = appW W s by unfold appendW; rw [HS.out, if_neg (fun h => h rfl)])
  go_upto_region 6 with (fail)
  have HL3 := Aside0.mk HL2.out.drew; have FR3 := Aside0.mk (FR2.out.trans (fr_drew [3] w1 c))
  clear HL2 FR2
  have c5 := HL3.out.c5; have c7 := HL3.out.c7
  refine start_ (n := 15) (S := fun w' => w'.cell? ⟨gl, 5, none⟩ = some (.int .i64 W.op) ∧ w'.cell? ⟨gl, 7, none⟩ = some (.map (some m))) (ds := []) #[false, false, false, false, false, false, false, false, false, false, false, false, false, false, false] (by kernel_rfl) rfl rfl ⟨c5, c7⟩ (fun hHeld => ?_)
  refine rgp 0 18 ?_
  refine rgp 1 19 ?_
  refine rgp 2 20 ?_
  refine rgp 4 22 ?_
  refine rgp 5 23 ?_
  refine rgp 6 24 ?_
  refine rgp 8 26 ?_
  refine rgp 9 27 ?_
  refine rgp 10 28 ?_
  refine rgt 3 21 hHeld ?_
  refine rgp 13 7 ?_
  refine rgt 7 25 hHeld ?_
  refine rgt 11 29 hHeld ?_
  refine one_ (i := 12) (N := some 30) #[true, true, true, true, true, true, true, true, true, true, true, true, true, true, false] rfl rfl (by kernel_rfl) (by decide) (fun K hK => ?_)
  generalize w1.drew = X0_ at *
  have hl := run_lookup0 HL3.out.map W.op
  refine value_ (w1 := ?_) (v := ?_) (by kernel_rfl) rfl ?_ ?_
  rotate_left 2
  · go_simp
    constructor
    · rfl
    · rfl
  refine hK _ _ hHeld (fun hHeld => ?_)
  clear hK K hl
  refine norm_ (a' := ?_) ?_ ?_
  rotate_left
  · show Act.put _ (some 30) _ = _
    simp only [Act.put, List.setIfInBounds_toArray, List.set_cons_zero, List.set_cons_succ, i64_w, i32_w]
    rfl
  refine rgp 14 8 ?_
  refine done_ (by kernel_rfl) ?_
  clear hHeld c5 c7
  generalize hb0 : (W.f W.op).getD ⟨#[]⟩ = b0 at *
  have hbd : b0.size ≤ 1000 := by have := HBD.out; rw [show bdy W W.op = b0 from hb0] at this; exact this
  have HB0 := Aside0.mk (show bdy W W.op = b0 from hb0)
  clear hb0
  have hw1 : wrap64 ((b0.size : Int) + (s.size : Int)) = (b0.size : Int) + (s.size : Int) := by have := HSL.out; unfold wrap64; omega
  have hwo : wrap64 (W.op + 1) = W.op + 1 := by have := HF.out.op; unfold wrap64; omega
  have hwl : wrap64 (W.low + W.n) = W.low + W.n := by have := HF.out.low; have := HF.out.n; unfold wrap64; omega
  have HBDS := Aside0.mk hbd
  clear hbd
  by_cases hem : b0 = ⟨#[]⟩
  · subst hem
    have t0 : (⟨#[]⟩ : ByteArray).toList.isEmpty = true := by rw [empty_iff]; exact decide_eq_true rfl
    go_upto_region 9 with (fail)
    have HL4 := Aside0.mk HL3.out.drew; have FR4 := Aside0.mk (FR3.out.trans (fr_drew [3] X0_ c))
    clear HL3 FR3
    have c2 := HL4.out.c2; have c3 := HL4.out.c3
    refine start_ (n := 15) (S := fun w' => w'.cell? ⟨gl, 2, none⟩ = some (.int .i64 W.n) ∧ w'.cell? ⟨gl, 3, none⟩ = some (.int .i64 W.low)) (ds := []) #[false, false, false, false, false, false, false, false, false, false, false, false, false, false, false] (by kernel_rfl) rfl rfl ⟨c2, c3⟩ (fun hHeld => ?_)
    refine rgp 0 43 ?_
    refine rgp 1 44 ?_
    refine rgp 2 45 ?_
    refine rgp 3 46 ?_
    refine rgp 4 47 ?_
    refine rgp 5 48 ?_
    refine rgp 6 49 ?_
    refine rgp 8 51 ?_
    refine rgp 9 52 ?_
    refine rgp 10 53 ?_
    refine rgt 7 50 hHeld ?_
    refine rgt 11 54 hHeld ?_
    refine rgp 12 55 ?_
    refine rgp 13 56 ?_
    refine rgp 14 57 ?_
    refine done_ (by kernel_rfl) ?_
    clear hHeld c2 c3
    have HGO := Aside0.mk (show goesW W s.size = (W.op, ⟨#[]⟩) from by unfold goesW; rw [HB0.out, if_neg (fun h => h.1 rfl)])
    by_cases hfu : W.low + W.n ≤ W.op
    · have HAP := Aside0.mk (show appW W s = (0, 5, W) by unfold appW; rw [HGO.out, if_pos ⟨rfl, hfu⟩])
      go_wp2
      go_ret2
      exact ⟨by rw [HA.out, HAP.out]; rfl, FR4.out, by rw [HA.out, HAP.out]; exact HL4.out⟩
    · have HAP := Aside0.mk (show appW W s = ((W.op) * 128 + (((⟨#[]⟩ : ByteArray).size : Nat) : Int), 0, { W with op := W.op, f := fill W.f (W.op) ((⟨#[]⟩ : ByteArray) ++ s) }) by unfold appW; rw [HGO.out, if_neg (fun h => hfu h.2)])
      have HWI := Aside0.mk (show wrap64 ((W.op) * 128) = (W.op) * 128 by have := HF.out.op; unfold wrap64; omega)
      have HWJ := Aside0.mk (show wrap64 ((W.op) * 128 + (((⟨#[]⟩ : ByteArray)).size : Int)) = (W.op) * 128 + (((⟨#[]⟩ : ByteArray)).size : Int) by have := HF.out.op; have := HBDS.out; have : (⟨#[]⟩ : ByteArray).size = 0 := rfl; unfold wrap64; omega)
      have hwi := HWI.out; have hwj := HWJ.out
      generalize X0_.drew = X1_ at *
      have c5 := HL4.out.c5; have f5 := HL4.out.fz 5
      have s1 := HL4.out.set 5 (.int .i64 (W.op)) (W' := { W with op := W.op }) rfl rfl
      have c7 := s1.1.c7
      obtain ⟨ob, hrun, hmp⟩ := run_update_mp (P := Try.prog) (t := 94) (k := 3) (e := 9) (by kernel_rfl) (by kernel_rfl) s1.1.map (W.op) ((⟨#[]⟩ : ByteArray) ++ s)
      have s2 := s1.1.turn hmp
      have HL5 := Aside0.mk s2.1; have FR5 := Aside0.mk ((FR4.out.trans s1.2).trans s2.2)
      clear s1 s2 hmp
      have HCT := Aside0.mk (show s.size ≤ 9223372036854775807 by have := HSL.out; omega)
      have hct0 : (9223372036854775807 < s.size) = False := eq_false (by have := HCT.out; omega)
      have hct1 : (9223372036854775807 < ((⟨#[]⟩ : ByteArray)).size + s.size) = False := eq_false (by have := HSL.out; have := HBDS.out; have : (⟨#[]⟩ : ByteArray).size = 0 := rfl; omega)
      go_wp2
      go_ret2
      refine ⟨?_, FR5.out, ?_⟩
      · rw [HA.out, HAP.out]; first | rfl | (simp [HWI.out, HWJ.out]; done) | (simp [HWI.out, HWJ.out, show (⟨#[]⟩ : ByteArray).size = 0 from rfl])
      · rw [HA.out, HAP.out]; exact HL5.out
  have t0 : b0.toList.isEmpty = false := by rw [empty_iff, decide_eq_false hem]
  by_cases hgt : (112 : Int) < (b0.size : Int) + (s.size : Int)
  · have HGE := Aside0.mk (show goesW W s.size = (W.op + 1, ⟨#[]⟩) by unfold goesW; rw [HB0.out, if_pos ⟨hem, by omega⟩])
    go_upto_region 9 with (fail)
    have HL4 := Aside0.mk HL3.out.drew; have FR4 := Aside0.mk (FR3.out.trans (fr_drew [3] X0_ c))
    clear HL3 FR3
    have c2 := HL4.out.c2; have c3 := HL4.out.c3
    refine start_ (n := 15) (S := fun w' => w'.cell? ⟨gl, 2, none⟩ = some (.int .i64 W.n) ∧ w'.cell? ⟨gl, 3, none⟩ = some (.int .i64 W.low)) (ds := []) #[false, false, false, false, false, false, false, false, false, false, false, false, false, false, false] (by kernel_rfl) rfl rfl ⟨c2, c3⟩ (fun hHeld => ?_)
    refine rgp 0 43 ?_
    refine rgp 1 44 ?_
    refine rgp 2 45 ?_
    refine rgp 3 46 ?_
    refine rgp 4 47 ?_
    refine rgp 5 48 ?_
    refine rgp 6 49 ?_
    refine rgp 8 51 ?_
    refine rgp 9 52 ?_
    refine rgp 10 53 ?_
    refine rgt 7 50 hHeld ?_
    refine rgt 11 54 hHeld ?_
    refine rgp 12 55 ?_
    refine rgp 13 56 ?_
    refine rgp 14 57 ?_
    refine done_ (by kernel_rfl) ?_
    clear hHeld c2 c3
    have HGO := Aside0.mk (show goesW W s.size = ((W.op + 1), ⟨#[]⟩) from HGE.out)
    by_cases hfu : W.low + W.n ≤ (W.op + 1)
    · have HAP := Aside0.mk (show appW W s = (0, 5, W) by unfold appW; rw [HGO.out, if_pos ⟨rfl, hfu⟩])
      go_wp2
      go_ret2
      exact ⟨by rw [HA.out, HAP.out]; rfl, FR4.out, by rw [HA.out, HAP.out]; exact HL4.out⟩
    · have HAP := Aside0.mk (show appW W s = (((W.op + 1)) * 128 + (((⟨#[]⟩ : ByteArray).size : Nat) : Int), 0, { W with op := (W.op + 1), f := fill W.f ((W.op + 1)) ((⟨#[]⟩ : ByteArray) ++ s) }) by unfold appW; rw [HGO.out, if_neg (fun h => hfu h.2)])
      have HWI := Aside0.mk (show wrap64 (((W.op + 1)) * 128) = ((W.op + 1)) * 128 by have := HF.out.op; unfold wrap64; omega)
      have HWJ := Aside0.mk (show wrap64 (((W.op + 1)) * 128 + (((⟨#[]⟩ : ByteArray)).size : Int)) = ((W.op + 1)) * 128 + (((⟨#[]⟩ : ByteArray)).size : Int) by have := HF.out.op; have := HBDS.out; have : (⟨#[]⟩ : ByteArray).size = 0 := rfl; unfold wrap64; omega)
      have hwi := HWI.out; have hwj := HWJ.out
      generalize X0_.drew = X1_ at *
      have c5 := HL4.out.c5; have f5 := HL4.out.fz 5
      have s1 := HL4.out.set 5 (.int .i64 ((W.op + 1))) (W' := { W with op := (W.op + 1) }) rfl rfl
      have c7 := s1.1.c7
      obtain ⟨ob, hrun, hmp⟩ := run_update_mp (P := Try.prog) (t := 94) (k := 3) (e := 9) (by kernel_rfl) (by kernel_rfl) s1.1.map ((W.op + 1)) ((⟨#[]⟩ : ByteArray) ++ s)
      have s2 := s1.1.turn hmp
      have HL5 := Aside0.mk s2.1; have FR5 := Aside0.mk ((FR4.out.trans s1.2).trans s2.2)
      clear s1 s2 hmp
      have HCT := Aside0.mk (show s.size ≤ 9223372036854775807 by have := HSL.out; omega)
      have hct0 : (9223372036854775807 < s.size) = False := eq_false (by have := HCT.out; omega)
      have hct1 : (9223372036854775807 < ((⟨#[]⟩ : ByteArray)).size + s.size) = False := eq_false (by have := HSL.out; have := HBDS.out; have : (⟨#[]⟩ : ByteArray).size = 0 := rfl; omega)
      go_wp2
      go_ret2
      refine ⟨?_, FR5.out, ?_⟩
      · rw [HA.out, HAP.out]; first | rfl | (simp [HWI.out, HWJ.out]; done) | (simp [HWI.out, HWJ.out, show (⟨#[]⟩ : ByteArray).size = 0 from rfl])
      · rw [HA.out, HAP.out]; exact HL5.out
  · have HAP := Aside0.mk (show appW W s = (W.op * 128 + (b0.size : Int), 0, { W with op := W.op, f := fill W.f W.op (b0 ++ s) }) by
      have hgo : goesW W s.size = (W.op, b0) := by unfold goesW; rw [HB0.out, if_neg (fun h => hgt (by omega))]
      unfold appW
      rw [hgo, if_neg (fun h => hem h.1)])
    go_upto_region 9 with (fail)
    have HL4 := Aside0.mk HL3.out.drew; have FR4 := Aside0.mk (FR3.out.trans (fr_drew [3] X0_ c))
    clear HL3 FR3
    have c2 := HL4.out.c2; have c3 := HL4.out.c3
    refine start_ (n := 15) (S := fun w' => w'.cell? ⟨gl, 2, none⟩ = some (.int .i64 W.n) ∧ w'.cell? ⟨gl, 3, none⟩ = some (.int .i64 W.low)) (ds := []) #[false, false, false, false, false, false, false, false, false, false, false, false, false, false, false] (by kernel_rfl) rfl rfl ⟨c2, c3⟩ (fun hHeld => ?_)
    refine rgp 0 43 ?_
    refine rgp 1 44 ?_
    refine rgp 2 45 ?_
    refine pure_ (i := 3) (N := some 46) (v := undef) (a' := ?_) #[true, true, true, true, false, false, false, false, false, false, false, false, false, false, false] rfl rfl (by kernel_rfl) (fun _ _ _ h => h) (Or.inr ⟨by rfl, rfl⟩) ?_ ?_
    rotate_left
    · simp only [Act.put, List.setIfInBounds_toArray, List.set_cons_zero, List.set_cons_succ, i64_w, i32_w]
      rfl
    refine pure_ (i := 4) (N := some 47) (v := undef) (a' := ?_) #[true, true, true, true, true, false, false, false, false, false, false, false, false, false, false] rfl rfl (by kernel_rfl) (fun _ _ _ h => h) (Or.inr ⟨by rfl, rfl⟩) ?_ ?_
    rotate_left
    · simp only [Act.put, List.setIfInBounds_toArray, List.set_cons_zero, List.set_cons_succ, i64_w, i32_w]
      rfl
    refine pure_ (i := 5) (N := some 48) (v := undef) (a' := ?_) #[true, true, true, true, true, true, false, false, false, false, false, false, false, false, false] rfl rfl (by kernel_rfl) (fun _ _ _ h => h) (Or.inr ⟨by rfl, rfl⟩) ?_ ?_
    rotate_left
    · simp only [Act.put, List.setIfInBounds_toArray, List.set_cons_zero, List.set_cons_succ, i64_w, i32_w]
      rfl
    refine pure_ (i := 6) (N := some 49) (v := undef) (a' := ?_) #[true, true, true, true, true, true, true, false, false, false, false, false, false, false, false] rfl rfl (by kernel_rfl) (fun _ _ _ h => h) (Or.inr ⟨by rfl, rfl⟩) ?_ ?_
    rotate_left
    · simp only [Act.put, List.setIfInBounds_toArray, List.set_cons_zero, List.set_cons_succ, i64_w, i32_w]
      rfl
    refine pure_ (i := 7) (N := some 50) (v := undef) (a' := ?_) #[true, true, true, true, true, true, true, true, false, false, false, false, false, false, false] rfl rfl (by kernel_rfl) (fun _ _ _ h => h) (Or.inr ⟨by rfl, rfl⟩) ?_ ?_
    rotate_left
    · simp only [Act.put, List.setIfInBounds_toArray, List.set_cons_zero, List.set_cons_succ, i64_w, i32_w]
      rfl
    refine pure_ (i := 8) (N := some 51) (v := undef) (a' := ?_) #[true, true, true, true, true, true, true, true, true, false, false, false, false, false, false] rfl rfl (by kernel_rfl) (fun _ _ _ h => h) (Or.inr ⟨by rfl, rfl⟩) ?_ ?_
    rotate_left
    · simp only [Act.put, List.setIfInBounds_toArray, List.set_cons_zero, List.set_cons_succ, i64_w, i32_w]
      rfl
    refine pure_ (i := 9) (N := some 52) (v := undef) (a' := ?_) #[true, true, true, true, true, true, true, true, true, true, false, false, false, false, false] rfl rfl (by kernel_rfl) (fun _ _ _ h => h) (Or.inr ⟨by rfl, rfl⟩) ?_ ?_
    rotate_left
    · simp only [Act.put, List.setIfInBounds_toArray, List.set_cons_zero, List.set_cons_succ, i64_w, i32_w]
      rfl
    refine pure_ (i := 10) (N := some 53) (v := undef) (a' := ?_) #[true, true, true, true, true, true, true, true, true, true, true, false, false, false, false] rfl rfl (by kernel_rfl) (fun _ _ _ h => h) (Or.inr ⟨by rfl, rfl⟩) ?_ ?_
    rotate_left
    · simp only [Act.put, List.setIfInBounds_toArray, List.set_cons_zero, List.set_cons_succ, i64_w, i32_w]
      rfl
    refine pure_ (i := 11) (N := some 54) (v := undef) (a' := ?_) #[true, true, true, true, true, true, true, true, true, true, true, true, false, false, false] rfl rfl (by kernel_rfl) (fun _ _ _ h => h) (Or.inr ⟨by rfl, rfl⟩) ?_ ?_
    rotate_left
    · simp only [Act.put, List.setIfInBounds_toArray, List.set_cons_zero, List.set_cons_succ, i64_w, i32_w]
      rfl
    refine pure_ (i := 12) (N := some 55) (v := undef) (a' := ?_) #[true, true, true, true, true, true, true, true, true, true, true, true, true, false, false] rfl rfl (by kernel_rfl) (fun _ _ _ h => h) (Or.inr ⟨by rfl, rfl⟩) ?_ ?_
    rotate_left
    · simp only [Act.put, List.setIfInBounds_toArray, List.set_cons_zero, List.set_cons_succ, i64_w, i32_w]
      rfl
    refine pure_ (i := 13) (N := some 56) (v := undef) (a' := ?_) #[true, true, true, true, true, true, true, true, true, true, true, true, true, true, false] rfl rfl (by kernel_rfl) (fun _ _ _ h => h) (Or.inr ⟨by rfl, rfl⟩) ?_ ?_
    rotate_left
    · simp only [Act.put, List.setIfInBounds_toArray, List.set_cons_zero, List.set_cons_succ, i64_w, i32_w]
      rfl
    refine rgp 14 57 ?_
    refine done_ (by kernel_rfl) ?_
    clear hHeld c2 c3
    have HWI := Aside0.mk (show wrap64 ((W.op) * 128) = (W.op) * 128 by have := HF.out.op; unfold wrap64; omega)
    have HWJ := Aside0.mk (show wrap64 ((W.op) * 128 + ((b0).size : Int)) = (W.op) * 128 + ((b0).size : Int) by have := HF.out.op; have := HBDS.out; have : (⟨#[]⟩ : ByteArray).size = 0 := rfl; unfold wrap64; omega)
    have hwi := HWI.out; have hwj := HWJ.out
    generalize X0_.drew = X1_ at *
    have c5 := HL4.out.c5; have f5 := HL4.out.fz 5
    have s1 := HL4.out.set 5 (.int .i64 (W.op)) (W' := { W with op := W.op }) rfl rfl
    have c7 := s1.1.c7
    obtain ⟨ob, hrun, hmp⟩ := run_update_mp (P := Try.prog) (t := 94) (k := 3) (e := 9) (by kernel_rfl) (by kernel_rfl) s1.1.map (W.op) (b0 ++ s)
    have s2 := s1.1.turn hmp
    have HL5 := Aside0.mk s2.1; have FR5 := Aside0.mk ((FR4.out.trans s1.2).trans s2.2)
    clear s1 s2 hmp
    have HCT := Aside0.mk (show s.size ≤ 9223372036854775807 by have := HSL.out; omega)
    have hct0 : (9223372036854775807 < s.size) = False := eq_false (by have := HCT.out; omega)
    have hct1 : (9223372036854775807 < (b0).size + s.size) = False := eq_false (by have := HSL.out; have := HBDS.out; have : (⟨#[]⟩ : ByteArray).size = 0 := rfl; omega)
    go_wp2
    go_ret2
    refine ⟨?_, FR5.out, ?_⟩
    · rw [HA.out, HAP.out]; first | rfl | (simp [HWI.out, HWJ.out]; done) | (simp [HWI.out, HWJ.out, show (⟨#[]⟩ : ByteArray).size = 0 from rfl])
    · rw [HA.out, HAP.out]; exact HL5.out
end
end Go.Proofs.Ytcelfhoomhmioaa.Wl
set_option maxRecDepth 8192
namespace Go.Proofs.Ytcelfhoomhmioaa.Wl
open Go.Proofs.Ytcelfhoomhmioaa.Rgn
open Go Go.RowKit Go.ChangeMaps Go.Proofs.Ytcelfhoomhmioaa.Arr Go.Proofs.Ytcelfhoomhmioaa.Mp Go.Proofs.Ytcelfhoomhmioaa.Ow Go.Proofs.Ytcelfhoomhmioaa.Dk Go.Proofs.Ytcelfhoomhmioaa.Fr Go.Proofs.YtcelfhoomhmioaaW.PrintWords Go.Proofs.YtcelfhoomhmioaaW.PrintLast Go.Proofs.YtcelfhoomhmioaaW.PrintMore
set_option linter.unusedVariables false
set_option linter.unusedSimpArgs false
section
variable {w : World} {c : Nat → Nat} {gl m g N : Nat} {W : WS} {d : DS}
theorem dwrite_o (h : DK w (Col c 1) g d) (ho : OkN N d) (i : Int) (s : ByteArray) : Calls Try.prog 56 #[.pointer (some ⟨g, 0, none⟩), .int .i64 i, .string s] w fun x w' => x = .returned (.int .i64 (writeE d i s)) ∧ ∃ c', Fr [1] w c w' c' ∧ DK w' (Col c' 1) g (writeD d i s) := by
  refine (write_calls d g i s (Col (Dk.paint c w.heap.size 1) 1) w (top_paint c w 1) (h.mono fun k hk e => (paint_old hk).trans e) ho.ok).mono ?_
  rintro x w' ⟨rfl, hk, hf⟩
  exact ⟨rfl, _, fr_disk hf, hk⟩
theorem dsync_o (h : DK w (Col c 1) g d) (ho : OkN N d) : Calls Try.prog 58 #[.pointer (some ⟨g, 0, none⟩)] w fun x w' => x = .returned (.int .i64 (syncE d)) ∧ ∃ c', Fr [1] w c w' c' ∧ DK w' (Col c' 1) g (syncD d) := by
  refine (sync_calls d g (Col (Dk.paint c w.heap.size 1) 1) w (top_paint c w 1) (h.mono fun k hk e => (paint_old hk).trans e) ho.ok).mono ?_
  rintro x w' ⟨rfl, hk, hf⟩
  exact ⟨rfl, _, fr_disk hf, hk⟩
/-- The bytes of a sector of the log. -/
def secW (W : WS) (i : Int) : ByteArray := (X12.packI W.ep i (bdy W i)).1
/-- The writes of a Flush: the error, the next sector, the disk. -/
def flushL (W : WS) : Nat → Int → DS → Int × Int × DS
  | 0, i, d => (0, i, d)
  | k + 1, i, d => if i ≤ W.op ∧ bdy W i ≠ ⟨#[]⟩ then (if writeE d (placeW W i) (secW W i) ≠ 0 then (writeE d (placeW W i) (secW W i), i, writeD d (placeW W i) (secW W i)) else flushL W k (i + 1) (writeD d (placeW W i) (secW W i))) else (0, i, d)
def flushR (W : WS) (d : DS) : Int × Int × DS := flushL W (W.op + 1 - W.first).toNat W.first d
/-- What Flush does: the error, the log, the disk. -/
def flushW (W : WS) (d : DS) : Int × WS × DS :=
  if (flushR W d).1 ≠ 0 then ((flushR W d).1, W, (flushR W d).2.2)
  else if (flushR W d).2.1 = W.first then (0, W, (flushR W d).2.2)
  else if syncE (flushR W d).2.2 ≠ 0 then (syncE (flushR W d).2.2, W, syncD (flushR W d).2.2)
  else (0, { W with first := (flushR W d).2.1, op := (flushR W d).2.1 }, syncD (flushR W d).2.2)
theorem pack_fine {e i : Int} {b : ByteArray} (he : 0 ≤ e ∧ e < 4294967296) (hi : 0 ≤ i ∧ i < 4294967296) (hb : b.size ≤ 112) : X12.packI e i b = ((X12.packI e i b).1, 0) := by
  rw [← (X12.packI_bl e i b he hi hb).2]
set_option maxHeartbeats 16000000 in
theorem flush_calls (h : LO w c gl m g W) (hd : DK w (Col c 1) g d) (ho : OkN N d) (hN : N ≤ 1000) (F : Fit W) (hbd : ∀ i, (bdy W i).size ≤ 112) (hop : W.op ≤ 100000000) (hgap : W.first ≤ W.op + 1 ∧ W.op - W.first ≤ 1000) :
    Calls Try.prog 45 #[.pointer (some ⟨gl, 0, none⟩)] w fun e w' => e = .returned (.int .i64 (flushW W d).1) ∧ ∃ c', Fr [1, 3] w c w' c' ∧ LO w' c' gl m g (flushW W d).2.1 ∧ DK w' (Col c' 1) g (flushW W d).2.2 ∧ OkN (N + 1100) (flushW W d).2.2 := by
  have HL := Aside0.mk h; have HD := Aside0.mk hd; have HO := Aside0.mk ho; have HNN := Aside0.mk hN; have HF := Aside0.mk F; have HBD := Aside0.mk hbd; have HOP := Aside0.mk hop; have HGP := Aside0.mk hgap
  have FR := Aside0.mk (Fr.refl [1] w c)
  have c4 := h.c4
  clear h hd ho hN F hbd hop hgap
  obtain ⟨Re, Rn, Rd, hR⟩ : ∃ a b e, flushR W d = (a, b, e) := ⟨_, _, _, rfl⟩
  have HR := Aside0.mk hR
  have HRL := Aside0.mk (show flushL W (W.op + 1 - W.first).toNat W.first d = (Re, Rn, Rd) from hR)
  clear hR
  have HK0 := Aside0.mk (show (((W.op + 1 - W.first).toNat : Nat) : Int) = W.op + 1 - W.first by have := HGP.out; omega)
  go_enter Try.func45, Try.ntmps45
  go_upto_region 4 with (fail)
  clear c4
  go_loopw [3] (fun nv wr => ∃ (j k : Nat) (dk : DS) (c' : Nat → Nat), nv = .int .i64 (W.first + j) ∧ Aside0 (j + k = (W.op + 1 - W.first).toNat) ∧ Aside0 (LO wr c' gl m g W) ∧ Aside0 (DK wr (Col c' 1) g dk) ∧ Aside0 (Fr [1] w c wr c') ∧ Aside0 (OkN (N + j) dk) ∧ Aside0 (flushL W k (W.first + j) dk = (Re, Rn, Rd))) (fun nv _ => (W.op + 1).toNat - (intOf nv).toNat)
  case atStart => exact ⟨0, (W.op + 1 - W.first).toNat, d, c, by rw [show W.first + ((0 : Nat) : Int) = W.first by omega], ⟨by omega⟩, HL, HD, FR, ⟨HO.out⟩, ⟨by rw [show W.first + ((0 : Nat) : Int) = W.first by omega]; exact HRL.out⟩⟩
  case round =>
    clear HL HD FR HO HRL
    obtain ⟨j, k, dk, c1, rfl, JK, HL, HD, FR, HO, HRL⟩ := hrel
    have HI := Aside0.mk (show 0 ≤ W.first + (j : Int) ∧ W.first + (j : Int) ≤ W.op + 1 by have := HF.out.first; have := JK.out; have := HK0.out; omega)
    have c5 := HL.out.c5; have c7 := HL.out.c7
    have hl := run_lookup0 HL.out.map (W.first + j)
    obtain ⟨i, hi⟩ : ∃ i : Int, i = W.first + (j : Int) := ⟨_, rfl⟩
    rw [← hi] at HI HRL hl ⊢
    have HIJ := Aside0.mk hi
    clear hi
    obtain ⟨b, hb⟩ : ∃ b, b = bdy W i := ⟨_, rfl⟩
    have HBI := Aside0.mk hb
    rw [show (W.f i).getD ⟨#[]⟩ = b from hb.symm] at hl
    clear hb
    by_cases hgo : i ≤ W.op ∧ b ≠ ⟨#[]⟩
    · obtain ⟨h1, h2⟩ := hgo
      have HLE := Aside0.mk h1; have HNE := Aside0.mk h2
      have t0 : b.toList.isEmpty = false := by rw [empty_iff, decide_eq_false h2]
      obtain ⟨k, rfl⟩ : ∃ q, k = q + 1 := ⟨k - 1, by have := JK.out; have := HK0.out; have := HIJ.out; omega⟩
      clear h2
      go_upto_region 6 with (fail)
      have HL1 := Aside0.mk HL.out.drew; have HD1 := Aside0.mk HD.out.drew; have FR1 := Aside0.mk (FR.out.trans (fr_drew [1] wr c1))
      clear HL HD FR c5 c7 hl h1
      have c6 := HL1.out.c6; have c7 := HL1.out.c7
      have HWI := Aside0.mk (show IntKind.u32.wrap i = i by rw [IntKind.wrap_u32]; exact Int.emod_eq_of_lt HI.out.1 (by have := HLE.out; have := HOP.out; omega))
      refine start_ (n := 19) (S := fun w' => w'.cell? ⟨gl, 6, none⟩ = some (.int .u32 W.ep) ∧ w'.cell? ⟨gl, 7, none⟩ = some (.map (some m))) (ds := []) #[false, false, false, false, false, false, false, false, false, false, false, false, false, false, false, false, false, false, false] (by kernel_rfl) rfl rfl ⟨c6, c7⟩ (fun hHeld => ?_)
      refine rgp 0 31 ?_
      refine rgp 1 32 ?_
      refine rgp 2 33 ?_
      refine rgp 4 35 ?_
      refine rgp 5 36 ?_
      refine rgp 6 37 ?_
      refine rgp 7 38 ?_
      refine rgp 8 39 ?_
      refine rgp 10 41 ?_
      refine rgt 3 34 hHeld ?_
      refine rgt 9 40 hHeld ?_
      refine one_ (i := 11) (N := some 42) #[true, true, true, true, true, true, true, true, true, true, true, true, false, false, false, false, false, false, false] rfl rfl (by kernel_rfl) (by decide) (fun K hK => ?_)
      generalize wr.drew = X0_ at *
      have hl := run_lookup0 HL1.out.map i
      rw [show (W.f i).getD ⟨#[]⟩ = b from HBI.out.symm] at hl
      refine value_ (w1 := ?_) (v := ?_) (by kernel_rfl) rfl ?_ ?_
      rotate_left 2
      · go_simp
        constructor
        · rfl
        · rfl
      refine hK _ _ hHeld (fun hHeld => ?_)
      clear hK K hl
      refine norm_ (a' := ?_) ?_ ?_
      rotate_left
      · show Act.put _ (some 42) _ = _
        simp only [Act.put, List.setIfInBounds_toArray, List.set_cons_zero, List.set_cons_succ, i64_w, i32_w]
        rfl
      refine rgp 12 43 ?_
      refine one_ (i := 13) (N := some 44) #[true, true, true, true, true, true, true, true, true, true, true, true, true, true, false, false, false, false, false] rfl rfl (by kernel_rfl) (by decide) (fun K hK => ?_)
      refine goes_ Try.func55 (by kernel_rfl) rfl #[.agg #[.int .u32 W.ep, .int .u32 (IntKind.u32.wrap i), .string b]] (by rfl) rfl rfl (by (try simp only [List.map_toArray, List.map_cons, List.map_nil]); first | done | rfl) ?_
      rw [HWI.out]
      refine (X12.pack_calls W.ep i b HF.out.ep ⟨HI.out.1, by have := HLE.out; have := HOP.out; omega⟩ _).mono ?_
      rintro e v1_ ⟨rfl, hb1⟩
      rw [pack_fine HF.out.ep ⟨HI.out.1, by have := HLE.out; have := HOP.out; omega⟩ (by rw [HBI.out]; exact HBD.out i)]
      refine ⟨_, rfl, ?_⟩
      have HL2 := Aside0.mk (HL1.out.below hb1); have HD2 := Aside0.mk (HD1.out.below hb1); have FR2 := Aside0.mk (FR1.out.trans (Fr.of_below (M := [1]) hb1))
      clear HL1 HD1 FR1 hb1
      refine hK _ _ ⟨HL2.out.c6, HL2.out.c7⟩ (fun hHeld => ?_)
      clear hK K
      refine norm_ (a' := ?_) ?_ ?_
      rotate_left
      · show Act.put _ (some 44) _ = _
        simp only [Act.put, List.setIfInBounds_toArray, List.set_cons_zero, List.set_cons_succ, i64_w, i32_w]
        rfl
      refine rgp 14 30 ?_
      refine rgp 15 45 ?_
      refine rgp 16 46 ?_
      refine rgp 17 4 ?_
      refine rgp 18 5 ?_
      refine done_ (by kernel_rfl) ?_
      clear hHeld c6 c7
      have HSW := Aside0.mk (show (X12.packI W.ep i b).1 = secW W i by unfold secW; rw [HBI.out])
      simp only [HSW.out]
      have hff := HRL.out
      unfold flushL at hff
      rw [if_pos ⟨HLE.out, by rw [← HBI.out]; exact HNE.out⟩] at hff
      generalize secW W i = s at *
      go_upto_region 8 with (fail)
      have HL3 := Aside0.mk HL2.out.drew; have HD3 := Aside0.mk HD2.out.drew; have FR3 := Aside0.mk (FR2.out.trans (fr_drew [1] v1_ c1))
      clear HL2 HD2 FR2
      have c0 := HL3.out.c0
      have HFF := Aside0.mk hff
      clear hff
      refine start_ (n := 10) (S := fun w' => w'.cell? ⟨gl, 0, none⟩ = some (.pointer (some ⟨g, 0, none⟩))) (ds := [8]) #[false, false, false, false, false, false, false, false, false, false] (by kernel_rfl) rfl rfl c0 (fun hHeld => ?_)
      refine rgp 0 49 ?_
      refine rgp 1 50 ?_
      refine rgp 2 51 ?_
      refine rgp 4 53 ?_
      refine rgp 5 54 ?_
      refine rgp 7 56 ?_
      refine rgt 3 52 hHeld ?_
      refine one_ (i := 6) (N := some 55) #[true, true, true, true, true, true, true, true, false, false] rfl rfl (by kernel_rfl) (by decide) (fun K hK => ?_)
      generalize v1_.drew = X1_ at *
      refine goes_ Try.func57 (by kernel_rfl) rfl #[.pointer (some ⟨gl, 0, none⟩), .int .i64 i] (by rfl) rfl rfl (by (try simp only [List.map_toArray, List.map_cons, List.map_nil]); first | done | rfl) ?_
      refine (place_calls HL3.out HF.out i HI.out.1).mono ?_
      rintro e v1_y ⟨rfl, hb1⟩
      refine ⟨_, rfl, ?_⟩
      have HL4 := Aside0.mk (HL3.out.below hb1); have HD4 := Aside0.mk (HD3.out.below hb1); have FR4 := Aside0.mk (FR3.out.trans (Fr.of_below (M := [1]) hb1))
      clear HL3 HD3 FR3 hb1
      refine hK _ _ HL4.out.c0 (fun hHeld => ?_)
      clear hK K
      refine norm_ (a' := ?_) ?_ ?_
      rotate_left
      · show Act.put _ (some 55) _ = _
        simp only [Act.put, List.setIfInBounds_toArray, List.set_cons_zero, List.set_cons_succ, i64_w, i32_w]
        rfl
      refine last_ (i := 8) (N := some 57) #[true, true, true, true, true, true, true, true, true, false] rfl rfl (by kernel_rfl) (by decide) (fun K hK => ?_)
      refine goes_ Try.func56 (by kernel_rfl) rfl #[.pointer (some ⟨g, 0, none⟩), .int .i64 (placeW W i), .string s] (by rfl) rfl rfl (by (try simp only [List.map_toArray, List.map_cons, List.map_nil]); first | done | rfl) ?_
      refine (dwrite_o HD4.out HO.out (placeW W i) s).mono ?_
      rintro e v9_ ⟨rfl, c2, hf, hd⟩
      refine ⟨_, rfl, ?_⟩
      have HL5 := Aside0.mk (HL4.out.keep hf (by decide)); have HD5 := Aside0.mk hd; have FR5 := Aside0.mk (FR4.out.trans hf)
      clear HL4 HD4 FR4 hf hd
      refine hK _ _ ?_
      clear hK K
      refine norm_ (a' := ?_) ?_ ?_
      rotate_left
      · show Act.put _ (some 57) _ = _
        simp only [Act.put, List.setIfInBounds_toArray, List.set_cons_zero, List.set_cons_succ, i64_w, i32_w]
        rfl
      refine rgp 9 5 ?_
      refine done_ (by kernel_rfl) ?_
      clear hHeld c0
      (try simp only [Exit.inBlock, Exit.then])
      have hok := ok_write (i := placeW W i) (s := s) HO.out (by have := HNN.out; have := JK.out; have := HK0.out; have := HGP.out; omega)
      have HO5 := Aside0.mk hok; clear hok HO
      generalize hwe : writeE dk (placeW W i) s = we at *
      generalize writeD dk (placeW W i) s = wd at *
      clear hwe
      by_cases he : we = 0
      · have e0 : (we != 0) = false := by simpa using he
        have e1 : (we == 0) = true := by simpa using he
        have HFF2 := Aside0.mk (show flushL W k (i + 1) wd = (Re, Rn, Rd) by have := HFF.out; rw [if_neg (fun h => h he)] at this; exact this)
        have hwk : wrap64 (i + 1) = i + 1 := by have := HLE.out; have := HOP.out; have := HI.out; unfold wrap64; omega
        clear he
        go_wp2
        go_roundw
        case rel => exact ⟨j + 1, k, wd, c2, by first | (rw [HIJ.out]; congr 1; omega) | (rw [hwk, HIJ.out]; congr 1; omega), ⟨by have := JK.out; omega⟩, HL5, HD5, FR5, ⟨HO5.out⟩, ⟨by rw [show W.first + ((j + 1 : Nat) : Int) = i + 1 by rw [HIJ.out]; omega]; exact HFF2.out⟩⟩
        case measure =>
          have := HLE.out; have := HI.out
          (try rw [hwk])
          simp only [intOf]; omega
      · have e0 : (we != 0) = true := by simpa using he
        have e1 : (we == 0) = false := by simpa using he
        have HQ := Aside0.mk (show (we, i, wd) = (Re, Rn, Rd) by have := HFF.out; rw [if_pos he] at this; exact this)
        have HWE := Aside0.mk he
        clear he
        go_wp2
        go_ret
        have hq := HQ.out
        have hfw : flushW W d = (we, W, wd) := by
          unfold flushW
          rw [HR.out, ← hq]
          rw [if_pos HWE.out]
        rw [hfw]
        exact ⟨rfl, c2, FR5.out.mono (by decide), HL5.out, HD5.out, HO5.out.mono (by have := JK.out; have := HK0.out; have := HGP.out; omega)⟩
    · have HQ := Aside0.mk (show (0, i, dk) = (Re, Rn, Rd) by
        have := HRL.out
        cases k with
        | zero => exact this
        | succ k => unfold flushL at this; rw [if_neg (by rw [← HBI.out]; exact hgo)] at this; exact this)
      have HLO := Aside0.mk HL.out
      have hcase : (i ≤ W.op ∧ b.toList.isEmpty = true) ∨ ¬ i ≤ W.op := by
        by_cases h : i ≤ W.op
        · refine .inl ⟨h, ?_⟩
          rw [empty_iff, decide_eq_true_iff]
          exact Classical.byContradiction fun h2 => hgo ⟨h, h2⟩
        · exact .inr h
      clear hgo
      have c4 := HL.out.c4; have c0 := HL.out.c0
      by_cases hfi : i = W.first
      · have e0 : (i == W.first) = true := beq_iff_eq.2 hfi
        have HFW := Aside0.mk (show flushW W d = (0, W, dk) by
          unfold flushW
          rw [HR.out, ← HQ.out]
          rw [if_neg (fun h => h rfl), if_pos hfi])
        clear hfi
        rcases hcase with ⟨t1, t2⟩ | t1
        all_goals
          go_wp2
          go_ret
          rw [HFW.out]
          exact ⟨rfl, c1, FR.out.mono (by decide), HL.out, HD.out, HO.out.mono (by have := JK.out; have := HK0.out; have := HGP.out; omega)⟩
      · have e0 : (i == W.first) = false := beq_eq_false_iff_ne.2 hfi
        have HFW := Aside0.mk (show flushW W d = if syncE dk ≠ 0 then (syncE dk, W, syncD dk) else (0, { W with first := i, op := i }, syncD dk) by
          unfold flushW
          rw [HR.out, ← HQ.out]
          rw [if_neg (fun h => h rfl), if_neg hfi])
        clear hfi
        have HOS := Aside0.mk (ok_sync HO.out)
        generalize hse : syncE dk = se at *
        generalize hsd : syncD dk = sd at *
        by_cases he : se = 0
        · have e1 : (se != 0) = false := by simpa using he
          have HFX := Aside0.mk (show flushW W d = (0, { W with first := i, op := i }, sd) by rw [HFW.out, if_neg (fun h => h he)])
          clear he
          rcases hcase with ⟨t1, t2⟩ | t1
          all_goals
            have hsy := dsync_o HD.out HO.out
            rw [hse, hsd] at hsy
            have HSY := Aside0.mk hsy; clear hsy
            go_upto_region 14 with (go_at_call 58; (with_reducible refine HSY.out.mono ?_); rintro e w1 ⟨rfl, c2, hf, hd⟩; have HL5 := Aside0.mk (HL.out.keep hf (by decide)); have HD5 := Aside0.mk hd; have FR5 := Aside0.mk (FR.out.trans hf); clear hf hd)
            clear c0 c4 c5 c7 hl
            have f4 := HL5.out.fz 4; have f5 := HL5.out.fz 5; have c4 := HL5.out.c4; have c5 := HL5.out.c5
            have s1 := HL5.out.set 4 (.int .i64 i) (W' := { W with first := i }) rfl rfl
            have c5b := s1.1.c5; have f5b := s1.1.fz 5
            have s2 := s1.1.set 5 (.int .i64 i) (W' := { W with first := i, op := i }) rfl rfl
            have HL6 := Aside0.mk s2.1; have HD6 := Aside0.mk (dk_keep HD5.out (s1.2.trans s2.2) (by decide)); have FR6 := Aside0.mk ((FR5.out.mono (M2 := [1, 3]) (by decide)).trans ((s1.2.trans s2.2).mono (by decide)))
            clear s1 s2
            go_wp2
            go_ret
            rw [HFX.out]
            exact ⟨rfl, c2, FR6.out, HL6.out, HD6.out, HOS.out.mono (by have := JK.out; have := HK0.out; have := HGP.out; omega)⟩
        · have e1 : (se != 0) = true := by simpa using he
          have HFX := Aside0.mk (show flushW W d = (se, W, sd) by rw [HFW.out, if_pos he])
          clear he
          rcases hcase with ⟨t1, t2⟩ | t1
          all_goals
            have hsy := dsync_o HD.out HO.out
            rw [hse, hsd] at hsy
            have HSY := Aside0.mk hsy; clear hsy
            go_upto_region 14 with (go_at_call 58; (with_reducible refine HSY.out.mono ?_); rintro e w1 ⟨rfl, c2, hf, hd⟩; have HL5 := Aside0.mk (HL.out.keep hf (by decide)); have HD5 := Aside0.mk hd; have FR5 := Aside0.mk (FR.out.trans hf); clear hf hd)
            clear c0 c4 c5 c7 hl
            go_wp2
            go_ret
            rw [HFX.out]
            exact ⟨rfl, c2, FR5.out.mono (by decide), HL5.out, HD5.out, HOS.out.mono (by have := JK.out; have := HK0.out; have := HGP.out; omega)⟩
end
end Go.Proofs.Ytcelfhoomhmioaa.Wl
set_option maxRecDepth 8192
namespace Go.Proofs.Ytcelfhoomhmioaa.Wl
open Go.Proofs.Ytcelfhoomhmioaa.X4 Go.Proofs.Ytcelfhoomhmioaa.Pt Go.Proofs.Ytcelfhoomhmioaa.Rp Go.Proofs.Ytcelfhoomhmioaa.Cr Go Go.RowKit Go.ChangeMaps Go.Proofs.Ytcelfhoomhmioaa.Arr Go.Proofs.Ytcelfhoomhmioaa.Mp Go.Proofs.Ytcelfhoomhmioaa.Ow Go.Proofs.Ytcelfhoomhmioaa.Dk Go.Proofs.Ytcelfhoomhmioaa.Fr Go.Proofs.YtcelfhoomhmioaaW.PrintWords
set_option linter.unusedVariables false
set_option linter.unusedSimpArgs false
/-- The first sector without a record. -/
def nxL (W : WS) : Int := if bdy W W.op = ⟨#[]⟩ then W.op else W.op + 1
/-- The log behind a Flush. -/
def doneL (W : WS) : WS := { W with first := nxL W, op := nxL W }
theorem nxL_le (W : WS) : W.op ≤ nxL W ∧ nxL W ≤ W.op + 1 := by unfold nxL; split <;> omega
structure Lg (b n E : Int) (W : WS) (d : DS) : Prop where
  mid : Mid d.safe [] d
  fuse : d.fuse = -1
  ep : 1 ≤ W.ep ∧ W.ep ≤ E
  nn : W.n = n
  n8 : 8 ≤ n ∧ n ≤ 64
  base : W.base = b
  lo : 0 ≤ b ∧ b ≤ 900
  len : d.safe.length ≤ 512
  fits : b + n ≤ d.safe.length
  bd : ∀ i, (bdy W i).size ≤ 112
  hi : ∀ i, W.op < i → bdy W i = ⟨#[]⟩
  full : ∀ i, W.first ≤ i → i < W.op → bdy W i ≠ ⟨#[]⟩
  ord : W.low = 1 ∧ 1 ≤ W.first ∧ W.first ≤ W.op
  nx : nxL W ≤ n + 1
theorem ne_of_size {b : ByteArray} (h : 1 ≤ b.size) : b ≠ ⟨#[]⟩ := by
  rintro rfl
  exact absurd h (by decide)
theorem sec_size' {W : WS} {i : Int} (he : 0 ≤ W.ep ∧ W.ep < 4294967296) (hi : 0 ≤ i ∧ i < 4294967296) (hb : (bdy W i).size ≤ 112) : (secW W i).size = 128 := by
  unfold secW
  rw [← X12.bl_len, (X12.packI_bl W.ep i (bdy W i) he hi hb).1, Slab.secL_len _ _ _ (by rw [X12.bl_len]; exact hb)]
theorem last_none {q : Int} : ∀ (R : List (Int × ByteArray)), (∀ x ∈ R, x.1 ≠ q) → lastOf R q = none := by
  have gen : ∀ (R : List (Int × ByteArray)), (∀ x ∈ R, x.1 ≠ q) → R.foldl (fun o p => if q = p.1 then some p.2 else o) (none : Option ByteArray) = none := by
    intro R
    induction R with
    | nil => intro _; rfl
    | cons x t ih =>
      intro h
      rw [List.foldl_cons, if_neg (fun e => h x (List.mem_cons_self ..) e.symm)]
      exact ih (fun y hy => h y (List.mem_cons_of_mem _ hy))
  exact gen
section
variable {b n E : Int} {W : WS} {d : DS}
theorem Lg.ok (h : Lg b n E W d) : OkN 0 d := by
  have hr : d.row = [] := h.mid.2.1
  refine ⟨⟨by rw [hr]; decide, by rw [h.fuse]; omega, by rw [h.fuse]; omega, h.len, fun p hp => ?_⟩, by rw [hr]; exact Nat.le_refl _⟩
  rw [hr] at hp; cases hp
theorem Lg.fit (h : Lg b n E W d) (hE : E < 4294967290) : Fit W := by
  have h1 := h.ord; have h2 := h.nn; have h3 := h.n8; have h4 := h.base; have h5 := h.lo; have h6 := h.ep; have h7 := h.nx; have h8 := nxL_le W
  exact ⟨by omega, by omega, by omega, by omega, by omega, by omega⟩
theorem Lg.gap (h : Lg b n E W d) : W.op ≤ 100000000 ∧ W.first ≤ W.op + 1 ∧ W.op - W.first ≤ 1000 := by
  have h1 := h.ord; have h3 := h.n8; have h7 := h.nx; have h8 := nxL_le W
  omega
theorem Lg.bd1 (h : Lg b n E W d) : (bdy W W.op).size ≤ 1000 := Nat.le_trans (h.bd _) (by decide)
/-- The writes of a Flush, on a disk that bears them. -/
theorem flushL_quiet (h : Lg b n E W d) (hE : E < 4294967290) : ∀ (k : Nat) (i : Int) (dk : DS) (R : List (Int × ByteArray)), Mid d.safe R dk → dk.fuse = -1 → W.first ≤ i → i + (k : Int) = W.op + 1 → i ≤ nxL W → (∀ x ∈ R, b ≤ x.1 ∧ x.1 < b + n) →
    ∃ R' d', flushL W k i dk = (0, nxL W, d') ∧ Mid d.safe R' d' ∧ d'.fuse = -1 ∧ (∀ x ∈ R', b ≤ x.1 ∧ x.1 < b + n) := by
  have ho := h.ord; have hnn := h.nn; have hn8 := h.n8; have hbs := h.base; have hlo := h.lo; have hnx := h.nx; have hle := nxL_le W; have hep := h.ep; have hfits := h.fits
  intro k
  induction k with
  | zero =>
    intro i dk R hm hf h1 h2 h3 h4
    refine ⟨R, dk, ?_, hm, hf, h4⟩
    have : i = nxL W := by omega
    rw [this]; rfl
  | succ k ih =>
    intro i dk R hm hf h1 h2 h3 h4
    have hio : i ≤ W.op := by omega
    unfold flushL
    by_cases hz : bdy W i = ⟨#[]⟩
    · rw [if_neg (fun x => x.2 hz)]
      have hi : i = W.op := by
        rcases Int.lt_or_le i W.op with h5 | h5
        · exact absurd hz (h.full i h1 h5)
        · omega
      have : nxL W = i := by rw [hi] at hz ⊢; exact if_pos hz
      exact ⟨R, dk, by rw [this], hm, hf, h4⟩
    · rw [if_pos ⟨hio, hz⟩]
      have hp : b ≤ placeW W i ∧ placeW W i < b + n := by
        have := tmod_lt (n := W.n) (by omega) i (by omega)
        unfold placeW; omega
      have hs : (secW W i).size = 128 := sec_size' (by omega) (by omega) (h.bd i)
      have hfr := free_write hm.2.2 hf (placeW W i) (secW W i)
      rcases mid_write hm (p := placeW W i) (s := secW W i) (by omega) (by omega) hs with ⟨e1, m1⟩ | ⟨e1, _⟩
      · rw [e1, if_neg (fun x => x rfl)]
        have hnext : i + 1 ≤ nxL W := by
          rcases Int.lt_or_le i W.op with h5 | h5
          · omega
          · have hi : i = W.op := by omega
            have : nxL W = W.op + 1 := by rw [hi] at hz; exact if_neg hz
            omega
        refine ih (i + 1) _ _ m1 hfr.2.2 (by omega) (by omega) hnext (fun x hx => ?_)
        rcases List.mem_append.1 hx with hx | hx
        · exact h4 x hx
        · rw [List.mem_singleton.1 hx]; exact hp
      · exact absurd e1 hfr.1
/-- A Flush. -/
theorem Lg.flush (h : Lg b n E W d) (hE : E < 4294967290) : (flushW W d).1 = 0 ∧ (flushW W d).2.1 = doneL W ∧ Lg b n E (doneL W) (flushW W d).2.2 ∧ (flushW W d).2.2.safe.length = d.safe.length ∧ ∀ q : Int, 0 ≤ q → q < d.safe.length → (q < b ∨ b + n ≤ q) → cut (flushW W d).2.2.safe q = cut d.safe q := by
  have ho := h.ord; have hnn := h.nn; have hn8 := h.n8; have hbs := h.base; have hlo := h.lo; have hnx := h.nx; have hle := nxL_le W; have hep := h.ep; have hfits := h.fits
  have hdone : bdy W (nxL W) = ⟨#[]⟩ := by
    by_cases z : bdy W W.op = ⟨#[]⟩
    · have : nxL W = W.op := if_pos z
      rw [this]; exact z
    · have : nxL W = W.op + 1 := if_neg z
      rw [this]; exact h.hi _ (by omega)
  have hK : ∀ d' : DS, Mid d'.safe [] d' → d'.fuse = -1 → d'.safe.length = d.safe.length → Lg b n E (doneL W) d' := fun d' m f l =>
    ⟨m, f, h.ep, h.nn, h.n8, h.base, h.lo, by rw [l]; exact h.len, by rw [l]; exact h.fits, h.bd, fun i hi => h.hi i (by have hi : nxL W < i := hi; omega), fun i h1 h2 => by
      have h1 : nxL W ≤ i := h1
      have h2 : i < nxL W := h2
      omega, ⟨h.ord.1, by show 1 ≤ nxL W; omega, Int.le_refl _⟩, by
      have : nxL (doneL W) = nxL W := if_pos hdone
      rw [this]; exact hnx⟩
  obtain ⟨R', d', e1, m1, f1, r1⟩ := flushL_quiet h hE (W.op + 1 - W.first).toNat W.first d [] h.mid h.fuse (Int.le_refl _) (by omega) (by omega) (fun x hx => by cases hx)
  have hR : flushR W d = (0, nxL W, d') := e1
  unfold flushW
  rw [hR]
  simp only []
  rw [if_neg (fun x => x rfl)]
  by_cases hz : nxL W = W.first
  · rw [if_pos hz]
    have hop : W.op = W.first := by omega
    have hb0 : bdy W W.first = ⟨#[]⟩ := by rw [← hz]; exact hdone
    have hd : d' = d := by
      have e2 : flushL W (W.op + 1 - W.first).toNat W.first d = (0, W.first, d) := by
        rw [show (W.op + 1 - W.first).toNat = 1 by omega]
        unfold flushL
        rw [if_neg (fun x => x.2 hb0)]
      rw [e2] at e1
      injection e1 with _ e1
      injection e1 with _ e1
      exact e1.symm
    have hW : W = doneL W := by
      unfold doneL
      rw [hz]
      conv => lhs; rw [show W = ⟨W.base, W.n, W.low, W.first, W.op, W.ep, W.f⟩ from rfl, hop]
    subst hd
    exact ⟨rfl, hW, hK _ h.mid h.fuse rfl, rfl, fun _ _ _ _ => rfl⟩
  · rw [if_neg hz]
    have hfr := free_sync m1.2.2 f1
    rcases mid_sync m1 with ⟨e2, m2⟩ | ⟨e2, _⟩
    · rw [e2, if_neg (fun x => x rfl)]
      have hS : (syncD d').safe = overF (lastOf R') d.safe := m2.1
      have hl : (syncD d').safe.length = d.safe.length := by rw [hS, over_len]
      refine ⟨rfl, rfl, hK _ ⟨rfl, m2.2.1, m2.2.2⟩ hfr.2.2 hl, hl, fun q h0 h1 hq => ?_⟩
      show cut (syncD d').safe q = _
      rw [hS, cut_over _ _ _ h0 h1, last_none R' (fun x hx e3 => by have := r1 x hx; omega)]
      rfl
    · exact absurd e2 (by have := hfr.1; omega)
/-- Another disk that has the same room. -/
theorem Lg.frame {d' : DS} (h : Lg b n E W d) (hm : Mid d'.safe [] d') (hf : d'.fuse = -1) (hl : d'.safe.length = d.safe.length) : Lg b n E W d' :=
  ⟨hm, hf, h.ep, h.nn, h.n8, h.base, h.lo, by rw [hl]; exact h.len, by rw [hl]; exact h.fits, h.bd, h.hi, h.full, h.ord, h.nx⟩
theorem bdy_fill (W : WS) (i : Int) (s : ByteArray) (o : Int) (j : Int) : bdy { W with op := o, f := fill W.f i s } j = if j = i then s else bdy W j := by
  unfold bdy fill
  simp only []
  by_cases e : j = i
  · rw [if_pos e, if_pos e]; rfl
  · rw [if_neg e, if_neg e]
theorem print_one (r : S39) (h : (printF r).2 = 0) : 1 ≤ (printF r).1.size := by
  rcases print_may (r := r) with ⟨bs, hb, ho, hp, hm⟩ | ⟨hp, hm⟩
  · rw [hp]
    show 1 ≤ (B bs).size
    have := (rec_len hb).2.2
    rw [← X12.bl_len]
    show 1 ≤ (B bs).data.toList.length
    rw [B_list]; exact this
  · rw [hp] at h; exact absurd h (by decide)
/-- An Append. -/
theorem Lg.app (h : Lg b n E W d) (r : S39) : ∃ p er W', appendW W r = (p, er, W') ∧ Lg b n E W' d ∧ W'.first = W.first ∧ nxL W ≤ nxL W' ∧ (er = 0 → 0 ≤ p ∧ p < nxL W' * 128) := by
  have ho := h.ord; have hnn := h.nn; have hn8 := h.n8; have hnx := h.nx; have hle := nxL_le W
  unfold appendW
  by_cases he : (printF r).2 ≠ 0
  · rw [if_pos he]
    exact ⟨0, 1, W, rfl, h, rfl, Int.le_refl _, fun x => by omega⟩
  · rw [if_neg he]
    have h1 := print_one r (by omega)
    have h2 := print_le r
    generalize (printF r).1 = s at *
    have hK : ∀ (i : Int) (b0 : ByteArray), (i = W.op + 1 ∧ b0 = ⟨#[]⟩ ∧ bdy W W.op ≠ ⟨#[]⟩ ∨ i = W.op ∧ b0 = bdy W W.op) → (b0 ++ s).size ≤ 112 → i ≤ n →
        Lg b n E { W with op := i, f := fill W.f i (b0 ++ s) } d ∧ nxL W ≤ nxL { W with op := i, f := fill W.f i (b0 ++ s) } ∧ nxL { W with op := i, f := fill W.f i (b0 ++ s) } = i + 1 := by
      intro i b0 hc hs hi
      have hb := bdy_fill W i (b0 ++ s) i
      have hne : b0 ++ s ≠ ⟨#[]⟩ := ne_of_size (by rw [ByteArray.size_append]; omega)
      have hn1 : nxL { W with op := i, f := fill W.f i (b0 ++ s) } = i + 1 := by
        refine if_neg ?_
        show bdy { W with op := i, f := fill W.f i (b0 ++ s) } i ≠ _
        rw [hb, if_pos rfl]; exact hne
      have hio : W.op ≤ i ∧ i ≤ W.op + 1 := by rcases hc with ⟨e, _⟩ | ⟨e, _⟩ <;> omega
      refine ⟨⟨h.mid, h.fuse, h.ep, h.nn, h.n8, h.base, h.lo, h.len, h.fits, fun j => ?_, fun j hj => ?_, fun j hj1 hj2 => ?_, ⟨ho.1, ho.2.1, by show W.first ≤ i; omega⟩, by rw [hn1]; omega⟩, by rw [hn1]; omega, hn1⟩
      · rw [hb]
        split
        · exact hs
        · exact h.bd j
      · have hj : i < j := hj
        rw [hb, if_neg (by omega)]
        exact h.hi j (by omega)
      · have hj2 : j < i := hj2
        rw [hb, if_neg (by omega)]
        rcases hc with ⟨e, _, hne2⟩ | ⟨e, _⟩
        · by_cases e2 : j = W.op
          · rw [e2]; exact hne2
          · exact h.full j hj1 (by omega)
        · exact h.full j hj1 (by omega)
    unfold appW
    by_cases hg : bdy W W.op ≠ ⟨#[]⟩ ∧ 112 < (bdy W W.op).size + s.size
    · have hgo : goesW W s.size = (W.op + 1, ⟨#[]⟩) := if_pos hg
      rw [hgo]
      by_cases hfull : W.low + W.n ≤ W.op + 1
      · rw [if_pos ⟨rfl, hfull⟩]
        exact ⟨0, 5, W, rfl, h, rfl, Int.le_refl _, fun x => by omega⟩
      · rw [if_neg (fun x => hfull x.2)]
        obtain ⟨k1, k2, k3⟩ := hK (W.op + 1) ⟨#[]⟩ (.inl ⟨rfl, rfl, hg.1⟩) (by rw [ByteArray.size_append]; have : (⟨#[]⟩ : ByteArray).size = 0 := rfl; omega) (by omega)
        refine ⟨_, 0, _, rfl, k1, rfl, k2, fun _ => ?_⟩
        rw [k3]
        show 0 ≤ (W.op + 1) * 128 + (((⟨#[]⟩ : ByteArray).size : Nat) : Int) ∧ _
        have : (⟨#[]⟩ : ByteArray).size = 0 := rfl
        rw [this]
        omega
    · have hgo : goesW W s.size = (W.op, bdy W W.op) := if_neg hg
      rw [hgo]
      by_cases hfull : bdy W W.op = ⟨#[]⟩ ∧ W.low + W.n ≤ W.op
      · rw [if_pos hfull]
        exact ⟨0, 5, W, rfl, h, rfl, Int.le_refl _, fun x => by omega⟩
      · rw [if_neg hfull]
        have hsz : (bdy W W.op).size + s.size ≤ 112 := by
          by_cases z : bdy W W.op = ⟨#[]⟩
          · rw [z]; have : (⟨#[]⟩ : ByteArray).size = 0 := rfl; omega
          · rcases Nat.lt_or_ge 112 ((bdy W W.op).size + s.size) with h5 | h5
            · exact absurd ⟨z, h5⟩ hg
            · exact h5
        have hin : W.op ≤ n := by
          by_cases z : bdy W W.op = ⟨#[]⟩
          · rcases Int.lt_or_le W.op (W.low + W.n) with h5 | h5
            · omega
            · exact absurd ⟨z, h5⟩ hfull
          · have : nxL W = W.op + 1 := if_neg z
            omega
        obtain ⟨k1, k2, k3⟩ := hK W.op (bdy W W.op) (.inr ⟨rfl, rfl⟩) (by rw [ByteArray.size_append]; exact hsz) hin
        refine ⟨_, 0, _, rfl, k1, rfl, k2, fun _ => ?_⟩
        rw [k3]
        show 0 ≤ W.op * 128 + (((bdy W W.op).size : Nat) : Int) ∧ W.op * 128 + (((bdy W W.op).size : Nat) : Int) < (W.op + 1) * 128
        omega
end
theorem lg_new {b n : Int} {L : Nat} (hn : 8 ≤ n ∧ n ≤ 64) (h0 : 0 ≤ b ∧ b ≤ 900) (hb : b + n ≤ L) (hL : L ≤ 512) : Lg b n 1 (newW b n) (newD L) :=
  ⟨⟨rfl, rfl, rfl⟩, rfl, ⟨Int.le_refl _, Int.le_refl _⟩, rfl, hn, rfl, h0, by simp [newD]; exact hL, by simp [newD]; exact hb, fun _ => Nat.zero_le _, fun _ _ => rfl, fun i h1 h2 => by
    have h1 : (1 : Int) ≤ i := h1
    have h2 : i < (1 : Int) := h2
    omega, ⟨rfl, Int.le_refl _, Int.le_refl _⟩, by show (1 : Int) ≤ n + 1; omega⟩
end Go.Proofs.Ytcelfhoomhmioaa.Wl
