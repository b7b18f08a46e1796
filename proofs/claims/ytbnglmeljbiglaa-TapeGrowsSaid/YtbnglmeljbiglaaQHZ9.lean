import Derived.Defers
import Derived.Test.YtbnglmeljbiglaaQHZ0
import Derived.Test.YtbnglmeljbiglaaQHZ1
import Derived.Test.YtbnglmeljbiglaaQHZ2
import Derived.Test.YtbnglmeljbiglaaQHZ3
import Derived.Test.YtbnglmeljbiglaaQHZ4
import Derived.Test.YtbnglmeljbiglaaQHZ5
import Derived.Test.YtbnglmeljbiglaaQHZ6
import Derived.Test.YtbnglmeljbiglaaQHZ7
import Derived.Test.YtbnglmeljbiglaaQHZ8
set_option maxRecDepth 8192
namespace Go.Proofs.Ytbnglmeljbiglaa.Wr
open Go.Proofs.Ytbnglmeljbiglaa.Rp Go.Proofs.Ytbnglmeljbiglaa.X4
open Go Go.RowKit Go.ChangeMaps Go.Proofs.Ytbnglmeljbiglaa.Arr Go.Proofs.Ytbnglmeljbiglaa.Ow Go.Proofs.YtbnglmeljbiglaaW.PrintWords Go.Proofs.YtbnglmeljbiglaaW.PrintLast Go.Proofs.YtbnglmeljbiglaaW.PrintMore
set_option linter.unusedVariables false
set_option linter.unusedSimpArgs false
theorem rec_calls (g : Nat) (l : List UInt8) (b : Nat) (r : S37) (A9 : Option Addr) (c9 : Nat) (A10 : Option Addr) (c10 : Nat) (S : Nat → Prop) (w : World) (hS : Top S w) (h : WK w S g l) (hb : RB w b r A9 c9 A10 c10) (hSb : ¬ S b) (hl : l.length ≤ 800000) (hz : r.f8.size ≤ 1000000) (h9 : ∀ w', FS S w w' → Kd.C k107 w' A9 r.f9.length r.f9) (h10 : ∀ w', FS S w w' → Kd.C k109 w' A10 r.f10.length r.f10) : Calls Try.prog 65 #[.pointer (some ⟨g, 0, none⟩), .pointer (some ⟨b, 0, none⟩)] w fun x w' => AfterR S g w l r A9 c9 A10 c10 x w' := by
  by_cases h0 : 0 ≤ r.f0 ∧ r.f0 ≤ 6
  · rcases (show r.f0 = 0 ∨ r.f0 = 1 ∨ r.f0 = 2 ∨ r.f0 = 3 ∨ r.f0 = 4 ∨ r.f0 = 5 ∨ r.f0 = 6 by omega) with e | e | e | e | e | e | e
    · exact rec_zero g l b r A9 c9 A10 c10 S w hS h hb hSb hl hz e
    · exact rec_one g l b r A9 c9 A10 c10 S w hS h hb hSb hl hz e
    · exact rec_two g l b r A9 c9 A10 c10 S w hS h hb hSb hl hz e
    · exact rec_three g l b r A9 c9 A10 c10 S w hS h hb hSb hl hz e
    · exact rec_four g l b r A9 c9 A10 c10 S w hS h hb hSb hl hz e
    · exact rec_five g l b r A9 c9 A10 c10 S w hS h hb hSb hl hz e
    · exact rec_six g l b r A9 c9 A10 c10 S w hS h hb hSb hl hz h9 h10 e
  · exact rec_none g l b r A9 c9 A10 c10 S w hS h hb hSb hl hz h0
end Go.Proofs.Ytbnglmeljbiglaa.Wr
set_option maxRecDepth 8192
namespace Go.Proofs.Ytbnglmeljbiglaa.Wr
open Go.Proofs.Ytbnglmeljbiglaa.Rgn
open Go.Proofs.Ytbnglmeljbiglaa.Rp Go.Proofs.Ytbnglmeljbiglaa.X4
open Go Go.RowKit Go.ChangeMaps Go.Proofs.Ytbnglmeljbiglaa.Arr Go.Proofs.Ytbnglmeljbiglaa.Ow Go.Proofs.YtbnglmeljbiglaaW.PrintWords Go.Proofs.YtbnglmeljbiglaaW.PrintLast Go.Proofs.YtbnglmeljbiglaaW.PrintMore
set_option linter.unusedVariables false
set_option linter.unusedSimpArgs false
theorem wk_new (S : Nat → Prop) (w : World) (h : S w.heap.size) : WK (w.alloc (.cells #[.pointer none, .slice none 0 0] TW)) S w.heap.size [] :=
  ⟨.pointer none, .slice none 0 0, heap_alloc_new w _, .inl rfl, Ow.nil _ _ _ _, h⟩
theorem own_f9 (r : S37) : (r.f0 = 6 → (ownR r).f9 = r.f9 ∧ (ownR r).f10 = r.f10) ∧ (r.f0 ≠ 6 → (ownR r).f9 = [] ∧ (ownR r).f10 = []) := by
  constructor
  · intro h6
    have o : ownR r = ⟨6, 0, 0, 0, 0, 0, r.f6, ⟨#[]⟩, ⟨#[]⟩, r.f9, r.f10⟩ := by unfold ownR; rw [if_neg (by omega), if_neg (by omega), if_neg (by omega), if_pos h6]
    rw [o]
    exact ⟨rfl, rfl⟩
  · intro h6
    unfold ownR
    split
    · exact ⟨rfl, rfl⟩
    · split
      · exact ⟨rfl, rfl⟩
      · split
        · exact ⟨rfl, rfl⟩
        · exact ⟨rfl, rfl⟩
theorem own_rows {r : S37} {A9 B9 A10 B10 : Option Addr} {c9 d9 c10 d10 : Nat} (w : World) (hB : (r.f0 = 6 ∧ B9 = A9 ∧ d9 = c9 ∧ B10 = A10 ∧ d10 = c10) ∨ (r.f0 ≠ 6 ∧ B9 = none ∧ d9 = 0 ∧ B10 = none ∧ d10 = 0))
    (h9 : Kd.C k107 w A9 r.f9.length r.f9) (l9 : r.f9.length ≤ c9) (h10 : Kd.C k109 w A10 r.f10.length r.f10) (l10 : r.f10.length ≤ c10) :
    Kd.C k107 w B9 (ownR r).f9.length (ownR r).f9 ∧ (ownR r).f9.length ≤ d9 ∧ Kd.C k109 w B10 (ownR r).f10.length (ownR r).f10 ∧ (ownR r).f10.length ≤ d10 := by
  rcases hB with ⟨h, rfl, rfl, rfl, rfl⟩ | ⟨h, rfl, rfl, rfl, rfl⟩
  · obtain ⟨e1, e2⟩ := (own_f9 r).1 h
    rw [e1, e2]
    exact ⟨h9, l9, h10, l10⟩
  · obtain ⟨e1, e2⟩ := (own_f9 r).2 h
    rw [e1, e2]
    exact ⟨Kd.C_nil _ _, Nat.le_refl _, Kd.C_nil _ _, Nat.le_refl _⟩
theorem same_calls (a b : S37) (A9 : Option Addr) (c9 : Nat) (A10 : Option Addr) (c10 : Nat) (B9 : Option Addr) (d9 : Nat) (B10 : Option Addr) (d10 : Nat) (w : World)
    (h9 : Kd.C k107 w A9 a.f9.length a.f9) (l9 : a.f9.length ≤ c9) (h10 : Kd.C k109 w A10 a.f10.length a.f10) (l10 : a.f10.length ≤ c10) (g9 : Kd.C k107 w B9 b.f9.length b.f9) (m9 : b.f9.length ≤ d9) (g10 : Kd.C k109 w B10 b.f10.length b.f10) (m10 : b.f10.length ≤ d10) (s9 : a.f9.length ≤ 1000000) (s10 : a.f10.length ≤ 1000000) :
    Calls Try.prog 64 #[aggR a A9 c9 A10 c10, aggR b B9 d9 B10 d10] w fun e w' => e = .returned (.bool (decide (a = b))) ∧ Below w.heap.size w w' :=
  Sa.same_calls a b A9 c9 A10 c10 B9 d9 B10 d10 w h9 h10 g9 g10 s9 s10
set_option maxHeartbeats 4000000 in
theorem print_calls (r : S37) (A9 : Option Addr) (c9 : Nat) (A10 : Option Addr) (c10 : Nat) (w : World) (h9 : Kd.C k107 w A9 r.f9.length r.f9) (l9 : r.f9.length ≤ c9) (h10 : Kd.C k109 w A10 r.f10.length r.f10) (l10 : r.f10.length ≤ c10) (hz : r.f8.size ≤ 1000000) :
    Calls Try.prog 46 #[.agg #[.int .i64 r.f0, .int .i64 r.f1, .int .i64 r.f2, .int .i64 r.f3, .int .i64 r.f4, .int .i64 r.f5, .int .i64 r.f6, .string r.f7, .string r.f8, .slice A9 r.f9.length c9, .slice A10 r.f10.length c10]] w fun e w' => e = .returned (.tuple #[.string (printF r).1, .int .i64 (printF r).2]) ∧ Below w.heap.size w w' := by
  have H9 := Aside0.mk h9; have H10 := Aside0.mk h10; have HZ := Aside0.mk hz; have L9 := Aside0.mk l9; have L10 := Aside0.mk l10
  clear h9 h10 hz l9 l10
  go_enter_defers Try.func46, Try.ntmps46
  go_upto_region 3 with (fail)
  obtain ⟨W0, hW0, HBZ0, HBR0, HBE0, HWK0, HTS0⟩ : ∃ W0, W0 = (((w.alloc (.cells #[.int .i64 r.f0, .int .i64 r.f1, .int .i64 r.f2, .int .i64 r.f3, .int .i64 r.f4, .int .i64 r.f5, .int .i64 r.f6, .string r.f7, .string r.f8, .slice A9 r.f9.length c9, .slice A10 r.f10.length c10] 37)).alloc (.cells #[.int .i64 0] TE)).alloc (.cells #[.pointer none, .slice none 0 0] TW)) ∧ Below w.heap.size w W0 ∧ RB W0 w.heap.size r A9 c9 A10 c10 ∧ W0.heap[w.heap.size + 1]? = some (.cells #[.int .i64 0] TE (0, 0)) ∧ WK W0 (fun k => w.heap.size + 1 + 1 ≤ k) (w.heap.size + 1 + 1) [] ∧ Top (fun k => w.heap.size + 1 + 1 ≤ k) W0 := by
    refine ⟨_, rfl, ?_, ?_, ?_, ?_, ?_⟩
    · exact (((Below.refl _ _).alloc (Nat.le_refl _) _).alloc (by simp) _).alloc (by simp; omega) _
    · exact blk_below (blk_below (heap_alloc_new w _) ((Below.refl _ _).alloc (Nat.le_refl _) _)) ((Below.refl _ _).alloc (Nat.le_refl _) _)
    · have h := heap_alloc_new (w.alloc (.cells #[.int .i64 r.f0, .int .i64 r.f1, .int .i64 r.f2, .int .i64 r.f3, .int .i64 r.f4, .int .i64 r.f5, .int .i64 r.f6, .string r.f7, .string r.f8, .slice A9 r.f9.length c9, .slice A10 r.f10.length c10] 37)) (.cells #[.int .i64 0] TE)
      rw [show (w.alloc (.cells #[.int .i64 r.f0, .int .i64 r.f1, .int .i64 r.f2, .int .i64 r.f3, .int .i64 r.f4, .int .i64 r.f5, .int .i64 r.f6, .string r.f7, .string r.f8, .slice A9 r.f9.length c9, .slice A10 r.f10.length c10] 37)).heap.size = w.heap.size + 1 by simp] at h
      exact blk_below h ((Below.refl _ _).alloc (Nat.le_refl _) _)
    · have h := wk_new (fun k => w.heap.size + 1 + 1 ≤ k) ((w.alloc (.cells #[.int .i64 r.f0, .int .i64 r.f1, .int .i64 r.f2, .int .i64 r.f3, .int .i64 r.f4, .int .i64 r.f5, .int .i64 r.f6, .string r.f7, .string r.f8, .slice A9 r.f9.length c9, .slice A10 r.f10.length c10] 37)).alloc (.cells #[.int .i64 0] TE)) (by simp)
      rw [show ((w.alloc (.cells #[.int .i64 r.f0, .int .i64 r.f1, .int .i64 r.f2, .int .i64 r.f3, .int .i64 r.f4, .int .i64 r.f5, .int .i64 r.f6, .string r.f7, .string r.f8, .slice A9 r.f9.length c9, .slice A10 r.f10.length c10] 37)).alloc (.cells #[.int .i64 0] TE)).heap.size = w.heap.size + 1 + 1 by simp] at h
      exact h
    · intro k hk
      simp at hk
      show w.heap.size + 1 + 1 ≤ k
      omega
  rw [← hW0]
  clear hW0
  have HB0 := Aside0.mk (HBZ0.trans ((Below.refl _ W0).drew)); have HBR := Aside0.mk (show RB W0.drew w.heap.size r A9 c9 A10 c10 from HBR0); have HBE0 := Aside0.mk (show W0.drew.heap[w.heap.size + 1]? = some (.cells #[.int .i64 0] TE (0, 0)) from HBE0); have HWK := Aside0.mk HWK0.drew; have HTS := Aside0.mk (show Top (fun k => w.heap.size + 1 + 1 ≤ k) W0.drew from HTS0)
  clear HBZ0 HBR0 HWK0 HTS0
  obtain ⟨z0, z1, z2, z3, z4, z5, z6, z7, z8, z9, z10⟩ := cells11 W0.drew (w.heap.size) HBR.out.at
  cases hp : recP r with
  | none =>
    have HP := Aside0.mk hp; clear hp
    refine start_ (n := 5) (S := fun w' => w'.cell? ⟨w.heap.size, 0, none⟩ = some (.int .i64 r.f0) ∧ w'.cell? ⟨w.heap.size, 1, none⟩ = some (.int .i64 r.f1) ∧ w'.cell? ⟨w.heap.size, 2, none⟩ = some (.int .i64 r.f2) ∧ w'.cell? ⟨w.heap.size, 3, none⟩ = some (.int .i64 r.f3) ∧ w'.cell? ⟨w.heap.size, 4, none⟩ = some (.int .i64 r.f4) ∧ w'.cell? ⟨w.heap.size, 5, none⟩ = some (.int .i64 r.f5) ∧ w'.cell? ⟨w.heap.size, 6, none⟩ = some (.int .i64 r.f6) ∧ w'.cell? ⟨w.heap.size, 7, none⟩ = some (.string r.f7) ∧ w'.cell? ⟨w.heap.size, 8, none⟩ = some (.string r.f8) ∧ w'.cell? ⟨w.heap.size, 9, none⟩ = some (.slice A9 r.f9.length c9) ∧ w'.cell? ⟨w.heap.size, 10, none⟩ = some (.slice A10 r.f10.length c10)) (ds := []) #[false, false, false, false, false] (by kernel_rfl) rfl rfl ⟨z0, z1, z2, z3, z4, z5, z6, z7, z8, z9, z10⟩ (fun hHeld => ?_)
    refine rgp 0 7 ?_ (hi := rfl) (hN := rfl) (hQ := fun _ _ _ h => bp_print _ (by decide) _ _ _ _ h)
    refine rgt 2 9 hHeld ?_ (hi := rfl) (hN := rfl) (hQ := fun _ _ _ h => bp_print _ (by decide) _ _ _ _ h)
    refine one_ (i := 1) (N := some 8) #[true, true, true, false, false] rfl rfl (by kernel_rfl) (by decide) (fun K hK => ?_)
    generalize W0.drew = X0_ at *
    refine goesP_ Try.func65 (by kernel_rfl) rfl #[.pointer (some ⟨w.heap.size + 1 + 1, 0, none⟩), .pointer (some ⟨w.heap.size, 0, none⟩)] (by rfl) rfl rfl (by (try simp only [List.map_toArray, List.map_cons, List.map_nil]); first | done | rfl) ?_
    refine (rec_calls (w.heap.size + 1 + 1) [] w.heap.size r A9 c9 A10 c10 (fun k => w.heap.size + 1 + 1 ≤ k) X0_ HTS.out HWK.out HBR.out (by omega) (by simp) HZ.out (fun w' hf => Kd.C_below H9.out (hf.to_below HB0.out (fun k hk => by omega))) (fun w' hf => Kd.C_below H10.out (hf.to_below HB0.out (fun k hk => by omega)))).mono ?_
    rintro e w9 hx
    unfold AfterR at hx
    rw [HP.out] at hx
    obtain ⟨rfl, hf⟩ := hx
    have HBE := Aside0.mk (hf.old HBE0.out (show ¬ w.heap.size + 1 + 1 ≤ w.heap.size + 1 by omega)); have HBZ := Aside0.mk (hf.to_below HB0.out (fun k hk => by omega))
    have HPF := Aside0.mk (show printF r = (⟨#[]⟩, 1) by unfold printF; rw [HP.out])
    clear hf
    refine Or.inr ⟨_, rfl, ?_⟩
    refine leaves_cons (f := 62) (args := #[.pointer (some ⟨w.heap.size + 1, 0, none⟩)]) (by simp) (by simp [go_sem]) ?_
    refine (caught_up ⟨w.heap.size + 1, 0, none⟩ 0 1 [] _ (blk_cell HBE.out 0) (blk_frozen HBE.out 0)).mono ?_
    rintro e u' w'' ⟨rfl, rfl, rfl⟩
    have hb := HBZ.out.setCell (p := ⟨w.heap.size + 1, 0, none⟩) (show w.heap.size ≤ w.heap.size + 1 by omega) (.int .i64 1)
    have hc1 : _ = some (Value.int .i64 1) := blk_cell (set_blk HBE.out 0 (.int .i64 1)) 0
    rw [HPF.out]
    refine ⟨.tuple #[.string ⟨#[]⟩, .int .i64 1], ?_, rfl, hb⟩
    simp [results, Try.results46, go_sem, hc1]
  | some bs =>
  have HP := Aside0.mk hp; have HNE := Aside0.mk (rec_ne hp); have HOS := Aside0.mk (show (ownR r).f9.length ≤ 1000000 ∧ (ownR r).f10.length ≤ 1000000 from by have := own_small hp; omega); clear hp
  by_cases hs : ownR r = r
  rotate_left
  · have HSD := Aside0.mk (show decide (ownR r = r) = false from decide_eq_false hs)
    have HPF := Aside0.mk (show printF r = (⟨#[]⟩, 1) by unfold printF; rw [HP.out]; simp only; rw [if_neg hs])
    clear hs
    refine start_ (n := 5) (S := fun w' => w'.cell? ⟨w.heap.size, 0, none⟩ = some (.int .i64 r.f0) ∧ w'.cell? ⟨w.heap.size, 1, none⟩ = some (.int .i64 r.f1) ∧ w'.cell? ⟨w.heap.size, 2, none⟩ = some (.int .i64 r.f2) ∧ w'.cell? ⟨w.heap.size, 3, none⟩ = some (.int .i64 r.f3) ∧ w'.cell? ⟨w.heap.size, 4, none⟩ = some (.int .i64 r.f4) ∧ w'.cell? ⟨w.heap.size, 5, none⟩ = some (.int .i64 r.f5) ∧ w'.cell? ⟨w.heap.size, 6, none⟩ = some (.int .i64 r.f6) ∧ w'.cell? ⟨w.heap.size, 7, none⟩ = some (.string r.f7) ∧ w'.cell? ⟨w.heap.size, 8, none⟩ = some (.string r.f8) ∧ w'.cell? ⟨w.heap.size, 9, none⟩ = some (.slice A9 r.f9.length c9) ∧ w'.cell? ⟨w.heap.size, 10, none⟩ = some (.slice A10 r.f10.length c10)) (ds := []) #[false, false, false, false, false] (by kernel_rfl) rfl rfl ⟨z0, z1, z2, z3, z4, z5, z6, z7, z8, z9, z10⟩ (fun hHeld => ?_)
    refine rgp 0 7 ?_ (hi := rfl) (hN := rfl) (hQ := fun _ _ _ h => bp_print _ (by decide) _ _ _ _ h)
    refine rgt 2 9 hHeld ?_ (hi := rfl) (hN := rfl) (hQ := fun _ _ _ h => bp_print _ (by decide) _ _ _ _ h)
    refine one_ (i := 1) (N := some 8) #[true, true, true, false, false] rfl rfl (by kernel_rfl) (by decide) (fun K hK => ?_)
    generalize W0.drew = X0_ at *
    refine goes_ Try.func65 (by kernel_rfl) rfl #[.pointer (some ⟨w.heap.size + 1 + 1, 0, none⟩), .pointer (some ⟨w.heap.size, 0, none⟩)] (by rfl) rfl rfl (by (try simp only [List.map_toArray, List.map_cons, List.map_nil]); first | done | rfl) ?_
    refine (rec_calls (w.heap.size + 1 + 1) [] w.heap.size r A9 c9 A10 c10 (fun k => w.heap.size + 1 + 1 ≤ k) X0_ HTS.out HWK.out HBR.out (by omega) (by simp) HZ.out (fun w' hf => Kd.C_below H9.out (hf.to_below HB0.out (fun k hk => by omega))) (fun w' hf => Kd.C_below H10.out (hf.to_below HB0.out (fun k hk => by omega)))).mono ?_
    rintro e v1_ hx
    unfold AfterR at hx
    rw [HP.out] at hx
    obtain ⟨⟨B9, d9, B10, d10, rfl, hB⟩, hk, hf⟩ := hx
    refine ⟨_, rfl, ?_⟩
    have F := Aside0.mk hf; have HK := Aside0.mk hk
    have HOW := Aside0.mk (own_rows v1_ hB (Kd.C_below H9.out (F.out.to_below HB0.out (fun k hk => by omega))) L9.out (Kd.C_below H10.out (F.out.to_below HB0.out (fun k hk => by omega))) L10.out)
    clear hB hk hf HWK
    have HBR2 := F.out.old HBR.out (show ¬ w.heap.size + 1 + 1 ≤ w.heap.size by omega)
    refine hK _ _ ⟨blk_cell (w := v1_) HBR2 0, blk_cell (w := v1_) HBR2 1, blk_cell (w := v1_) HBR2 2, blk_cell (w := v1_) HBR2 3, blk_cell (w := v1_) HBR2 4, blk_cell (w := v1_) HBR2 5, blk_cell (w := v1_) HBR2 6, blk_cell (w := v1_) HBR2 7, blk_cell (w := v1_) HBR2 8, blk_cell (w := v1_) HBR2 9, blk_cell (w := v1_) HBR2 10⟩ (fun hHeld => ?_)
    clear hK K HBR2
    refine norm_ (a' := ?_) ?_ ?_
    rotate_left
    · show Act.put _ (some 8) _ = _
      simp only [Act.put, List.setIfInBounds_toArray, List.set_cons_zero, List.set_cons_succ, i64_w, i32_w]
      rfl
    refine one_ (i := 3) (N := some 10) #[true, true, true, true, false] rfl rfl (by kernel_rfl) (by decide) (fun K hK => ?_)
    refine goes_ Try.func64 (by kernel_rfl) rfl #[aggR (ownR r) B9 d9 B10 d10, aggR r A9 c9 A10 c10] (by rfl) rfl rfl (by (try simp only [List.map_toArray, List.map_cons, List.map_nil]); first | done | rfl) ?_
    refine (same_calls (ownR r) r B9 d9 B10 d10 A9 c9 A10 c10 _ HOW.out.1 HOW.out.2.1 HOW.out.2.2.1 HOW.out.2.2.2 (Kd.C_below H9.out (F.out.to_below HB0.out (fun k hk => by omega))) L9.out (Kd.C_below H10.out (F.out.to_below HB0.out (fun k hk => by omega))) L10.out HOS.out.1 HOS.out.2).mono ?_
    rintro e v2_ ⟨rfl, hb1⟩
    refine ⟨_, rfl, ?_⟩
    have F_n := Aside0.mk (F.out.below hb1)
    have HK_n := Aside0.mk (HK.out.below hb1)
    clear F HK hb1
    have F := F_n; have HK := HK_n; clear F_n HK_n
    have HBR2 := F.out.old HBR.out (show ¬ w.heap.size + 1 + 1 ≤ w.heap.size by omega)
    rw [HSD.out]
    refine hK _ _ ⟨blk_cell (w := v2_) HBR2 0, blk_cell (w := v2_) HBR2 1, blk_cell (w := v2_) HBR2 2, blk_cell (w := v2_) HBR2 3, blk_cell (w := v2_) HBR2 4, blk_cell (w := v2_) HBR2 5, blk_cell (w := v2_) HBR2 6, blk_cell (w := v2_) HBR2 7, blk_cell (w := v2_) HBR2 8, blk_cell (w := v2_) HBR2 9, blk_cell (w := v2_) HBR2 10⟩ (fun hHeld => ?_)
    clear hK K HBR2
    refine norm_ (a' := ?_) ?_ ?_
    rotate_left
    · show Act.put _ (some 10) _ = _
      simp only [Act.put, List.setIfInBounds_toArray, List.set_cons_zero, List.set_cons_succ, i64_w, i32_w]
      rfl
    refine one_ (i := 4) (N := some 11) #[true, true, true, true, true] rfl rfl (by kernel_rfl) (by decide) (fun K hK => ?_)
    refine goesP_ Try.func63 (by kernel_rfl) rfl #[.bool false, .int .i64 1] (by rfl) rfl rfl (by (try simp only [List.map_toArray, List.map_cons, List.map_nil]); first | done | rfl) ?_
    refine (must_no 1 _).mono ?_
    rintro e w9 ⟨rfl, hw⟩
    replace hw := hw.symm
    subst hw
    have HBE := Aside0.mk (F.out.old HBE0.out (show ¬ w.heap.size + 1 + 1 ≤ w.heap.size + 1 by omega)); have HBZ := Aside0.mk (F.out.to_below HB0.out (fun k hk => by omega))
    refine Or.inr ⟨_, rfl, ?_⟩
    refine leaves_cons (f := 62) (args := #[.pointer (some ⟨w.heap.size + 1, 0, none⟩)]) (by simp) (by simp [go_sem]) ?_
    refine (caught_up ⟨w.heap.size + 1, 0, none⟩ 0 1 [] _ (blk_cell HBE.out 0) (blk_frozen HBE.out 0)).mono ?_
    rintro e u' w'' ⟨rfl, rfl, rfl⟩
    have hb := HBZ.out.setCell (p := ⟨w.heap.size + 1, 0, none⟩) (show w.heap.size ≤ w.heap.size + 1 by omega) (.int .i64 1)
    have hc1 : _ = some (Value.int .i64 1) := blk_cell (set_blk HBE.out 0 (.int .i64 1)) 0
    rw [HPF.out]
    refine ⟨.tuple #[.string ⟨#[]⟩, .int .i64 1], ?_, rfl, hb⟩
    simp [results, Try.results46, go_sem, hc1]
  have HSD := Aside0.mk (show decide (ownR r = r) = true from decide_eq_true hs)
  have HPF := Aside0.mk (show printF r = (⟨bs.toArray⟩, 0) by unfold printF; rw [HP.out]; simp only; rw [if_pos hs])
  clear hs
  refine start_ (n := 5) (S := fun w' => w'.cell? ⟨w.heap.size, 0, none⟩ = some (.int .i64 r.f0) ∧ w'.cell? ⟨w.heap.size, 1, none⟩ = some (.int .i64 r.f1) ∧ w'.cell? ⟨w.heap.size, 2, none⟩ = some (.int .i64 r.f2) ∧ w'.cell? ⟨w.heap.size, 3, none⟩ = some (.int .i64 r.f3) ∧ w'.cell? ⟨w.heap.size, 4, none⟩ = some (.int .i64 r.f4) ∧ w'.cell? ⟨w.heap.size, 5, none⟩ = some (.int .i64 r.f5) ∧ w'.cell? ⟨w.heap.size, 6, none⟩ = some (.int .i64 r.f6) ∧ w'.cell? ⟨w.heap.size, 7, none⟩ = some (.string r.f7) ∧ w'.cell? ⟨w.heap.size, 8, none⟩ = some (.string r.f8) ∧ w'.cell? ⟨w.heap.size, 9, none⟩ = some (.slice A9 r.f9.length c9) ∧ w'.cell? ⟨w.heap.size, 10, none⟩ = some (.slice A10 r.f10.length c10)) (ds := []) #[false, false, false, false, false] (by kernel_rfl) rfl rfl ⟨z0, z1, z2, z3, z4, z5, z6, z7, z8, z9, z10⟩ (fun hHeld => ?_)
  refine rgp 0 7 ?_ (hi := rfl) (hN := rfl) (hQ := fun _ _ _ h => bp_print _ (by decide) _ _ _ _ h)
  refine rgt 2 9 hHeld ?_ (hi := rfl) (hN := rfl) (hQ := fun _ _ _ h => bp_print _ (by decide) _ _ _ _ h)
  refine one_ (i := 1) (N := some 8) #[true, true, true, false, false] rfl rfl (by kernel_rfl) (by decide) (fun K hK => ?_)
  generalize W0.drew = X0_ at *
  refine goes_ Try.func65 (by kernel_rfl) rfl #[.pointer (some ⟨w.heap.size + 1 + 1, 0, none⟩), .pointer (some ⟨w.heap.size, 0, none⟩)] (by rfl) rfl rfl (by (try simp only [List.map_toArray, List.map_cons, List.map_nil]); first | done | rfl) ?_
  refine (rec_calls (w.heap.size + 1 + 1) [] w.heap.size r A9 c9 A10 c10 (fun k => w.heap.size + 1 + 1 ≤ k) X0_ HTS.out HWK.out HBR.out (by omega) (by simp) HZ.out (fun w' hf => Kd.C_below H9.out (hf.to_below HB0.out (fun k hk => by omega))) (fun w' hf => Kd.C_below H10.out (hf.to_below HB0.out (fun k hk => by omega)))).mono ?_
  rintro e v1_ hx
  unfold AfterR at hx
  rw [HP.out] at hx
  obtain ⟨⟨B9, d9, B10, d10, rfl, hB⟩, hk, hf⟩ := hx
  refine ⟨_, rfl, ?_⟩
  have F := Aside0.mk hf; have HK := Aside0.mk hk
  have HOW := Aside0.mk (own_rows v1_ hB (Kd.C_below H9.out (F.out.to_below HB0.out (fun k hk => by omega))) L9.out (Kd.C_below H10.out (F.out.to_below HB0.out (fun k hk => by omega))) L10.out)
  clear hB hk hf HWK
  have HBR2 := F.out.old HBR.out (show ¬ w.heap.size + 1 + 1 ≤ w.heap.size by omega)
  refine hK _ _ ⟨blk_cell (w := v1_) HBR2 0, blk_cell (w := v1_) HBR2 1, blk_cell (w := v1_) HBR2 2, blk_cell (w := v1_) HBR2 3, blk_cell (w := v1_) HBR2 4, blk_cell (w := v1_) HBR2 5, blk_cell (w := v1_) HBR2 6, blk_cell (w := v1_) HBR2 7, blk_cell (w := v1_) HBR2 8, blk_cell (w := v1_) HBR2 9, blk_cell (w := v1_) HBR2 10⟩ (fun hHeld => ?_)
  clear hK K HBR2
  refine norm_ (a' := ?_) ?_ ?_
  rotate_left
  · show Act.put _ (some 8) _ = _
    simp only [Act.put, List.setIfInBounds_toArray, List.set_cons_zero, List.set_cons_succ, i64_w, i32_w]
    rfl
  refine one_ (i := 3) (N := some 10) #[true, true, true, true, false] rfl rfl (by kernel_rfl) (by decide) (fun K hK => ?_)
  refine goes_ Try.func64 (by kernel_rfl) rfl #[aggR (ownR r) B9 d9 B10 d10, aggR r A9 c9 A10 c10] (by rfl) rfl rfl (by (try simp only [List.map_toArray, List.map_cons, List.map_nil]); first | done | rfl) ?_
  refine (same_calls (ownR r) r B9 d9 B10 d10 A9 c9 A10 c10 _ HOW.out.1 HOW.out.2.1 HOW.out.2.2.1 HOW.out.2.2.2 (Kd.C_below H9.out (F.out.to_below HB0.out (fun k hk => by omega))) L9.out (Kd.C_below H10.out (F.out.to_below HB0.out (fun k hk => by omega))) L10.out HOS.out.1 HOS.out.2).mono ?_
  rintro e v2_ ⟨rfl, hb1⟩
  refine ⟨_, rfl, ?_⟩
  have F_n := Aside0.mk (F.out.below hb1)
  have HK_n := Aside0.mk (HK.out.below hb1)
  clear F HK hb1
  have F := F_n; have HK := HK_n; clear F_n HK_n
  have HBR2 := F.out.old HBR.out (show ¬ w.heap.size + 1 + 1 ≤ w.heap.size by omega)
  rw [HSD.out]
  refine hK _ _ ⟨blk_cell (w := v2_) HBR2 0, blk_cell (w := v2_) HBR2 1, blk_cell (w := v2_) HBR2 2, blk_cell (w := v2_) HBR2 3, blk_cell (w := v2_) HBR2 4, blk_cell (w := v2_) HBR2 5, blk_cell (w := v2_) HBR2 6, blk_cell (w := v2_) HBR2 7, blk_cell (w := v2_) HBR2 8, blk_cell (w := v2_) HBR2 9, blk_cell (w := v2_) HBR2 10⟩ (fun hHeld => ?_)
  clear hK K HBR2
  refine norm_ (a' := ?_) ?_ ?_
  rotate_left
  · show Act.put _ (some 10) _ = _
    simp only [Act.put, List.setIfInBounds_toArray, List.set_cons_zero, List.set_cons_succ, i64_w, i32_w]
    rfl
  refine one_ (i := 4) (N := some 11) #[true, true, true, true, true] rfl rfl (by kernel_rfl) (by decide) (fun K hK => ?_)
  refine goes_ Try.func63 (by kernel_rfl) rfl #[.bool true, .int .i64 1] (by rfl) rfl rfl (by (try simp only [List.map_toArray, List.map_cons, List.map_nil]); first | done | rfl) ?_
  refine (must_yes 1 _).mono ?_
  rintro e w9 ⟨rfl, hw⟩
  replace hw := hw.symm
  subst hw
  refine ⟨_, rfl, ?_⟩
  refine hK _ _ hHeld (fun hHeld => ?_)
  clear hK K
  refine norm_ (a' := ?_) ?_ ?_
  rotate_left
  · show Act.put _ (some 11) _ = _
    simp only [Act.put, List.setIfInBounds_toArray, List.set_cons_zero, List.set_cons_succ, i64_w, i32_w]
    rfl
  refine done_ (by kernel_rfl) ?_
  clear z0 z1 z2 z3 z4 z5 z6 z7 z8 z9 z10
  have HX := Aside0.mk F.out
  simp only [Exit.then]
  have HBE := Aside0.mk (F.out.old HBE0.out (show ¬ w.heap.size + 1 + 1 ≤ w.heap.size + 1 by omega)); have HBZ := Aside0.mk (F.out.to_below HB0.out (fun k hk => by omega))
  clear F HX hHeld
  go_wp2_with (go_at_call 66; (with_reducible refine (string_calls (w.heap.size + 1 + 1) ([] ++ bs) (fun k => w.heap.size + 1 + 1 ≤ k) _ HK.out (by simpa using HNE.out)).mono ?_); rintro e w5 ⟨rfl, hf⟩; have HBE5 := Aside0.mk (hf.old HBE.out (show ¬ w.heap.size + 1 + 1 ≤ w.heap.size + 1 by omega)); have HBZ5 := Aside0.mk (hf.to_below HBZ.out (fun k hk => by omega)); clear hf; have y0 : w5.cell? ⟨w.heap.size + 1, 0, none⟩ = some (.int .i64 0) := blk_cell HBE5.out 0; have f0 := blk_frozen HBE5.out 0)
  refine leaves_cons (f := 62) (args := #[.pointer (some ⟨w.heap.size + 1, 0, none⟩)]) (by simp) (by simp [go_sem]) ?_
  refine (caught_idle ⟨w.heap.size + 1, 0, none⟩ _).mono ?_
  rintro e u' w'' ⟨rfl, rfl, rfl⟩
  have hb := HBZ5.out.setCell (p := ⟨w.heap.size + 1, 0, none⟩) (show w.heap.size ≤ w.heap.size + 1 by omega) (.int .i64 0)
  have hc1 : _ = some (Value.int .i64 0) := blk_cell (set_blk HBE5.out 0 (.int .i64 0)) 0
  rw [HPF.out]
  refine ⟨.tuple #[.string ⟨bs.toArray⟩, .int .i64 0], ?_, rfl, hb⟩
  simp [results, Try.results46, go_sem, hc1]
end Go.Proofs.Ytbnglmeljbiglaa.Wr
set_option maxRecDepth 8192
namespace Go.Proofs.Ytbnglmeljbiglaa.Wr
open Go.Proofs.Ytbnglmeljbiglaa.Rgn
open Go.Proofs.Ytbnglmeljbiglaa.Rp Go.Proofs.Ytbnglmeljbiglaa.X4
open Go Go.RowKit Go.ChangeMaps Go.Proofs.Ytbnglmeljbiglaa.Arr Go.Proofs.Ytbnglmeljbiglaa.Ow Go.Proofs.YtbnglmeljbiglaaW.PrintWords Go.Proofs.YtbnglmeljbiglaaW.PrintLast Go.Proofs.YtbnglmeljbiglaaW.PrintMore
set_option linter.unusedVariables false
set_option linter.unusedSimpArgs false
theorem rsame_calls (a b : S37) (A9 : Option Addr) (c9 : Nat) (A10 : Option Addr) (c10 : Nat) (B9 : Option Addr) (d9 : Nat) (B10 : Option Addr) (d10 : Nat) (w : World)
    (h9 : Kd.C k107 w A9 a.f9.length a.f9) (l9 : a.f9.length ≤ c9) (h10 : Kd.C k109 w A10 a.f10.length a.f10) (l10 : a.f10.length ≤ c10) (g9 : Kd.C k107 w B9 b.f9.length b.f9) (m9 : b.f9.length ≤ d9) (g10 : Kd.C k109 w B10 b.f10.length b.f10) (m10 : b.f10.length ≤ d10) (s9 : a.f9.length ≤ 1000000) (s10 : a.f10.length ≤ 1000000) :
    Calls Try.prog 28 #[aggR a A9 c9 A10 c10, aggR b B9 d9 B10 d10] w fun e w' => e = .returned (.bool (decide (a = b))) ∧ Below w.heap.size w w' :=
  Sa.rsame_calls a b A9 c9 A10 c10 B9 d9 B10 d10 w h9 h10 g9 g10 s9 s10
/-- The walk's worlds: two copies of a record. -/
structure MY (w0 w : World) (r : S37) (A9 : Option Addr) (c9 : Nat) (A10 : Option Addr) (c10 : Nat) : Prop where
  below : Below w0.heap.size w0 w
  b0 : RB w w0.heap.size r A9 c9 A10 c10
  b1 : RB w (w0.heap.size + 1) r A9 c9 A10 c10
  r9 : Kd.C k107 w A9 r.f9.length r.f9
  l9 : r.f9.length ≤ c9
  r10 : Kd.C k109 w A10 r.f10.length r.f10
  l10 : r.f10.length ≤ c10
  s9 : r.f9.length ≤ 1000000
  s10 : r.f10.length ≤ 1000000
section
variable {w0 w w' : World} {r : S37} {A9 : Option Addr} {c9 : Nat} {A10 : Option Addr} {c10 : Nat}
theorem MY.next (h : MY w0 w r A9 c9 A10 c10) (hb : Below w.heap.size w w') : MY w0 w' r A9 c9 A10 c10 :=
  ⟨h.below.trans (hb.mono h.below.size), blk_below h.b0 hb, blk_below h.b1 hb, Kd.C_below h.r9 hb, h.l9, Kd.C_below h.r10 hb, h.l10, h.s9, h.s10⟩
theorem MY.alloc (h : MY w0 w r A9 c9 A10 c10) (ob : Obj) (hb : Below (w.alloc ob).heap.size (w.alloc ob) w') : MY w0 w' r A9 c9 A10 c10 := (h.next ((Below.refl _ _).alloc (Nat.le_refl _) ob)).next hb
theorem MY.drew (h : MY w0 w r A9 c9 A10 c10) : MY w0 w.drew r A9 c9 A10 c10 := h.next ((Below.refl _ _).drew)
theorem MY.same (h : MY w0 w r A9 c9 A10 c10) (b : S37) (B9 : Option Addr) (d9 : Nat) (B10 : Option Addr) (d10 : Nat) (g9 : Kd.C k107 w B9 b.f9.length b.f9) (m9 : b.f9.length ≤ d9) (g10 : Kd.C k109 w B10 b.f10.length b.f10) (m10 : b.f10.length ≤ d10) :
    Calls Try.prog 28 #[aggR r A9 c9 A10 c10, aggR b B9 d9 B10 d10] w fun e w' => e = .returned (.bool (decide (r = b))) ∧ Below w.heap.size w w' := rsame_calls r b A9 c9 A10 c10 B9 d9 B10 d10 w h.r9 h.l9 h.r10 h.l10 g9 m9 g10 m10 h.s9 h.s10
end
end Go.Proofs.Ytbnglmeljbiglaa.Wr
