import Derived.Test.YtcfknakmamcinaaQEZ0
import Derived.Test.YtcfknakmamcinaaQEZ1
import Derived.Test.YtcfknakmamcinaaQEZ2
import Derived.Test.YtcfknakmamcinaaQEZ5
namespace Go.Proofs.Ytcfknakmamcinaa.Wr
open Go.Proofs.Ytcfknakmamcinaa.Rp Go.Proofs.Ytcfknakmamcinaa.X4
open Go Go.RowKit Go.ChangeMaps Go.Proofs.Ytcfknakmamcinaa.Arr Go.Proofs.Ytcfknakmamcinaa.Ow Go.Proofs.YtcfknakmamcinaaW.PrintWords Go.Proofs.YtcfknakmamcinaaW.PrintLast Go.Proofs.YtcfknakmamcinaaW.PrintMore
set_option linter.unusedVariables false
set_option linter.unusedSimpArgs false
def Less (S : Nat → Prop) (b : Nat) : Nat → Prop := fun k => S k ∧ k ≠ b
theorem top_less {S : Nat → Prop} {w : World} (h : Top S w) (o : Obj) : Top (Less S w.heap.size) (w.alloc o) := fun k hk => by
  have : w.heap.size + 1 ≤ k := by simpa using hk
  exact ⟨h k (by omega), by omega⟩
theorem wk_less {S : Nat → Prop} {w : World} {g : Nat} {l : List UInt8} (h : WK w S g l) (o : Obj) : WK (w.alloc o) (Less S w.heap.size) g l :=
  (h.mono fun k hk e => ⟨e, Nat.ne_of_lt hk⟩).below ((Below.refl _ _).alloc (Nat.le_refl _) o)
theorem WK.more {S : Nat → Prop} {w : World} {g b : Nat} {l : List UInt8} (h : WK w (Less S b) g l) : WK w S g l := h.mono fun k _ e => e.1
theorem FS.more {S : Nat → Prop} {w w' : World} {b : Nat} (h : FS (Less S b) w w') : FS S w w' := FS.mono h fun k _ e => e.1
theorem After.fresh {S : Nat → Prop} {g : Nat} {w w' : World} {l : List UInt8} {o : Option (List UInt8)} {x : Ending} {ob : Obj} (h : After (Less S w.heap.size) g (w.alloc ob) l o x w') : After S g w l o x w' := by
  have hf : ∀ w', FS (Less S w.heap.size) (w.alloc ob) w' → FS S w w' := fun w' h => ((FS.refl S w).alloc ob).trans (FS.more h)
  cases o with
  | none => exact ⟨h.1, hf _ h.2⟩
  | some bs => exact ⟨h.1, h.2.1.more, hf _ h.2.2⟩
theorem not_less (S : Nat → Prop) (b : Nat) : ¬ Less S b b := fun h => h.2 rfl
/-- num of a row that was made for the call. -/
theorem num_fresh (g : Nat) (l : List UInt8) (xs : List Int) (S : Nat → Prop) (w : World) (hS : Top S w) (h : WK w S g l) (hl : l.length + 4 * xs.length ≤ 1000000) : Calls Try.prog 39 #[.pointer (some ⟨g, 0, none⟩), .slice (some ⟨w.heap.size, 0, none⟩) xs.length xs.length] (w.alloc (.cells (xs.map (Value.int .i64)).toArray TI)) fun x w' => After S g w l (numP xs) x w' :=
  (num_calls g l xs w.heap.size xs.length (Less S w.heap.size) (w.alloc (.cells (xs.map (Value.int .i64)).toArray TI)) (top_less hS _) (wk_less h _) (heap_alloc_new w _) (not_less _ _) hl).mono fun x w' hx => hx.fresh
theorem num_fresh1 (g : Nat) (l : List UInt8) (n : Int) (S : Nat → Prop) (w : World) (hS : Top S w) (h : WK w S g l) (hl : l.length + 4 ≤ 1000000) : Calls Try.prog 39 #[.pointer (some ⟨g, 0, none⟩), .slice (some ⟨w.heap.size, 0, none⟩) 1 1] (w.alloc (.cells #[.int .i64 n] TI)) fun x w' => After S g w l (numP [n]) x w' := num_fresh g l [n] S w hS h hl
theorem num_fresh2 (g : Nat) (l : List UInt8) (n m : Int) (S : Nat → Prop) (w : World) (hS : Top S w) (h : WK w S g l) (hl : l.length + 8 ≤ 1000000) : Calls Try.prog 39 #[.pointer (some ⟨g, 0, none⟩), .slice (some ⟨w.heap.size, 0, none⟩) 2 2] (w.alloc (.cells #[.int .i64 n, .int .i64 m] TI)) fun x w' => After S g w l (numP [n, m]) x w' := num_fresh g l [n, m] S w hS h hl
set_option maxHeartbeats 1000000 in
theorem txn_calls (g : Nat) (l : List UInt8) (n : Int) (S : Nat → Prop) (w : World) (hS : Top S w) (h : WK w S g l) (hl : l.length + 4 ≤ 1000000) : Calls Try.prog 38 #[.pointer (some ⟨g, 0, none⟩), .int .i64 n] w fun x w' => After S g w l (txnP n) x w' := by
  have HS := Aside0.mk hS; have HW := Aside0.mk h; have HL := Aside0.mk hl; have F := Aside0.mk (FS.refl S w); clear hS h hl
  by_cases h1 : 1 ≤ n
  · have t1 : decide (1 ≤ n) = true := decide_eq_true h1
    have E := Aside0.mk (show txnP n = numP [n] by unfold txnP; rw [if_pos h1])
    clear h1
    cases hp : numP [n] with
    | none =>
      have HP := Aside0.mk hp; clear hp
      go_enter Try.func38, Try.ntmps38
      go_wp2_with (first | (go_at_call 24; (with_reducible refine (must_yes _ _).mono ?_); rintro e w1 ⟨rfl, hw⟩; replace hw := hw.symm; subst hw) | (go_at_call 39; refine (num_fresh1 g l n S _ HS.out HW.out HL.out).mono ?_; rintro e w1 hx; rw [HP.out] at hx; obtain ⟨rfl, hf⟩ := hx; have F_n := Aside0.mk (F.out.trans hf); clear F; have F := F_n; clear F_n; clear hf))
      refine ⟨rfl, ?_⟩
      show After S g w l (txnP n) (gaveUp 1) _
      rw [E.out, HP.out]
      exact ⟨rfl, F.out⟩
    | some bs =>
      have HP := Aside0.mk hp; clear hp
      go_enter Try.func38, Try.ntmps38
      go_wp2_with (first | (go_at_call 24; (with_reducible refine (must_yes _ _).mono ?_); rintro e w1 ⟨rfl, hw⟩; replace hw := hw.symm; subst hw) | (go_at_call 39; refine (num_fresh1 g l n S _ HS.out HW.out HL.out).mono ?_; rintro e w1 hx; rw [HP.out] at hx; obtain ⟨rfl, hk, hf⟩ := hx; have HW_n := Aside0.mk (hk); have F_n := Aside0.mk (F.out.trans hf); clear HW F; have HW := HW_n; have F := F_n; clear HW_n F_n; clear hk hf))
      go_end0
      show After S g w l (txnP n) _ _
      rw [E.out, HP.out]
      exact ⟨rfl, HW.out, F.out⟩
  · have t1 : decide (1 ≤ n) = false := decide_eq_false h1
    have E := Aside0.mk (show txnP n = none by unfold txnP; rw [if_neg h1])
    clear h1
    go_enter Try.func38, Try.ntmps38
    go_wp2_with (go_at_call 24; (with_reducible refine (must_no _ _).mono ?_); rintro e w1 ⟨rfl, hw⟩; replace hw := hw.symm; subst hw)
    refine ⟨rfl, ?_⟩
    show After S g w l (txnP n) (gaveUp 1) _
    rw [E.out]
    exact ⟨rfl, FS.refl _ _⟩
/-- A record in a block of its own. -/
def RB (w : World) (b : Nat) (r : S25) (A9 : Option Addr) (c9 : Nat) (A10 : Option Addr) (c10 : Nat) : Prop :=
  w.heap[b]? = some (.cells #[.int .i64 r.f0, .int .i64 r.f1, .int .i64 r.f2, .int .i64 r.f3, .int .i64 r.f4, .int .i64 r.f5, .int .i64 r.f6, .string r.f7, .string r.f8, .slice A9 r.f9.length c9, .slice A10 r.f10.length c10] 25 (0, 0))
set_option maxHeartbeats 2000000 in
theorem place_calls (g : Nat) (l : List UInt8) (b : Nat) (r : S25) (A9 : Option Addr) (c9 : Nat) (A10 : Option Addr) (c10 : Nat) (S : Nat → Prop) (w : World) (hS : Top S w) (h : WK w S g l) (hb : RB w b r A9 c9 A10 c10) (hSb : ¬ S b) (hl : l.length + 4 ≤ 1000000) (hz : r.f8.size ≤ 1000000) : Calls Try.prog 40 #[.pointer (some ⟨g, 0, none⟩), .pointer (some ⟨b, 0, none⟩)] w fun x w' => After S g w l (placeP r.f2 r.f3 r.f8.size) x w' := by
  have HS := Aside0.mk hS; have HW := Aside0.mk h; have HL := Aside0.mk hl; have F := Aside0.mk (FS.refl S w); have HB := Aside0.mk hb; have HSB := Aside0.mk hSb
  clear hS h hl hb hSb
  have q8 : w.cell? ⟨b, 8, none⟩ = some (.string r.f8) := blk_cell HB.out 8
  have q2 : w.cell? ⟨b, 2, none⟩ = some (.int .i64 r.f2) := blk_cell HB.out 2
  by_cases h1 : (1 : Int) ≤ (r.f8.size : Int)
  · have t1 : decide ((1 : Int) ≤ (r.f8.size : Int)) = true := decide_eq_true h1
    have t1' : decide (1 ≤ r.f8.size) = true := decide_eq_true (by omega)
    have E := Aside0.mk (show placeP r.f2 r.f3 r.f8.size = cat (smallP r.f2 7) (cat (smallP r.f3 (220 - min (r.f8.size : Int) 220)) (smallP r.f8.size 16)) by unfold placeP; rw [if_pos h1])
    clear h1
    go_enter Try.func40, Try.ntmps40
    cases hp : smallP r.f2 7 with
    | none =>
      have HP := Aside0.mk hp; clear hp
      go_wp2_with (first | (go_at_call 24; (with_reducible refine (must_yes _ _).mono ?_); rintro e w1 ⟨rfl, hw⟩; replace hw := hw.symm; subst hw) | (go_at_call 37; refine (small_calls g l r.f2 7 S _ HS.out HW.out (by have := HL.out; omega)).mono ?_; rintro e w1 hx; rw [HP.out] at hx; obtain ⟨rfl, hf⟩ := hx; have F_n := Aside0.mk (F.out.trans hf); clear F; have F := F_n; clear F_n; clear hf))
      refine ⟨rfl, ?_⟩
      show After S g w l (placeP r.f2 r.f3 r.f8.size) (gaveUp 1) _
      rw [E.out, HP.out]
      exact ⟨rfl, F.out⟩
    | some b1 =>
    have HP := Aside0.mk hp; have HB1 := Aside0.mk (small_len hp); clear hp
    go_upto_region 3 with (first | (go_at_call 24; (with_reducible refine (must_yes _ _).mono ?_); rintro e w1 ⟨rfl, hw⟩; replace hw := hw.symm; subst hw) | (go_at_call 37; refine (small_calls g l r.f2 7 S _ HS.out HW.out (by have := HL.out; omega)).mono ?_; rintro e w2 hx; rw [HP.out] at hx; obtain ⟨rfl, hk, hf⟩ := hx; have HW_n := Aside0.mk (hk); have F_n := Aside0.mk (F.out.trans hf); clear HW F; have HW := HW_n; have F := F_n; clear HW_n F_n; clear hk hf))
    have q3 : w2.cell? ⟨b, 3, none⟩ = some (.int .i64 r.f3) := blk_cell (F.out.old HB.out HSB.out) 3
    have hw : wrap64 (220 - min (r.f8.size : Int) 220) = 220 - min (r.f8.size : Int) 220 := by unfold wrap64; omega
    cases hp2 : smallP r.f3 (220 - min (r.f8.size : Int) 220) with
    | none =>
      have HP2 := Aside0.mk hp2; clear hp2
      go_wp2_with (go_at_call 37; refine (small_calls g (l ++ b1) r.f3 (220 - min (r.f8.size : Int) 220) S _ (HS.out.next F.out.size) HW.out (by rw [List.length_append, HB1.out]; have := HL.out; omega)).mono ?_; rintro e w1 hx; rw [HP2.out] at hx; obtain ⟨rfl, hf⟩ := hx; have F_n := Aside0.mk (F.out.trans hf); clear F; have F := F_n; clear F_n; clear hf)
      refine ⟨rfl, ?_⟩
      show After S g w l (placeP r.f2 r.f3 r.f8.size) (gaveUp 1) _
      rw [E.out, HP.out, HP2.out]
      exact ⟨rfl, F.out⟩
    | some b2 =>
    have HP2 := Aside0.mk hp2; have HB2 := Aside0.mk (small_len hp2); clear hp2
    go_upto_region 4 with (go_at_call 37; refine (small_calls g (l ++ b1) r.f3 (220 - min (r.f8.size : Int) 220) S _ (HS.out.next F.out.size) HW.out (by rw [List.length_append, HB1.out]; have := HL.out; omega)).mono ?_; rintro e w3 hx; rw [HP2.out] at hx; obtain ⟨rfl, hk, hf⟩ := hx; have HW_n := Aside0.mk (hk); have F_n := Aside0.mk (F.out.trans hf); clear HW F; have HW := HW_n; have F := F_n; clear HW_n F_n; clear hk hf)
    cases hp3 : smallP r.f8.size 16 with
    | none =>
      have HP3 := Aside0.mk hp3; clear hp3
      go_wp2_with (go_at_call 37; refine (small_calls g (l ++ b1 ++ b2) r.f8.size 16 S _ (HS.out.next F.out.size) HW.out (by rw [List.length_append, List.length_append, HB1.out, HB2.out]; have := HL.out; omega)).mono ?_; rintro e w1 hx; rw [HP3.out] at hx; obtain ⟨rfl, hf⟩ := hx; have F_n := Aside0.mk (F.out.trans hf); clear F; have F := F_n; clear F_n; clear hf)
      refine ⟨rfl, ?_⟩
      show After S g w l (placeP r.f2 r.f3 r.f8.size) (gaveUp 1) _
      rw [E.out, HP.out, HP2.out, HP3.out]
      exact ⟨rfl, F.out⟩
    | some b3 =>
    have HP3 := Aside0.mk hp3; clear hp3
    go_wp2_with (go_at_call 37; refine (small_calls g (l ++ b1 ++ b2) r.f8.size 16 S _ (HS.out.next F.out.size) HW.out (by rw [List.length_append, List.length_append, HB1.out, HB2.out]; have := HL.out; omega)).mono ?_; rintro e w4 hx; rw [HP3.out] at hx; obtain ⟨rfl, hk, hf⟩ := hx; have HW_n := Aside0.mk (hk); have F_n := Aside0.mk (F.out.trans hf); clear HW F; have HW := HW_n; have F := F_n; clear HW_n F_n; clear hk hf)
    go_end0
    show After S g w l (placeP r.f2 r.f3 r.f8.size) _ _
    rw [E.out, HP.out, HP2.out, HP3.out]
    exact ⟨rfl, by simpa [List.append_assoc] using HW.out, F.out⟩
  · have t1 : decide ((1 : Int) ≤ (r.f8.size : Int)) = false := decide_eq_false h1
    have t1' : decide (1 ≤ r.f8.size) = false := decide_eq_false (by omega)
    have E := Aside0.mk (show placeP r.f2 r.f3 r.f8.size = none by unfold placeP; rw [if_neg h1])
    clear h1
    go_enter Try.func40, Try.ntmps40
    go_wp2_with (go_at_call 24; (with_reducible refine (must_no _ _).mono ?_); rintro e w1 ⟨rfl, hw⟩; replace hw := hw.symm; subst hw)
    refine ⟨rfl, ?_⟩
    show After S g w l (placeP r.f2 r.f3 r.f8.size) (gaveUp 1) _
    rw [E.out]
    exact ⟨rfl, FS.refl _ _⟩
end Go.Proofs.Ytcfknakmamcinaa.Wr
namespace Go.Proofs.Ytcfknakmamcinaa.Wr
open Go.Proofs.Ytcfknakmamcinaa.Rp Go.Proofs.Ytcfknakmamcinaa.X4
open Go Go.RowKit Go.ChangeMaps Go.Proofs.Ytcfknakmamcinaa.Arr Go.Proofs.Ytcfknakmamcinaa.Ow Go.Proofs.YtcfknakmamcinaaW.PrintWords Go.Proofs.YtcfknakmamcinaaW.PrintLast Go.Proofs.YtcfknakmamcinaaW.PrintMore
set_option linter.unusedVariables false
set_option linter.unusedSimpArgs false
set_option maxHeartbeats 4000000 in
theorem tables_calls (g : Nat) (l : List UInt8) (b : Nat) (r : S25) (A9 : Option Addr) (c9 : Nat) (A10 : Option Addr) (c10 : Nat) (S : Nat → Prop) (w : World) (hS : Top S w) (h : WK w S g l) (hb : RB w b r A9 c9 A10 c10) (hSb : ¬ S b) (h9 : ∀ w', FS S w w' → Kd.C k66 w' A9 r.f9.length r.f9) (h10 : ∀ w', FS S w w' → Kd.C k68 w' A10 r.f10.length r.f10) (hl : l.length ≤ 900000) : Calls Try.prog 42 #[.pointer (some ⟨g, 0, none⟩), .pointer (some ⟨b, 0, none⟩)] w fun x w' => After S g w l (tablesP r) x w' := by
  have HS := Aside0.mk hS; have HW := Aside0.mk h; have HL := Aside0.mk hl; have F := Aside0.mk (FS.refl S w); have HB := Aside0.mk hb; have HSB := Aside0.mk hSb; have H9 := Aside0.mk h9; have H10 := Aside0.mk h10
  clear hS h hl hb hSb h9 h10
  have q6 : w.cell? ⟨b, 6, none⟩ = some (.int .i64 r.f6) := blk_cell HB.out 6
  cases hp1 : numP [r.f6] with
  | none =>
    have HP1 := Aside0.mk hp1; clear hp1
    go_enter Try.func42, Try.ntmps42
    go_wp2_with (go_at_call 39; refine (num_fresh1 g l r.f6 S _ HS.out HW.out (by have := HL.out; omega)).mono ?_; rintro e w1 hx; rw [HP1.out] at hx; obtain ⟨rfl, hf⟩ := hx; have F_n := Aside0.mk (F.out.trans hf); clear F; have F := F_n; clear F_n; clear hf)
    refine ⟨rfl, ?_⟩; show After S g w l (tablesP r) (gaveUp 1) _; rw [show tablesP r = none by unfold tablesP; rw [HP1.out]; rfl]; exact ⟨rfl, F.out⟩
  | some b1 =>
    have HP1 := Aside0.mk hp1; have HB1 := Aside0.mk (show b1.length = 4 from num_len hp1); clear hp1
    go_enter Try.func42, Try.ntmps42
    go_upto_region 1 with (go_at_call 39; refine (num_fresh1 g l r.f6 S _ HS.out HW.out (by have := HL.out; omega)).mono ?_; rintro e w1 hx; rw [HP1.out] at hx; obtain ⟨rfl, hk, hf⟩ := hx; have HW_n := Aside0.mk (hk); have F_n := Aside0.mk (F.out.trans hf); clear HW F; have HW := HW_n; have F := F_n; clear HW_n F_n; clear hk hf)
    have q9 : w1.cell? ⟨b, 9, none⟩ = some (.slice A9 r.f9.length c9) := blk_cell (F.out.old HB.out HSB.out) 9
    cases hp2 : smallP r.f9.length 4 with
    | none =>
      have HP2 := Aside0.mk hp2; clear hp2
      go_wp2_with (go_at_call 37; refine (small_calls g (l ++ b1) r.f9.length 4 S _ (HS.out.next F.out.size) HW.out (by rw [List.length_append, HB1.out]; have := HL.out; omega)).mono ?_; rintro e w1 hx; rw [HP2.out] at hx; obtain ⟨rfl, hf⟩ := hx; have F_n := Aside0.mk (F.out.trans hf); clear F; have F := F_n; clear F_n; clear hf)
      refine ⟨rfl, ?_⟩; show After S g w l (tablesP r) (gaveUp 1) _; rw [show tablesP r = none by unfold tablesP; rw [HP1.out, HP2.out]; rfl]; exact ⟨rfl, F.out⟩
    | some b2 =>
    have HP2 := Aside0.mk hp2; have HB2 := Aside0.mk (small_len hp2); have HC4 := Aside0.mk (show r.f9.length ≤ 4 by have := small_le hp2; omega); clear hp2
    go_upto_region 2 with (go_at_call 37; refine (small_calls g (l ++ b1) r.f9.length 4 S _ (HS.out.next F.out.size) HW.out (by rw [List.length_append, HB1.out]; have := HL.out; omega)).mono ?_; rintro e w2 hx; rw [HP2.out] at hx; obtain ⟨rfl, hk, hf⟩ := hx; have HW_n := Aside0.mk (hk); have F_n := Aside0.mk (F.out.trans hf); clear HW F; have HW := HW_n; have F := F_n; clear HW_n F_n; clear hk hf)
    have q9b : w2.cell? ⟨b, 9, none⟩ = some (.slice A9 r.f9.length c9) := blk_cell (F.out.old HB.out HSB.out) 9
    go_upto_region 3 with (fail)
    go_loopw [27] (fun v wr => ∃ (k : Nat) (L : List UInt8), v = .int .i64 k ∧ Aside0 (k ≤ r.f9.length) ∧ Aside0 (∃ bs, joinP ((r.f9.take k).map rowT) = some bs ∧ L = (l ++ b1 ++ b2) ++ bs) ∧ Aside0 (L.length ≤ l.length + 5 + 12 * k) ∧ Aside0 (WK wr S g L) ∧ Aside0 (FS S w wr)) (fun v _ => r.f9.length - (intOf v).toNat)
    case atStart => exact ⟨0, _, rfl, ⟨Nat.zero_le _⟩, ⟨[], rfl, rfl⟩, ⟨by rw [List.append_nil, List.length_append, List.length_append, HB1.out, HB2.out]; omega⟩, ⟨by simpa using HW.out⟩, F⟩
    case round =>
      clear HW F q9 q9b
      obtain ⟨k, L, rfl, K, HJ, HLN, HW, F⟩ := hrel
      by_cases hlt : k < r.f9.length
      · have h1 : (k : Int) < (r.f9.length : Int) := by omega
        have h2 : (0 : Int) ≤ (k : Int) := by omega
        have hwk : wrap64 ((k : Int) + 1) = ((k + 1 : Nat) : Int) := by have := HC4.out; unfold wrap64; omega
        obtain ⟨ad, e_, x0, x1, x2⟩ := at_T66 (H9.out wr F.out) k h2 h1
        have HX := Aside0.mk (show r.f9[k]? = some (rd_T66 r.f9 k) by unfold rd_T66; rw [Int.toNat_natCast, List.getD_eq_getElem?_getD, List.getElem?_eq_getElem hlt]; rfl)
        simp only [Int.toNat_natCast] at x0 x1 x2
        subst e_
        generalize rd_T66 r.f9 k = x at *
        have HLT := Aside0.mk hlt
        have HS1 := Aside0.mk (top_less (HS.out.next F.out.size) (.cells #[.int .i64 x.f0, .int .i64 x.f1, .int .i64 x.f2] 66))
        have HW1 := Aside0.mk (wk_less HW.out (.cells #[.int .i64 x.f0, .int .i64 x.f1, .int .i64 x.f2] 66))
        have HB1 := Aside0.mk (heap_alloc_new wr (.cells #[.int .i64 x.f0, .int .i64 x.f1, .int .i64 x.f2] 66))
        have F0 := Aside0.mk (F.out.alloc (.cells #[.int .i64 x.f0, .int .i64 x.f1, .int .i64 x.f2] 66))
        have F1 := Aside0.mk (FS.refl (Less S wr.heap.size) (wr.alloc (.cells #[.int .i64 x.f0, .int .i64 x.f1, .int .i64 x.f2] 66)))
        clear hlt
        cases hp3 : txnP x.f0 with
        | none =>
          as_aux_lemma =>
          have HP3 := Aside0.mk hp3; clear hp3
          go_wp2_with (go_at_call 38; refine (txn_calls g L x.f0 (Less S wr.heap.size) _ HS1.out HW1.out (by have := HLN.out; have := HLT.out; have := HC4.out; have := HL.out; omega)).mono ?_; rintro e w1 hx; rw [HP3.out] at hx; obtain ⟨rfl, hf⟩ := hx; have F1_n := Aside0.mk (F1.out.trans hf); clear F1; have F1 := F1_n; clear F1_n; clear hf)
          refine ⟨rfl, ?_⟩
          show After S g w l (tablesP r) (gaveUp 1) _
          rw [show tablesP r = none by unfold tablesP; rw [HP1.out, HP2.out, join_none HX.out (by unfold rowT; rw [HP3.out]; rfl)]; rfl]
          exact ⟨rfl, F0.out.trans (FS.more F1.out)⟩
        | some b3 =>
        have HP3 := Aside0.mk hp3; have HB3 := Aside0.mk (txn_len hp3); clear hp3
        go_upto_region 6 with (go_at_call 38; refine (txn_calls g L x.f0 (Less S wr.heap.size) _ HS1.out HW1.out (by have := HLN.out; have := HLT.out; have := HC4.out; have := HL.out; omega)).mono ?_; rintro e w4 hx; rw [HP3.out] at hx; obtain ⟨rfl, hk, hf⟩ := hx; have HW1_n := Aside0.mk (hk); have F1_n := Aside0.mk (F1.out.trans hf); clear HW1 F1; have HW1 := HW1_n; have F1 := F1_n; clear HW1_n F1_n; clear hk hf)
        have y1 : w4.cell? ⟨wr.heap.size, 1, none⟩ = some (.int .i64 x.f1) := blk_cell (F1.out.old HB1.out (not_less _ _)) 1
        have y2 : w4.cell? ⟨wr.heap.size, 2, none⟩ = some (.int .i64 x.f2) := blk_cell (F1.out.old HB1.out (not_less _ _)) 2
        cases hp4 : numP [x.f1, x.f2] with
        | none =>
          as_aux_lemma =>
          have HP4 := Aside0.mk hp4; clear hp4
          go_wp2_with (go_at_call 39; refine (num_fresh2 g (L ++ b3) x.f1 x.f2 (Less S wr.heap.size) _ (HS1.out.next F1.out.size) HW1.out (by rw [List.length_append, HB3.out]; have := HLN.out; have := HLT.out; have := HC4.out; have := HL.out; omega)).mono ?_; rintro e w1 hx; rw [HP4.out] at hx; obtain ⟨rfl, hf⟩ := hx; have F1_n := Aside0.mk (F1.out.trans hf); clear F1; have F1 := F1_n; clear F1_n; clear hf)
          refine ⟨rfl, ?_⟩
          show After S g w l (tablesP r) (gaveUp 1) _
          rw [show tablesP r = none by unfold tablesP; rw [HP1.out, HP2.out, join_none HX.out (by unfold rowT; rw [HP3.out, HP4.out]; rfl)]; rfl]
          exact ⟨rfl, F0.out.trans (FS.more F1.out)⟩
        | some b4 =>
        as_aux_lemma =>
        have HP4 := Aside0.mk hp4; have HB4 := Aside0.mk (num_len hp4); clear hp4
        go_wp2_with (go_at_call 39; refine (num_fresh2 g (L ++ b3) x.f1 x.f2 (Less S wr.heap.size) _ (HS1.out.next F1.out.size) HW1.out (by rw [List.length_append, HB3.out]; have := HLN.out; have := HLT.out; have := HC4.out; have := HL.out; omega)).mono ?_; rintro e w5 hx; rw [HP4.out] at hx; obtain ⟨rfl, hk, hf⟩ := hx; have HW1_n := Aside0.mk (hk); have F1_n := Aside0.mk (F1.out.trans hf); clear HW1 F1; have HW1 := HW1_n; have F1 := F1_n; clear HW1_n F1_n; clear hk hf)
        have FF := Aside0.mk (F0.out.trans (FS.more F1.out)); have WW := Aside0.mk (HW1.out.more); clear F0 F1 HW1
        (try simp only [hwk])
        obtain ⟨bs, hj, hL⟩ := HJ.out
        refine ⟨⟨k + 1, L ++ b3 ++ b4, rfl, ⟨HLT.out⟩, ⟨bs ++ (b3 ++ b4), join_succ HX.out hj (by unfold rowT; rw [HP3.out, HP4.out]; rfl), by rw [hL]; simp only [List.append_assoc]⟩, ⟨?_⟩, WW, FF⟩, ?_⟩
        · have := HLN.out; have h5 := HB4.out; rw [List.length_append, List.length_append, HB3.out, h5]; simp only [List.length_cons, List.length_nil]; omega
        · have := HLT.out
          show r.f9.length - (intOf (.int .i64 ((k + 1 : Nat) : Int))).toNat < r.f9.length - (intOf (.int .i64 (k : Int))).toNat
          simp only [intOf]; omega
      · obtain rfl : k = r.f9.length := by have := K.out; omega
        clear hlt
        obtain ⟨bs, hj, hL⟩ := HJ.out
        rw [List.take_length] at hj
        have HJ1 := Aside0.mk hj; have HL1 := Aside0.mk hL; clear hj hL HJ
        obtain ⟨L2, HL2⟩ : ∃ L2, Aside0 (L2 = L) := ⟨_, ⟨rfl⟩⟩
        obtain rfl := HL2.out
        clear HL2
        have q10 : wr.cell? ⟨b, 10, none⟩ = some (.slice A10 r.f10.length c10) := blk_cell (F.out.old HB.out HSB.out) 10
        go_upto_region 8 with (fail)
        cases hp5 : smallP r.f10.length 8 with
        | none =>
          as_aux_lemma =>
          have HP5 := Aside0.mk hp5; clear hp5
          go_wp2_with (go_at_call 37; refine (small_calls g L2 r.f10.length 8 S _ (HS.out.next F.out.size) HW.out (by have := HLN.out; have := HC4.out; have := HL.out; omega)).mono ?_; rintro e w1 hx; rw [HP5.out] at hx; obtain ⟨rfl, hf⟩ := hx; have F_n := Aside0.mk (F.out.trans hf); clear F; have F := F_n; clear F_n; clear hf)
          refine ⟨rfl, ?_⟩; show After S g w l (tablesP r) (gaveUp 1) _; rw [show tablesP r = none by unfold tablesP; rw [HP1.out, HP2.out, HJ1.out, HP5.out]; rfl]; exact ⟨rfl, F.out⟩
        | some b5 =>
        have HP5 := Aside0.mk hp5; have HB5 := Aside0.mk (small_len hp5); have HC8 := Aside0.mk (show r.f10.length ≤ 8 by have := small_le hp5; omega); clear hp5
        go_upto_region 9 with (go_at_call 37; refine (small_calls g L2 r.f10.length 8 S _ (HS.out.next F.out.size) HW.out (by have := HLN.out; have := HC4.out; have := HL.out; omega)).mono ?_; rintro e w3 hx; rw [HP5.out] at hx; obtain ⟨rfl, hk, hf⟩ := hx; have HW_n := Aside0.mk (hk); have F_n := Aside0.mk (F.out.trans hf); clear HW F; have HW := HW_n; have F := F_n; clear HW_n F_n; clear hk hf)
        have q10b : w3.cell? ⟨b, 10, none⟩ = some (.slice A10 r.f10.length c10) := blk_cell (F.out.old HB.out HSB.out) 10
        have HLN0 := HLN; clear HLN
        go_upto_region 10 with (fail)
        go_loopw [55] (fun v wr => ∃ (k : Nat) (L : List UInt8), v = .int .i64 k ∧ Aside0 (k ≤ r.f10.length) ∧ Aside0 (∃ bs, joinP ((r.f10.take k).map rowQ) = some bs ∧ L = (L2 ++ b5) ++ bs) ∧ Aside0 (L.length ≤ l.length + 54 + 5 * k) ∧ Aside0 (WK wr S g L) ∧ Aside0 (FS S w wr)) (fun v _ => r.f10.length - (intOf v).toNat)
        case atStart => exact ⟨0, _, rfl, ⟨Nat.zero_le _⟩, ⟨[], rfl, rfl⟩, ⟨by rw [List.append_nil, List.length_append, HB5.out]; have := HLN0.out; have := HC4.out; omega⟩, ⟨by simpa using HW.out⟩, F⟩
        case round =>
          clear HW F q10 q10b
          obtain ⟨k, L, rfl, K, HJ, HLN, HW, F⟩ := hrel
          by_cases hlt : k < r.f10.length
          · have h1 : (k : Int) < (r.f10.length : Int) := by omega
            have h2 : (0 : Int) ≤ (k : Int) := by omega
            have hwk : wrap64 ((k : Int) + 1) = ((k + 1 : Nat) : Int) := by have := HC8.out; unfold wrap64; omega
            obtain ⟨ad, e_, x0, x1⟩ := at_T68 (H10.out wr F.out) k h2 h1
            have HX := Aside0.mk (show r.f10[k]? = some (rd_T68 r.f10 k) by unfold rd_T68; rw [Int.toNat_natCast, List.getD_eq_getElem?_getD, List.getElem?_eq_getElem hlt]; rfl)
            simp only [Int.toNat_natCast] at x0 x1
            subst e_
            generalize rd_T68 r.f10 k = x at *
            have HLT := Aside0.mk hlt
            have HS1 := Aside0.mk (top_less (HS.out.next F.out.size) (.cells #[.int .i64 x.f0, .int .i64 x.f1] 68))
            have HW1 := Aside0.mk (wk_less HW.out (.cells #[.int .i64 x.f0, .int .i64 x.f1] 68))
            have HB1 := Aside0.mk (heap_alloc_new wr (.cells #[.int .i64 x.f0, .int .i64 x.f1] 68))
            have F0 := Aside0.mk (F.out.alloc (.cells #[.int .i64 x.f0, .int .i64 x.f1] 68))
            have F1 := Aside0.mk (FS.refl (Less S wr.heap.size) (wr.alloc (.cells #[.int .i64 x.f0, .int .i64 x.f1] 68)))
            clear hlt
            cases hp3 : smallP x.f0 7 with
            | none =>
              as_aux_lemma =>
              have HP3 := Aside0.mk hp3; clear hp3
              go_wp2_with (go_at_call 37; refine (small_calls g L x.f0 7 (Less S wr.heap.size) _ HS1.out HW1.out (by have := HLN.out; have := HLT.out; have := HC8.out; have := HL.out; omega)).mono ?_; rintro e w1 hx; rw [HP3.out] at hx; obtain ⟨rfl, hf⟩ := hx; have F1_n := Aside0.mk (F1.out.trans hf); clear F1; have F1 := F1_n; clear F1_n; clear hf)
              refine ⟨rfl, ?_⟩
              show After S g w l (tablesP r) (gaveUp 1) _
              rw [show tablesP r = none by unfold tablesP; rw [HP1.out, HP2.out, HJ1.out, HP5.out, join_none HX.out (by unfold rowQ; rw [HP3.out]; rfl)]; rfl]
              exact ⟨rfl, F0.out.trans (FS.more F1.out)⟩
            | some b3 =>
            have HP3 := Aside0.mk hp3; have HB3 := Aside0.mk (small_len hp3); clear hp3
            go_upto_region 13 with (go_at_call 37; refine (small_calls g L x.f0 7 (Less S wr.heap.size) _ HS1.out HW1.out (by have := HLN.out; have := HLT.out; have := HC8.out; have := HL.out; omega)).mono ?_; rintro e w4 hx; rw [HP3.out] at hx; obtain ⟨rfl, hk, hf⟩ := hx; have HW1_n := Aside0.mk (hk); have F1_n := Aside0.mk (F1.out.trans hf); clear HW1 F1; have HW1 := HW1_n; have F1 := F1_n; clear HW1_n F1_n; clear hk hf)
            have y1 : w4.cell? ⟨wr.heap.size, 1, none⟩ = some (.int .i64 x.f1) := blk_cell (F1.out.old HB1.out (not_less _ _)) 1
            skip
            cases hp4 : numP [x.f1] with
            | none =>
              as_aux_lemma =>
              have HP4 := Aside0.mk hp4; clear hp4
              go_wp2_with (go_at_call 39; refine (num_fresh1 g (L ++ b3) x.f1 (Less S wr.heap.size) _ (HS1.out.next F1.out.size) HW1.out (by rw [List.length_append, HB3.out]; have := HLN.out; have := HLT.out; have := HC8.out; have := HL.out; omega)).mono ?_; rintro e w1 hx; rw [HP4.out] at hx; obtain ⟨rfl, hf⟩ := hx; have F1_n := Aside0.mk (F1.out.trans hf); clear F1; have F1 := F1_n; clear F1_n; clear hf)
              refine ⟨rfl, ?_⟩
              show After S g w l (tablesP r) (gaveUp 1) _
              rw [show tablesP r = none by unfold tablesP; rw [HP1.out, HP2.out, HJ1.out, HP5.out, join_none HX.out (by unfold rowQ; rw [HP3.out, HP4.out]; rfl)]; rfl]
              exact ⟨rfl, F0.out.trans (FS.more F1.out)⟩
            | some b4 =>
            as_aux_lemma =>
            have HP4 := Aside0.mk hp4; have HB4 := Aside0.mk (num_len hp4); clear hp4
            go_wp2_with (go_at_call 39; refine (num_fresh1 g (L ++ b3) x.f1 (Less S wr.heap.size) _ (HS1.out.next F1.out.size) HW1.out (by rw [List.length_append, HB3.out]; have := HLN.out; have := HLT.out; have := HC8.out; have := HL.out; omega)).mono ?_; rintro e w5 hx; rw [HP4.out] at hx; obtain ⟨rfl, hk, hf⟩ := hx; have HW1_n := Aside0.mk (hk); have F1_n := Aside0.mk (F1.out.trans hf); clear HW1 F1; have HW1 := HW1_n; have F1 := F1_n; clear HW1_n F1_n; clear hk hf)
            have FF := Aside0.mk (F0.out.trans (FS.more F1.out)); have WW := Aside0.mk (HW1.out.more); clear F0 F1 HW1
            (try simp only [hwk])
            obtain ⟨bs, hj, hL⟩ := HJ.out
            refine ⟨⟨k + 1, L ++ b3 ++ b4, rfl, ⟨HLT.out⟩, ⟨bs ++ (b3 ++ b4), join_succ HX.out hj (by unfold rowQ; rw [HP3.out, HP4.out]; rfl), by rw [hL]; simp only [List.append_assoc]⟩, ⟨?_⟩, WW, FF⟩, ?_⟩
            · have := HLN.out; have h5 := HB4.out; rw [List.length_append, List.length_append, HB3.out, h5]; simp only [List.length_cons, List.length_nil]; omega
            · have := HLT.out
              show r.f10.length - (intOf (.int .i64 ((k + 1 : Nat) : Int))).toNat < r.f10.length - (intOf (.int .i64 (k : Int))).toNat
              simp only [intOf]; omega
          · obtain rfl : k = r.f10.length := by have := K.out; omega
            clear hlt
            obtain ⟨bs2, hj2, hL2⟩ := HJ.out
            rw [List.take_length] at hj2
            go_wp2
            go_end0
            show After S g w l (tablesP r) _ _
            rw [show tablesP r = some (b1 ++ (b2 ++ (bs ++ (b5 ++ bs2)))) by unfold tablesP; rw [HP1.out, HP2.out, HJ1.out, HP5.out, hj2]; rfl]
            exact ⟨rfl, by have h := HW.out; rw [hL2, HL1.out] at h; simpa only [List.append_assoc] using h, F.out⟩
end Go.Proofs.Ytcfknakmamcinaa.Wr
