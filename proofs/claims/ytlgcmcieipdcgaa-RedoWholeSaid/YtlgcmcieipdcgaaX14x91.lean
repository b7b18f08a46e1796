import Derived.Test.YtlgcmcieipdcgaaWhole
import Derived.Outline
namespace Go.Proofs.Ytlgcmcieipdcgaa.X14
open Go Go.RowKit Go.Proofs.YtlgcmcieipdcgaaW.PrintWords Go.Proofs.YtlgcmcieipdcgaaW.PrintLast Go.Proofs.YtlgcmcieipdcgaaW.PrintMore
attribute [local go_sem] max2_int min2_int max_two min_two max_three min_three max_four min_four Page.fld_page_0 Page.fld_page_1
set_option linter.unusedVariables false
set_option linter.unusedSimpArgs false
/-- How many of page n's changes it has. -/
def kOf (l : List S58) (hv : List Int) (n : Nat) : Nat := (hv.getD n 0).toNat % ((vals n l).length + 1)
def pgs (l : List S58) (hv : List Int) (j : Nat) : List S23 := (List.range j).map fun n : Nat => oneS ((vals n l).take (kOf l hv n))
def wts (l : List S58) (j : Nat) : List S23 := (List.range j).map fun n : Nat => oneS (vals n l)
theorem pgs_succ (l : List S58) (hv : List Int) (j : Nat) : pgs l hv (j + 1) = pgs l hv j ++ [oneS ((vals j l).take (kOf l hv j))] := by simp [pgs, List.range_succ]
theorem wts_succ (l : List S58) (j : Nat) : wts l (j + 1) = wts l j ++ [oneS (vals j l)] := by simp [wts, List.range_succ]
theorem pgs_len (l : List S58) (hv : List Int) (j : Nat) : (pgs l hv j).length = j := by simp [pgs]
theorem wts_len (l : List S58) (j : Nat) : (wts l j).length = j := by simp [wts]
/-- The place to begin at isn't above the first one that any of the first j pages lacks. -/
def From (l : List S58) (hv : List Int) (j : Nat) (f : Int) : Prop := 1 ≤ f ∧ f ≤ 2147483647 ∧ ∀ n, n < j → ∀ h : kOf l hv n < (vals n l).length, f ≤ ((vals n l)[kOf l hv n]).f0
/-- Pages of the call's own. -/
def OwnP (w0 w : World) (v : Value) (xs : List S23) : Prop := w.ownsRow w0.heap.size 23 2 v xs.length (pcells xs)
theorem OwnP.below {w0 w w1 : World} {v : Value} {xs : List S23} (h : OwnP w0 w v xs) (hb : Below w.heap.size w w1) : OwnP w0 w1 v xs := pw_own_below h hb
theorem OwnP.reads {w0 w : World} {v : Value} {xs : List S23} (h : OwnP w0 w v xs) : ∃ A c, v = .slice A xs.length c ∧ xs.length ≤ c ∧ Kd.C k23 w A xs.length xs := by
  have hr : Reps (k23.K w) 2 xs (pcells xs) := ⟨pcells_length xs, fun j p hj => by rw [pcells_drop xs j p hj]; exact k23_mk w p⟩
  obtain ⟨A, c, e, hr⟩ := own_reads_row h hr rfl
  refine ⟨A, c, e, ?_, hr⟩
  unfold OwnP at h
  subst e
  exact own_le h
/-- The law's own end: redo from that place gives the whole. -/
theorem whole_eq (l : List S58) (hv : List Int) (f : Int) (hr : l.Pairwise fun a b => a.f0 < b.f0) (h1 : ∀ x ∈ l, 1 ≤ x.f0) (g : Int) (hg : g ≤ f) (hf : From l hv hv.length f) : pagesF g l (pgs l hv hv.length) = wts l hv.length := by
  have hl : (pagesF g l (pgs l hv hv.length)).length = hv.length := by rw [pagesF_len, pgs_len]
  apply List.ext_getElem (by rw [hl, wts_len])
  intro n hn1 hn2
  have hn : n < hv.length := by omega
  have a := fold_at g n l (pgs l hv hv.length) (by rw [pgs_len]; exact hn)
  have b := whole_fold g n (vals n l) (vals_good n l hr h1) (kOf l hv n) (by unfold kOf; have := Nat.mod_lt (hv.getD n 0).toNat (show 0 < (vals (n : Int) l).length + 1 by omega); omega) (fun h => by have := hf.2.2 n hn h; omega) l [] rfl
  have c : (pgs l hv hv.length).getD n z23 = oneS ((vals n l).take (kOf l hv n)) := by
    rw [List.getD_eq_getElem?_getD, List.getElem?_eq_getElem (by rw [pgs_len]; exact hn)]; simp [pgs]
  have d : (wts l hv.length)[n] = oneS (vals n l) := by simp [wts]
  rw [List.getD_eq_getElem?_getD, List.getElem?_eq_getElem hn1] at a
  rw [d, ← b]
  simp only [Option.getD_some] at a
  rw [a, c]
  have e0 : (vals (n : Int) []).length = 0 := rfl
  rw [e0, Nat.max_zero]
  rfl
def FitsW (l : List S58) (hv : List Int) : Prop := (∀ x ∈ l, x.f1.f8.size ≤ 140737488351232) ∧ l.length * 144 ≤ 140737488351232 ∧ hv.length ≤ 140737488351232 ∧ ∀ x ∈ hv, 0 ≤ x ∧ x < 256
theorem first_low (l : List S58) (hr : l.Pairwise fun a b => a.f0 < b.f0) (h : ∀ hl : 0 < l.length, 1 ≤ (l[0]).f0) : ∀ x ∈ l, 1 ≤ x.f0 := by
  intro x hx
  cases l with
  | nil => cases hx
  | cons a r =>
    have h0 := h (by simp)
    rcases List.mem_cons.1 hx with rfl | hx
    · exact h0
    · have := (List.pairwise_cons.1 hr).1 x hx
      simp only [List.getElem_cons_zero] at h0
      omega

theorem whole_early (l : List S58) (hv : List Int) (early : Int) (A0 : Option Addr) (c0 : Nat) (A1 : Option Addr) (c1 : Nat) (w : World) (hr0 : Kd.C k58 w A0 l.length l) (hc0 : l.length ≤ c0) (hr1 : Kd.C (Kd.int .u8) w A1 hv.length hv) (hc1 : hv.length ≤ c1) (hf : FitsW l hv) (b r : Bool) (kb kr : Nat) (HKB : Aside0 (careenref11_Few.f kb l = some b)) (HKR : Aside0 (careenref11_Rises.f kr l = some r))
    (hno : b = false ∨ r = false ∨ 8 < hv.length ∨ ∃ hl : 0 < l.length, (l[0]'hl).f0 < 1) : Calls Try.prog 9 #[.slice A0 l.length c0, .slice A1 hv.length c1, .int .i64 early] w fun e w' => e = .returned (.bool true) ∧ Below w.heap.size w w' := by
  have HR0 := Aside0.mk hr0; clear hr0 hr1
  have HB := Aside0.mk (Below.refl w.heap.size w)
  cases b with
  | false =>
    go_enter Try.func9, Try.ntmps9
    go_wp2_with (first | (go_at_call 27; refine (careenlaw14_awake.go _).mono ?_; rintro e w1 ⟨rfl, hb1⟩; have n_ := Aside0.mk (Arr.below_trans HB.out hb1); clear HB; have HB := n_; clear n_ hb1) | (go_at_call 28; refine (careenref11_Few.calls kb _ c0 l false _ (Kd.C_below HR0.out HB.out) hc0 HKB.out).mono ?_; rintro e w1 ⟨rfl, hb1⟩; have n_ := Aside0.mk (Arr.below_trans HB.out hb1); clear HB; have HB := n_; clear n_ hb1) | (go_at_call 36; refine (careenref11_Rises.calls kr _ c0 l r _ (Kd.C_below HR0.out HB.out) hc0 HKR.out).mono ?_; rintro e w1 ⟨rfl, hb0⟩; have hb1 := hb0.below; clear hb0; have n_ := Aside0.mk (Arr.below_trans HB.out hb1); clear HB; have HB := n_; clear n_ hb1))
    go_ret
    exact ⟨rfl, HB.out⟩
  | true =>
    cases r with
    | false =>
      go_enter Try.func9, Try.ntmps9
      go_wp2_with (first | (go_at_call 27; refine (careenlaw14_awake.go _).mono ?_; rintro e w1 ⟨rfl, hb1⟩; have n_ := Aside0.mk (Arr.below_trans HB.out hb1); clear HB; have HB := n_; clear n_ hb1) | (go_at_call 28; refine (careenref11_Few.calls kb _ c0 l true _ (Kd.C_below HR0.out HB.out) hc0 HKB.out).mono ?_; rintro e w1 ⟨rfl, hb1⟩; have n_ := Aside0.mk (Arr.below_trans HB.out hb1); clear HB; have HB := n_; clear n_ hb1) | (go_at_call 36; refine (careenref11_Rises.calls kr _ c0 l false _ (Kd.C_below HR0.out HB.out) hc0 HKR.out).mono ?_; rintro e w1 ⟨rfl, hb0⟩; have hb1 := hb0.below; clear hb0; have n_ := Aside0.mk (Arr.below_trans HB.out hb1); clear HB; have HB := n_; clear n_ hb1))
      go_ret
      exact ⟨rfl, HB.out⟩
    | true =>
      by_cases h8 : 8 < hv.length
      · have d8 : decide ((8 : Int) < (hv.length : Int)) = true := by simp; omega
        clear hno h8
        go_enter Try.func9, Try.ntmps9
        go_wp2_with (first | (go_at_call 27; refine (careenlaw14_awake.go _).mono ?_; rintro e w1 ⟨rfl, hb1⟩; have n_ := Aside0.mk (Arr.below_trans HB.out hb1); clear HB; have HB := n_; clear n_ hb1) | (go_at_call 28; refine (careenref11_Few.calls kb _ c0 l true _ (Kd.C_below HR0.out HB.out) hc0 HKB.out).mono ?_; rintro e w1 ⟨rfl, hb1⟩; have n_ := Aside0.mk (Arr.below_trans HB.out hb1); clear HB; have HB := n_; clear n_ hb1) | (go_at_call 36; refine (careenref11_Rises.calls kr _ c0 l true _ (Kd.C_below HR0.out HB.out) hc0 HKR.out).mono ?_; rintro e w1 ⟨rfl, hb0⟩; have hb1 := hb0.below; clear hb0; have n_ := Aside0.mk (Arr.below_trans HB.out hb1); clear HB; have HB := n_; clear n_ hb1))
        go_ret
        exact ⟨rfl, HB.out⟩
      · have d8 : decide ((8 : Int) < (hv.length : Int)) = false := by simp; omega
        obtain ⟨hl, h0⟩ : ∃ hl : 0 < l.length, (l[0]'hl).f0 < 1 := by
          rcases hno with h | h | h | h
          · cases h
          · cases h
          · exact absurd h h8
          · exact h
        clear h8
        have d9 : decide ((0 : Int) < (l.length : Int)) = true := by simp; omega
        obtain ⟨ad, A10, c10, A11, c11, rfl, e0, _⟩ := at_T58 HR0.out 0 (by omega) (by omega)
        rw [show rd_T58 l 0 = l[0] from rd58 l 0 hl] at e0
        simp only [Int.toNat_zero, Nat.zero_mul, Addr.add_zero'] at e0
        have d0 : decide ((l[0]).f0 < 1) = true := by simpa using h0
        generalize (l[0]).f0 = At at *
        have i0 : (0 : Int) < (l.length : Int) := by omega
        clear h0 hno
        have E0 := Aside0.mk e0; clear e0
        go_enter Try.func9, Try.ntmps9
        go_wp2_with (first | (go_at_call 27; refine (careenlaw14_awake.go _).mono ?_; rintro e w1 ⟨rfl, hb1⟩; have n_ := Aside0.mk (Arr.below_trans HB.out hb1); clear HB; have HB := n_; clear n_ hb1; (try clear e0); have e0 := pw_cell_below HB.out E0.out) | (go_at_call 28; refine (careenref11_Few.calls kb _ c0 l true _ (Kd.C_below HR0.out HB.out) hc0 HKB.out).mono ?_; rintro e w1 ⟨rfl, hb1⟩; have n_ := Aside0.mk (Arr.below_trans HB.out hb1); clear HB; have HB := n_; clear n_ hb1; (try clear e0); have e0 := pw_cell_below HB.out E0.out) | (go_at_call 36; refine (careenref11_Rises.calls kr _ c0 l true _ (Kd.C_below HR0.out HB.out) hc0 HKR.out).mono ?_; rintro e w1 ⟨rfl, hb0⟩; have hb1 := hb0.below; clear hb0; have n_ := Aside0.mk (Arr.below_trans HB.out hb1); clear HB; have HB := n_; clear n_ hb1; (try clear e0); have e0 := pw_cell_below HB.out E0.out))
        go_ret
        exact ⟨rfl, HB.out⟩

theorem u8_at {w : World} {A : Option Addr} {xs : List Int} (h : Kd.C (Kd.int .u8) w A xs.length xs) (j : Nat) (hj : j < xs.length) : ∃ ad, A = some ad ∧ w.cell? (ad.add j) = some (.int .u8 (xs.getD j 0)) := by
  obtain ⟨ad, e, h⟩ := h.2.2 (by omega)
  obtain ⟨c, _, hk, hc⟩ := h j xs[j] (List.getElem?_eq_getElem hj)
  have hk' : c = [.int .u8 xs[j]] := hk
  refine ⟨ad, e, ?_⟩
  have := hc 0 (.int .u8 xs[j]) (by rw [hk']; rfl)
  rw [show j * (Kd.int .u8).sz + 0 = j from by show j * 1 + 0 = j; omega] at this
  rw [this, List.getD_eq_getElem?_getD, List.getElem?_eq_getElem hj]; rfl
theorem vals_keep (n : Int) (a : List S58) (x : S58) (h : valB n x = false) : vals n (a ++ [x]) = vals n a := by rw [vals_app, vals_neg (by rw [h]; exact Bool.false_ne_true)]; exact List.append_nil _
theorem vals_take (n : Int) (a : List S58) (x : S58) (h : valB n x = true) : vals n (a ++ [x]) = vals n a ++ [x] := by rw [vals_app, vals_pos h]; rfl
theorem valB_true {n : Int} {x : S58} (h1 : x.f1.f2 = n) (h2 : effB x = true) (h3 : x.f0 ≤ 2147483647) : valB n x = true := by simp [valB, h1, h2, h3]
theorem valB_false {n : Int} {x : S58} (h : ¬ x.f1.f2 = n ∨ effB x = false ∨ ¬ x.f0 ≤ 2147483647) : valB n x = false := by
  unfold valB
  rcases h with h | h | h
  · simp [h]
  · simp [h]
  · simp; intro _ _; omega
theorem OwnE.other {w0 w w1 : World} {v v' : Value} {xs : List S58} {ps : List S23} (h : OwnE w0 w v xs) (hg : w.grownBy w1 v'.ownBlock) (hp : OwnP w0 w v' ps) : OwnE w0 w1 v xs := by
  obtain ⟨cs, h1, h2⟩ := h
  exact ⟨cs, own_other h1 hg (own_type_ne h1 hp (by decide)), h2⟩
theorem own_cut {w : World} {A : Option Addr} {own : List S58} (_ : Kd.C k58 w A own.length own) (c k : Nat) (hk : k ≤ own.length) (hc : own.length ≤ c) (W : World) : (Instr.slice 48 (.slice A own.length c) none (some (.int .i64 (k : Int))) none).run Try.prog W = .ok (.slice A (own.take k).length c) W := by
  obtain ⟨i0, hi0, -⟩ := Option.map_eq_some_iff.1 info58
  have := cut_to (P := Try.prog) 48 58 .i64 Try.underlying48 hi0 A own.length c (k : Int) (by omega) (by omega) hc W
  rw [List.length_take, Nat.min_eq_left hk]
  simpa using this
theorem from_one {l : List S58} {hv : List Int} {j : Nat} {f : Int} (h : From l hv j f) {own : List S58} (ho : vals (j : Int) l = own) {k : Nat} (hk : kOf l hv j = k) (hl : k < own.length) (h1 : 1 ≤ (own[k]).f0) : From l hv (j + 1) (if (own[k]).f0 < f then (own[k]).f0 else f) := by
  subst hk; subst ho
  refine ⟨by have := h.1; split <;> omega, by have := h.2.1; split <;> omega, fun n hn hh => ?_⟩
  by_cases e : n = j
  · subst e; split <;> omega
  · have := h.2.2 n (by omega) hh; split <;> omega
theorem from_skip {l : List S58} {hv : List Int} {j : Nat} {f : Int} (h : From l hv j f) {own : List S58} (ho : vals (j : Int) l = own) {k : Nat} (hk : kOf l hv j = k) (hl : ¬ k < own.length) : From l hv (j + 1) f := by
  subst hk; subst ho
  refine ⟨h.1, h.2.1, fun n hn hh => ?_⟩
  by_cases e : n = j
  · subst e; exact absurd hh hl
  · exact h.2.2 n (by omega) hh
theorem own_w {n m : Nat} (h : n ≤ m) (hm : m ≤ 977343669106) : wrap64 ((n : Int) + 1) = (n : Int) + 1 ∧ ¬ ((n : Int) + 1 = 0) := ⟨w64 (by omega) (by omega), by omega⟩
theorem own_m {b : Int} (h0 : 0 ≤ b) {n k : Nat} (h : k = b.toNat % (n + 1)) : b % ((n : Int) + 1) = (k : Int) := by
  subst h
  obtain ⟨c, rfl⟩ := Int.eq_ofNat_of_zero_le h0
  rw [Int.toNat_natCast, Int.natCast_emod]; rfl
theorem own_k {b : Int} {n k : Nat} (h : k = b.toNat % (n + 1)) : k ≤ n := by
  have := Nat.mod_lt b.toNat (show 0 < n + 1 by omega)
  omega
theorem pcells_snoc (ps : List S23) (p : S23) : pcells (ps ++ [p]) = pcells ps ++ [.int .i64 p.f0, .string p.f1] := by unfold pcells; rw [List.flatMap_append]; rfl
theorem one_eq (v : List S58) (n : Int) (h : ∀ x ∈ v, x.f1.f2 = n) : oneF v n (0, Arr.noughts 220) = ((oneS v).f0, (oneS v).f1) := oneF_vals n v h ⟨0, Arr.noughts 220⟩
/-- The law's inner test, as the code asks it. -/
theorem ref_ev (x : S58) (hx : x.f1.f8.size ≤ 140737488351232) : careenref06_Apply.f 1 0 (Arr.noughts 220) 1 x.f1.f0 x.f1.f1 x.f1.f2 x.f1.f3 x.f1.f4 x.f1.f5 x.f1.f6 x.f1.f7 x.f1.f8 x.f1.f9 x.f1.f10 = some (applyF 0 (Arr.noughts 220) 1 x.f1.f0 x.f1.f3 x.f1.f8) := refapply_eq 0 _ _ _ _ _ _ _ _ _ _ _ _ _ _ hx

set_option maxHeartbeats 2000000 in
set_option maxRecDepth 4096 in
theorem whole_go (l : List S58) (hv : List Int) (early : Int) (A0 : Option Addr) (c0 : Nat) (A1 : Option Addr) (c1 : Nat) (w : World) (hr0 : Kd.C k58 w A0 l.length l) (hc0 : l.length ≤ c0) (hr1 : Kd.C (Kd.int .u8) w A1 hv.length hv) (hc1 : hv.length ≤ c1) (hf : FitsW l hv) (kb kr : Nat) (HKB : Aside0 (careenref11_Few.f kb l = some true)) (HKR : Aside0 (careenref11_Rises.f kr l = some true)) (h8 : hv.length ≤ 8) (hr : l.Pairwise fun a b => a.f0 < b.f0) (h1 : ∀ hl : 0 < l.length, 1 ≤ (l[0]'hl).f0) : Calls Try.prog 9 #[.slice A0 l.length c0, .slice A1 hv.length c1, .int .i64 early] w fun e w' => e = .returned (.bool true) ∧ Below w.heap.size w w' := by
  have HR0 := Aside0.mk hr0; have HR1 := Aside0.mk hr1; clear hr0 hr1
  have HB := Aside0.mk (Below.refl w.heap.size w)
  have HL := Aside0.mk (first_low l hr h1); have HS := Aside0.mk hr
  have d8 : decide ((8 : Int) < (hv.length : Int)) = false := by simp; omega
  have HF := Aside0.mk hf; have H8 := Aside0.mk h8
  clear hr hf h8
  have hll : l.length ≤ 977343669106 := by have := HF.out.2.1; omega
  by_cases hl : 0 < l.length
  case' pos =>
    have d9 : decide ((0 : Int) < (l.length : Int)) = true := by simp; omega
    obtain ⟨ad, A10, c10, A11, c11, rfl, e0, erest⟩ := at_T58 HR0.out 0 (by omega) (by omega)
    clear erest
    rw [show rd_T58 l 0 = l[0] from rd58 l 0 hl] at e0
    simp only [Int.toNat_zero, Nat.zero_mul, Addr.add_zero'] at e0
    have d0 : decide ((l[0]).f0 < 1) = false := by have := h1 hl; simp; omega
    clear h1
    generalize (l[0]).f0 = At at *
    have i0 : (0 : Int) < (l.length : Int) := by omega
    have E0 := Aside0.mk e0; clear e0
    go_enter Try.func9, Try.ntmps9
    go_upto_region 3 with (first | (go_at_call 27; refine (careenlaw14_awake.go _).mono ?_; rintro e w1 ⟨rfl, hb1⟩; have n_ := Aside0.mk (Arr.below_trans HB.out hb1); clear HB; have HB := n_; clear n_ hb1; (try clear e0); have e0 := pw_cell_below HB.out E0.out) | (go_at_call 28; refine (careenref11_Few.calls kb _ c0 l true _ (Kd.C_below HR0.out HB.out) hc0 HKB.out).mono ?_; rintro e w1 ⟨rfl, hb1⟩; have n_ := Aside0.mk (Arr.below_trans HB.out hb1); clear HB; have HB := n_; clear n_ hb1; (try clear e0); have e0 := pw_cell_below HB.out E0.out) | (go_at_call 36; refine (careenref11_Rises.calls kr _ c0 l true _ (Kd.C_below HR0.out HB.out) hc0 HKR.out).mono ?_; rintro e w1 ⟨rfl, hb0⟩; have hb1 := hb0.below; clear hb0; have n_ := Aside0.mk (Arr.below_trans HB.out hb1); clear HB; have HB := n_; clear n_ hb1; (try clear e0); have e0 := pw_cell_below HB.out E0.out))
    clear e0 E0 d0 i0 d9 d8 hl
  case' neg =>
    have d9 : decide ((0 : Int) < (l.length : Int)) = false := by rw [decide_eq_false_iff_not]; omega
    clear h1
    go_enter Try.func9, Try.ntmps9
    go_upto_region 3 with (first | (go_at_call 27; refine (careenlaw14_awake.go _).mono ?_; rintro e w1 ⟨rfl, hb1⟩; have n_ := Aside0.mk (Arr.below_trans HB.out hb1); clear HB; have HB := n_; clear n_ hb1) | (go_at_call 28; refine (careenref11_Few.calls kb _ c0 l true _ (Kd.C_below HR0.out HB.out) hc0 HKB.out).mono ?_; rintro e w1 ⟨rfl, hb1⟩; have n_ := Aside0.mk (Arr.below_trans HB.out hb1); clear HB; have HB := n_; clear n_ hb1) | (go_at_call 36; refine (careenref11_Rises.calls kr _ c0 l true _ (Kd.C_below HR0.out HB.out) hc0 HKR.out).mono ?_; rintro e w1 ⟨rfl, hb0⟩; have hb1 := hb0.below; clear hb0; have n_ := Aside0.mk (Arr.below_trans HB.out hb1); clear HB; have HB := n_; clear n_ hb1))
    clear d9 d8 hl
  all_goals
    go_upto_region 6 with (fail)
    have HA := Aside0.mk (show From l hv 0 2147483647 from ⟨by omega, by omega, fun n h => absurd h (Nat.not_lt_zero n)⟩)
    go_loopw [7, 8, 9, 48] (fun v7 v8 v9 i wr => ∃ (j : Nat) (f : Int), i = .int .i64 j ∧ v9 = .int .i64 f ∧ Aside0 (j ≤ hv.length) ∧ Aside0 (From l hv j f) ∧ Aside0 (OwnP w wr v7 (pgs l hv j)) ∧ Aside0 (OwnP w wr v8 (wts l j)) ∧ Aside0 (NeRow v7 v8) ∧ Aside0 (Below w.heap.size w wr)) (fun _ _ _ i _ => hv.length - (intOf i).toNat)
    case atStart => exact ⟨0, 2147483647, rfl, rfl, ⟨Nat.zero_le _⟩, HA, ⟨own_nil _ _ _ _⟩, ⟨own_nil _ _ _ _⟩, ⟨ne_nil _⟩, HB⟩
    case round =>
      clear HB HA
      obtain ⟨j, f, rfl, rfl, J, HA, HP7, HP8, HN, HB⟩ := hrel
      by_cases hlt : (j : Int) < (hv.length : Int)
      · have hjl : j < hv.length := by omega
        have hge : (0 : Int) ≤ (j : Int) := by omega
        obtain ⟨ad1, rfl, e0⟩ := u8_at HR1.out j hjl
        replace e0 := pw_cell_below HB.out e0
        have hv0 : 0 ≤ hv.getD j 0 ∧ hv.getD j 0 < 256 := by
          have := HF.out.2.2.2 _ (List.getElem_mem hjl)
          rw [List.getD_eq_getElem?_getD, List.getElem?_eq_getElem hjl]; simpa using this
        have HK := Aside0.mk (show kOf l hv j = (hv.getD j 0).toNat % ((vals j l).length + 1) from rfl)
        generalize hv.getD j 0 = hb at *
        go_upto_region 10 with (fail)
        clear e0
        go_loopw [12, 55] (fun v i wr => ∃ q : Nat, i = .int .i64 q ∧ Aside0 (q ≤ l.length) ∧ Aside0 (OwnE w wr v (vals j (l.take q))) ∧ Aside0 (OwnP w wr u7 (pgs l hv j)) ∧ Aside0 (OwnP w wr u8 (wts l j)) ∧ Aside0 (Below w.heap.size w wr)) (fun _ i _ => l.length - (intOf i).toNat)
        case atStart => exact ⟨0, rfl, ⟨Nat.zero_le _⟩, ⟨⟨[], own_nil _ _ _ _, Reps.none _ _⟩⟩, HP7, HP8, HB⟩
        case round =>
          clear HB HP7 HP8 hlt hge
          obtain ⟨q, rfl, Q, HO, HP7, HP8, HB⟩ := hrel
          by_cases hlt : (q : Int) < (l.length : Int)
          · have hge : (0 : Int) ≤ (q : Int) := by omega
            have hql : q < l.length := by omega
            have HT := Aside0.mk (show l.take (q + 1) = l.take q ++ [l[q]] by rw [List.take_succ_eq_append_getElem hql])
            obtain ⟨ad, A10, c10, A11, c11, he, e0, e1, e2, e3, e4, e5, e6, e7, e8, e9, e10, e11, m9, n9, m10, n10⟩ := at_T58 HR0.out (q : Int) hge hlt
            cases he
            rw [rd58 l q hql] at e0 e1 e2 e3 e4 e5 e6 e7 e8 e9 e10 e11 m9 n9 m10 n10
            simp only [Int.toNat_natCast] at e0 e1 e2 e3 e4 e5 e6 e7 e8 e9 e10 e11
            have h8 := HF.out.1 _ (List.getElem_mem hql)
            generalize l[q] = x at *
            obtain ⟨At, ⟨r0, r1, r2, r3, r4, r5, r6, r7, r8, r9, r10⟩⟩ := x
            simp only at e0 e1 e2 e3 e4 e5 e6 e7 e8 e9 e10 e11 m9 n9 m10 n10 h8
            replace e0 := pw_cell_below HB.out e0; replace e1 := pw_cell_below HB.out e1; replace e2 := pw_cell_below HB.out e2; replace e3 := pw_cell_below HB.out e3; replace e4 := pw_cell_below HB.out e4; replace e5 := pw_cell_below HB.out e5; replace e6 := pw_cell_below HB.out e6; replace e7 := pw_cell_below HB.out e7; replace e8 := pw_cell_below HB.out e8; replace e9 := pw_cell_below HB.out e9; replace e10 := pw_cell_below HB.out e10; replace e11 := pw_cell_below HB.out e11
            have HK9 := Aside0.mk (k58_mk w ⟨At, ⟨r0, r1, r2, r3, r4, r5, r6, r7, r8, r9, r10⟩⟩ m9 n9 m10 n10)
            have HEV := Aside0.mk (ref_ev ⟨At, ⟨r0, r1, r2, r3, r4, r5, r6, r7, r8, r9, r10⟩⟩ h8)
            have HEF := Aside0.mk (show effB ⟨At, ⟨r0, r1, r2, r3, r4, r5, r6, r7, r8, r9, r10⟩⟩ = ((applyF 0 (Arr.noughts 220) 1 r0 r3 r8).1 == 1) from rfl)
            generalize applyF 0 (Arr.noughts 220) 1 r0 r3 r8 = ap at *
            obtain ⟨a1, a2⟩ := ap
            simp only at HEF
            have M9 := Aside0.mk n9; have N9 := Aside0.mk m9; have M10 := Aside0.mk n10; have N10 := Aside0.mk m10; clear m9 n9 m10 n10 h8
            go_upto_region 12 with (fail)
            have b5 := heap_alloc_new wr (Obj.cells #[.int .i64 At, .int .i64 r0, .int .i64 r1, .int .i64 r2, .int .i64 r3, .int .i64 r4, .int .i64 r5, .int .i64 r6, .string r7, .string r8, .slice A10 r9.length c10, .slice A11 r10.length c11] 58)
            have hA5 := (Below.refl wr.heap.size wr).alloc (Nat.le_refl _) (Obj.cells #[.int .i64 At, .int .i64 r0, .int .i64 r1, .int .i64 r2, .int .i64 r3, .int .i64 r4, .int .i64 r5, .int .i64 r6, .string r7, .string r8, .slice A10 r9.length c10, .slice A11 r10.length c11] 58)
            have HB5 := Aside0.mk (Arr.below_trans HB.out hA5)
            have HO5 := Aside0.mk (HO.out.below hA5); have HP75 := Aside0.mk (HP7.out.below hA5); have HP85 := Aside0.mk (HP8.out.below hA5)
            have hbz : w.heap.size ≤ wr.heap.size := HB.out.size
            clear HB HO HP7 HP8 e0 e1 e2 e3 e4 e5 e6 e7 e8 e9 e10 e11 hA5
            generalize wr.alloc (Obj.cells #[.int .i64 At, .int .i64 r0, .int .i64 r1, .int .i64 r2, .int .i64 r3, .int .i64 r4, .int .i64 r5, .int .i64 r6, .string r7, .string r8, .slice A10 r9.length c10, .slice A11 r10.length c11] 58) = w5 at *
            generalize wr.heap.size = gb at *
            have B5 := Aside0.mk b5
            have f0 := blk_cell b5 0; have f1 := blk_cell b5 1; have f2 := blk_cell b5 2; have f3 := blk_cell b5 3; have f4 := blk_cell b5 4; have f5 := blk_cell b5 5; have f6 := blk_cell b5 6; have f7 := blk_cell b5 7; have f8 := blk_cell b5 8; have f9 := blk_cell b5 9; have f10 := blk_cell b5 10; have f11 := blk_cell b5 11
            clear b5
            by_cases c1 : r2 = (j : Int)
            · have d1 : (r2 == (j : Int)) = true := by simpa using c1
              have C1 := Aside0.mk c1; clear c1
              by_cases c2 : a1 = 1
              · have d2 : (a1 == 1) = true := by simpa using c2
                have C2 := Aside0.mk c2; clear c2
                by_cases c3 : At ≤ 2147483647
                · have d3 : decide (At ≤ 2147483647) = true := by simpa using c3
                  have C3 := Aside0.mk c3; clear c3
                  refine start_ (n := 18) (S := fun w' => w'.cell? ⟨gb, 0, none⟩ = some (.int .i64 At) ∧ w'.cell? ⟨gb, 1, none⟩ = some (.int .i64 r0) ∧ w'.cell? ⟨gb, 2, none⟩ = some (.int .i64 r1) ∧ w'.cell? ⟨gb, 3, none⟩ = some (.int .i64 r2) ∧ w'.cell? ⟨gb, 4, none⟩ = some (.int .i64 r3) ∧ w'.cell? ⟨gb, 5, none⟩ = some (.int .i64 r4) ∧ w'.cell? ⟨gb, 6, none⟩ = some (.int .i64 r5) ∧ w'.cell? ⟨gb, 7, none⟩ = some (.int .i64 r6) ∧ w'.cell? ⟨gb, 8, none⟩ = some (.string r7) ∧ w'.cell? ⟨gb, 9, none⟩ = some (.string r8) ∧ w'.cell? ⟨gb, 10, none⟩ = some (.slice A10 r9.length c10) ∧ w'.cell? ⟨gb, 11, none⟩ = some (.slice A11 r10.length c11)) (ds := []) #[false, false, false, false, false, false, false, false, false, false, false, false, false, false, false, false, false, false] (by kernel_rfl) rfl rfl ⟨f0, f1, f2, f3, f4, f5, f6, f7, f8, f9, f10, f11⟩ (fun hHeld => ?_)
                  refine pure_ (i := 0) (N := some 59) (v := ?_) (a' := ?_) #[true, false, false, false, false, false, false, false, false, false, false, false, false, false, false, false, false, false] rfl rfl (by kernel_rfl) (fun _ _ _ h => h) (Or.inl ⟨by rfl, ?_⟩) ?_ ?_
                  rotate_left
                  · intro w'
                    go_simp
                    with_reducible rfl
                  rotate_left
                  · simp only [Act.put, List.setIfInBounds_toArray, List.set_cons_zero, List.set_cons_succ, i64_w, i32_w]
                    rfl
                  refine pure_ (i := 1) (N := some 60) (v := ?_) (a' := ?_) #[true, true, false, false, false, false, false, false, false, false, false, false, false, false, false, false, false, false] rfl rfl (by kernel_rfl) (fun _ _ _ h => h) (Or.inl ⟨by rfl, ?_⟩) ?_ ?_
                  rotate_left
                  · intro w'
                    go_simp
                    with_reducible rfl
                  rotate_left
                  · simp only [Act.put, List.setIfInBounds_toArray, List.set_cons_zero, List.set_cons_succ, i64_w, i32_w]
                    rfl
                  refine pure_ (i := 3) (N := some 62) (v := ?_) (a' := ?_) #[true, true, false, true, false, false, false, false, false, false, false, false, false, false, false, false, false, false] rfl rfl (by kernel_rfl) (fun _ _ _ h => h) (Or.inl ⟨by rfl, ?_⟩) ?_ ?_
                  rotate_left
                  · intro w'
                    go_simp
                    with_reducible rfl
                  rotate_left
                  · simp only [Act.put, List.setIfInBounds_toArray, List.set_cons_zero, List.set_cons_succ, i64_w, i32_w]
                    rfl
                  refine take_ (i := 2) (N := some 61) (v := ?_) (a' := ?_) #[true, true, true, true, false, false, false, false, false, false, false, false, false, false, false, false, false, false] rfl rfl (by kernel_rfl) (fun _ _ _ h => h) (Or.inl ⟨by rfl, ?_⟩) hHeld ?_ ?_
                  rotate_left
                  · rintro w' ⟨s0_, s1_, s2_, s3_, s4_, s5_, s6_, s7_, s8_, s9_, s10_, s11_⟩
                    go_simp
                    with_reducible rfl
                  rotate_left
                  · simp only [Act.put, List.setIfInBounds_toArray, List.set_cons_zero, List.set_cons_succ, i64_w, i32_w]
                    rfl
                  refine pure_ (i := 4) (N := some 63) (v := ?_) (a' := ?_) #[true, true, true, true, true, false, false, false, false, false, false, false, false, false, false, false, false, false] rfl rfl (by kernel_rfl) (fun _ _ _ h => h) (Or.inl ⟨by rfl, ?_⟩) ?_ ?_
                  rotate_left
                  · intro w'
                    go_simp
                    with_reducible rfl
                  rotate_left
                  · simp only [Act.put, List.setIfInBounds_toArray, List.set_cons_zero, List.set_cons_succ, i64_w, i32_w]
                    rfl
                  refine pure_ (i := 5) (N := some 64) (v := ?_) (a' := ?_) #[true, true, true, true, true, true, false, false, false, false, false, false, false, false, false, false, false, false] rfl rfl (by kernel_rfl) (fun _ _ _ h => h) (Or.inl ⟨by rfl, ?_⟩) ?_ ?_
                  rotate_left
                  · intro w'
                    go_simp
                    with_reducible rfl
                  rotate_left
                  · simp only [Act.put, List.setIfInBounds_toArray, List.set_cons_zero, List.set_cons_succ, i64_w, i32_w]
                    rfl
                  refine pure_ (i := 7) (N := some 66) (v := ?_) (a' := ?_) #[true, true, true, true, true, true, false, true, false, false, false, false, false, false, false, false, false, false] rfl rfl (by kernel_rfl) (fun _ _ _ h => h) (Or.inl ⟨by rfl, ?_⟩) ?_ ?_
                  rotate_left
                  · intro w'
                    go_simp
                    with_reducible rfl
                  rotate_left
                  · simp only [Act.put, List.setIfInBounds_toArray, List.set_cons_zero, List.set_cons_succ, i64_w, i32_w]
                    rfl
                  refine take_ (i := 8) (N := some 67) (v := ?_) (a' := ?_) #[true, true, true, true, true, true, false, true, true, false, false, false, false, false, false, false, false, false] rfl rfl (by kernel_rfl) (fun _ _ _ h => h) (Or.inl ⟨by rfl, ?_⟩) hHeld ?_ ?_
                  rotate_left
                  · rintro w' ⟨s0_, s1_, s2_, s3_, s4_, s5_, s6_, s7_, s8_, s9_, s10_, s11_⟩
                    go_simp
                    with_reducible rfl
                  rotate_left
                  · simp only [Act.put, List.setIfInBounds_toArray, List.set_cons_zero, List.set_cons_succ, i64_w, i32_w]
                    rfl
                  refine one_ (i := 6) (N := some 65) #[true, true, true, true, true, true, true, true, true, false, false, false, false, false, false, false, false, false] rfl rfl (by kernel_rfl) (by decide) (fun K hK => ?_)
                  refine goes_ Try.func23 (by kernel_rfl) rfl #[] (by rfl) rfl rfl (by (try simp only [List.map_toArray, List.map_cons, List.map_nil]); first | done | rfl) ?_
                  refine (careenref06_Empty.calls 0 (Arr.noughts 220) _ empty_ref).mono ?_
                  rintro e w6 ⟨rfl, hb6⟩
                  refine ⟨_, rfl, ?_⟩
                  have HB6 := Aside0.mk (Arr.below_trans HB5.out.drew hb6)
                  have hb56 := Arr.below_trans (Below.refl w5.heap.size w5).drew hb6
                  have HB56 := Aside0.mk hb56
                  have l5 : gb < w5.drew.heap.size := blk_lt B5.out
                  have t2 : ∀ i, w6.cell? ⟨gb, i, none⟩ = w5.drew.cell? ⟨gb, i, none⟩ := fun i => hb6.cell (p := ⟨gb, i, none⟩) l5
                  refine hK _ _ ⟨(t2 0).trans hHeld.1, (t2 1).trans hHeld.2.1, (t2 2).trans hHeld.2.2.1, (t2 3).trans hHeld.2.2.2.1, (t2 4).trans hHeld.2.2.2.2.1, (t2 5).trans hHeld.2.2.2.2.2.1, (t2 6).trans hHeld.2.2.2.2.2.2.1, (t2 7).trans hHeld.2.2.2.2.2.2.2.1, (t2 8).trans hHeld.2.2.2.2.2.2.2.2.1, (t2 9).trans hHeld.2.2.2.2.2.2.2.2.2.1, (t2 10).trans hHeld.2.2.2.2.2.2.2.2.2.2.1, (t2 11).trans hHeld.2.2.2.2.2.2.2.2.2.2.2⟩ (fun hHeld => ?_)
                  clear hK K t2 l5 hb6 hb56
                  refine norm_ (a' := ?_) ?_ ?_
                  rotate_left
                  · show Act.put _ (some 65) _ = _
                    simp only [Act.put, List.setIfInBounds_toArray, List.set_cons_zero, List.set_cons_succ, i64_w, i32_w]
                    rfl
                  refine one_ (i := 9) (N := some 68) #[true, true, true, true, true, true, true, true, true, true, false, false, false, false, false, false, false, false] rfl rfl (by kernel_rfl) (by decide) (fun K hK => ?_)
                  refine goes_ Try.func26 (by kernel_rfl) rfl #[.agg #[.int .i64 0, .string (Arr.noughts 220)], .int .i64 1, .agg #[.int .i64 r0, .int .i64 r1, .int .i64 r2, .int .i64 r3, .int .i64 r4, .int .i64 r5, .int .i64 r6, .string r7, .string r8, .slice A10 r9.length c10, .slice A11 r10.length c11]] (by rfl) rfl rfl (by (try simp only [List.map_toArray, List.map_cons, List.map_nil]); first | done | rfl) ?_
                  refine (careenref06_Apply.calls 1 0 (Arr.noughts 220) 1 r0 r1 r2 r3 r4 r5 r6 r7 r8 A10 c10 r9 A11 c11 r10 a1 a2 _ (Kd.C_below M9.out HB6.out) N9.out (Kd.C_below M10.out HB6.out) N10.out HEV.out).mono ?_
                  rintro e w7 ⟨rfl, hb7⟩
                  refine ⟨_, rfl, ?_⟩
                  have HB7 := Aside0.mk (Arr.below_trans HB6.out hb7)
                  have HB57 := Aside0.mk (Arr.below_trans HB56.out hb7)
                  have l6 : gb < w6.heap.size := by have := hHeld.1; exact World.block_lt_of_cell? _ _ this
                  have t2 : ∀ i, w7.cell? ⟨gb, i, none⟩ = w6.cell? ⟨gb, i, none⟩ := fun i => hb7.cell (p := ⟨gb, i, none⟩) l6
                  refine hK _ _ ⟨(t2 0).trans hHeld.1, (t2 1).trans hHeld.2.1, (t2 2).trans hHeld.2.2.1, (t2 3).trans hHeld.2.2.2.1, (t2 4).trans hHeld.2.2.2.2.1, (t2 5).trans hHeld.2.2.2.2.2.1, (t2 6).trans hHeld.2.2.2.2.2.2.1, (t2 7).trans hHeld.2.2.2.2.2.2.2.1, (t2 8).trans hHeld.2.2.2.2.2.2.2.2.1, (t2 9).trans hHeld.2.2.2.2.2.2.2.2.2.1, (t2 10).trans hHeld.2.2.2.2.2.2.2.2.2.2.1, (t2 11).trans hHeld.2.2.2.2.2.2.2.2.2.2.2⟩ (fun hHeld => ?_)
                  clear hK K t2 l6 hb7
                  refine norm_ (a' := ?_) ?_ ?_
                  rotate_left
                  · show Act.put _ (some 68) _ = _
                    simp only [Act.put, List.setIfInBounds_toArray, List.set_cons_zero, List.set_cons_succ, i64_w, i32_w]
                    rfl
                  refine pure_ (i := 10) (N := some 69) (v := ?_) (a' := ?_) #[true, true, true, true, true, true, true, true, true, true, true, false, false, false, false, false, false, false] rfl rfl (by kernel_rfl) (fun _ _ _ h => h) (Or.inl ⟨by rfl, ?_⟩) ?_ ?_
                  rotate_left
                  · intro w'
                    go_simp
                    with_reducible rfl
                  rotate_left
                  · simp only [Act.put, List.setIfInBounds_toArray, List.set_cons_zero, List.set_cons_succ, i64_w, i32_w]
                    rfl
                  refine pure_ (i := 11) (N := some 70) (v := ?_) (a' := ?_) #[true, true, true, true, true, true, true, true, true, true, true, true, false, false, false, false, false, false] rfl rfl (by kernel_rfl) (fun _ _ _ h => h) (Or.inl ⟨by rfl, ?_⟩) ?_ ?_
                  rotate_left
                  · intro w'
                    go_simp
                    with_reducible rfl
                  rotate_left
                  · simp only [Act.put, List.setIfInBounds_toArray, List.set_cons_zero, List.set_cons_succ, i64_w, i32_w]
                    rfl
                  refine pure_ (i := 12) (N := some 71) (v := ?_) (a' := ?_) #[true, true, true, true, true, true, true, true, true, true, true, true, true, false, false, false, false, false] rfl rfl (by kernel_rfl) (fun _ _ _ h => h) (Or.inl ⟨by rfl, ?_⟩) ?_ ?_
                  rotate_left
                  · intro w'
                    go_simp
                    with_reducible rfl
                  rotate_left
                  · simp only [Act.put, List.setIfInBounds_toArray, List.set_cons_zero, List.set_cons_succ, i64_w, i32_w]
                    rfl
                  refine pure_ (i := 13) (N := some 72) (v := ?_) (a' := ?_) #[true, true, true, true, true, true, true, true, true, true, true, true, true, true, false, false, false, false] rfl rfl (by kernel_rfl) (fun _ _ _ h => h) (Or.inl ⟨by rfl, ?_⟩) ?_ ?_
                  rotate_left
                  · intro w'
                    go_simp
                    with_reducible rfl
                  rotate_left
                  · simp only [Act.put, List.setIfInBounds_toArray, List.set_cons_zero, List.set_cons_succ, i64_w, i32_w]
                    rfl
                  refine pure_ (i := 14) (N := some 73) (v := ?_) (a' := ?_) #[true, true, true, true, true, true, true, true, true, true, true, true, true, true, true, false, false, false] rfl rfl (by kernel_rfl) (fun _ _ _ h => h) (Or.inl ⟨by rfl, ?_⟩) ?_ ?_
                  rotate_left
                  · intro w'
                    go_simp
                    with_reducible rfl
                  rotate_left
                  · simp only [Act.put, List.setIfInBounds_toArray, List.set_cons_zero, List.set_cons_succ, i64_w, i32_w]
                    rfl
                  refine take_ (i := 15) (N := some 74) (v := ?_) (a' := ?_) #[true, true, true, true, true, true, true, true, true, true, true, true, true, true, true, true, false, false] rfl rfl (by kernel_rfl) (fun _ _ _ h => h) (Or.inl ⟨by rfl, ?_⟩) hHeld ?_ ?_
                  rotate_left
                  · rintro w' ⟨s0_, s1_, s2_, s3_, s4_, s5_, s6_, s7_, s8_, s9_, s10_, s11_⟩
                    go_simp
                    with_reducible rfl
                  rotate_left
                  · simp only [Act.put, List.setIfInBounds_toArray, List.set_cons_zero, List.set_cons_succ, i64_w, i32_w]
                    rfl
                  refine pure_ (i := 16) (N := some 75) (v := ?_) (a' := ?_) #[true, true, true, true, true, true, true, true, true, true, true, true, true, true, true, true, true, false] rfl rfl (by kernel_rfl) (fun _ _ _ h => h) (Or.inl ⟨by rfl, ?_⟩) ?_ ?_
                  rotate_left
                  · intro w'
                    go_simp
                    with_reducible rfl
                  rotate_left
                  · simp only [Act.put, List.setIfInBounds_toArray, List.set_cons_zero, List.set_cons_succ, i64_w, i32_w]
                    rfl
                  refine pure_ (i := 17) (N := some 76) (v := ?_) (a' := ?_) #[true, true, true, true, true, true, true, true, true, true, true, true, true, true, true, true, true, true] rfl rfl (by kernel_rfl) (fun _ _ _ h => h) (Or.inl ⟨by rfl, ?_⟩) ?_ ?_
                  rotate_left
                  · intro w'
                    go_simp
                    with_reducible rfl
                  rotate_left
                  · simp only [Act.put, List.setIfInBounds_toArray, List.set_cons_zero, List.set_cons_succ, i64_w, i32_w]
                    rfl
                  refine done_ (by kernel_rfl) ?_
                  obtain ⟨g0, g1, g2, g3, g4, g5, g6, g7, g8, g9, g10, g11⟩ := hHeld
                  have hv1 : vals (j : Int) (l.take (q + 1)) = vals (j : Int) (l.take q) ++ [⟨At, ⟨r0, r1, r2, r3, r4, r5, r6, r7, r8, r9, r10⟩⟩] := by
                    rw [HT.out]; exact vals_take _ _ _ (valB_true C1.out (by rw [HEF.out]; exact d2) C3.out)
                  obtain ⟨cs, ho, hrp⟩ := HO5.out.below HB57.out
                  have HOO := Aside0.mk ho; have HRP := Aside0.mk hrp; have HV1 := Aside0.mk hv1; clear ho hrp hv1
                  have HP77 := Aside0.mk (HP75.out.below HB57.out); have HP87 := Aside0.mk (HP85.out.below HB57.out)
                  have hown : (vals (j : Int) (l.take q)).length ≤ l.length := Nat.le_trans (List.length_filter_le ..) (List.length_take_le' ..)
                  have hlim : ((vals (j : Int) (l.take q)).length + 1) * 144 ≤ 140737488355328 := by have := HF.out.2.1; omega
                  clear d1 d2 d3 HB57 HB56 HB6 HB5 HO5 HP75 HP85
                  go_wp2_with ((with_reducible refine gate_builtin (b := .append) (xs := #[.tmp 77, .tmp 79]) rfl ?_); at_builtin; refine print_append_cells (w0 := w) w.heap.size rfl (.tmp 77) (.tmp 79) 48 58 _ 12 144 rfl Try.underlying48 info58 rfl (by decide) (by decide) _ _ cs [.int .i64 At, .int .i64 r0, .int .i64 r1, .int .i64 r2, .int .i64 r3, .int .i64 r4, .int .i64 r5, .int .i64 r6, .string r7, .string r8, .slice A10 r9.length c10, .slice A11 r10.length c11] rfl rfl rfl ?h1 HOO.out HB7.out HB7.out.size hlim ?_; (case h1 => simp [Value.oneCell']); intro v1 w8 hown1 hB8 hg8 hat8)
                  have hR := Reps.snoc HRP.out HK9.out rfl
                  have HO8 : Aside0 (OwnE w w8 v1 (vals (j : Int) (l.take (q + 1)))) := ⟨⟨_, by rw [HV1.out, List.length_append]; exact hown1, by rw [HV1.out]; exact hR⟩⟩
                  have HP78 : Aside0 (OwnP w w8 u7 (pgs l hv j)) := ⟨own_other HP77.out hg8 (own_type_ne HP77.out HOO.out (by decide))⟩
                  have HP88 : Aside0 (OwnP w w8 u8 (wts l j)) := ⟨own_other HP87.out hg8 (own_type_ne HP87.out HOO.out (by decide))⟩
                  have HB8 := Aside0.mk hB8
                  clear hown1 hB8 hg8 hat8 hR g0 g1 g2 g3 g4 g5 g6 g7 g8 g9 g10 g11
                  go_roundw
                  case rel => exact ⟨q + 1, by go_num, ⟨by omega⟩, HO8, HP78, HP88, HB8⟩
                  case measure => simp [intOf]; omega
                · have d3 : decide (At ≤ 2147483647) = false := by simpa using c3
                  have hv1 : vals (j : Int) (l.take (q + 1)) = vals (j : Int) (l.take q) := by
                    rw [HT.out]; exact vals_keep _ _ _ (valB_false (.inr (.inr c3)))
                  have HV1 := Aside0.mk hv1; clear c3 hv1
                  refine start_ (n := 18) (S := fun w' => w'.cell? ⟨gb, 0, none⟩ = some (.int .i64 At) ∧ w'.cell? ⟨gb, 1, none⟩ = some (.int .i64 r0) ∧ w'.cell? ⟨gb, 2, none⟩ = some (.int .i64 r1) ∧ w'.cell? ⟨gb, 3, none⟩ = some (.int .i64 r2) ∧ w'.cell? ⟨gb, 4, none⟩ = some (.int .i64 r3) ∧ w'.cell? ⟨gb, 5, none⟩ = some (.int .i64 r4) ∧ w'.cell? ⟨gb, 6, none⟩ = some (.int .i64 r5) ∧ w'.cell? ⟨gb, 7, none⟩ = some (.int .i64 r6) ∧ w'.cell? ⟨gb, 8, none⟩ = some (.string r7) ∧ w'.cell? ⟨gb, 9, none⟩ = some (.string r8) ∧ w'.cell? ⟨gb, 10, none⟩ = some (.slice A10 r9.length c10) ∧ w'.cell? ⟨gb, 11, none⟩ = some (.slice A11 r10.length c11)) (ds := []) #[false, false, false, false, false, false, false, false, false, false, false, false, false, false, false, false, false, false] (by kernel_rfl) rfl rfl ⟨f0, f1, f2, f3, f4, f5, f6, f7, f8, f9, f10, f11⟩ (fun hHeld => ?_)
                  refine pure_ (i := 0) (N := some 59) (v := ?_) (a' := ?_) #[true, false, false, false, false, false, false, false, false, false, false, false, false, false, false, false, false, false] rfl rfl (by kernel_rfl) (fun _ _ _ h => h) (Or.inl ⟨by rfl, ?_⟩) ?_ ?_
                  rotate_left
                  · intro w'
                    go_simp
                    with_reducible rfl
                  rotate_left
                  · simp only [Act.put, List.setIfInBounds_toArray, List.set_cons_zero, List.set_cons_succ, i64_w, i32_w]
                    rfl
                  refine pure_ (i := 1) (N := some 60) (v := ?_) (a' := ?_) #[true, true, false, false, false, false, false, false, false, false, false, false, false, false, false, false, false, false] rfl rfl (by kernel_rfl) (fun _ _ _ h => h) (Or.inl ⟨by rfl, ?_⟩) ?_ ?_
                  rotate_left
                  · intro w'
                    go_simp
                    with_reducible rfl
                  rotate_left
                  · simp only [Act.put, List.setIfInBounds_toArray, List.set_cons_zero, List.set_cons_succ, i64_w, i32_w]
                    rfl
                  refine pure_ (i := 3) (N := some 62) (v := ?_) (a' := ?_) #[true, true, false, true, false, false, false, false, false, false, false, false, false, false, false, false, false, false] rfl rfl (by kernel_rfl) (fun _ _ _ h => h) (Or.inl ⟨by rfl, ?_⟩) ?_ ?_
                  rotate_left
                  · intro w'
                    go_simp
                    with_reducible rfl
                  rotate_left
                  · simp only [Act.put, List.setIfInBounds_toArray, List.set_cons_zero, List.set_cons_succ, i64_w, i32_w]
                    rfl
                  refine take_ (i := 2) (N := some 61) (v := ?_) (a' := ?_) #[true, true, true, true, false, false, false, false, false, false, false, false, false, false, false, false, false, false] rfl rfl (by kernel_rfl) (fun _ _ _ h => h) (Or.inl ⟨by rfl, ?_⟩) hHeld ?_ ?_
                  rotate_left
                  · rintro w' ⟨s0_, s1_, s2_, s3_, s4_, s5_, s6_, s7_, s8_, s9_, s10_, s11_⟩
                    go_simp
                    with_reducible rfl
                  rotate_left
                  · simp only [Act.put, List.setIfInBounds_toArray, List.set_cons_zero, List.set_cons_succ, i64_w, i32_w]
                    rfl
                  refine pure_ (i := 4) (N := some 63) (v := ?_) (a' := ?_) #[true, true, true, true, true, false, false, false, false, false, false, false, false, false, false, false, false, false] rfl rfl (by kernel_rfl) (fun _ _ _ h => h) (Or.inl ⟨by rfl, ?_⟩) ?_ ?_
                  rotate_left
                  · intro w'
                    go_simp
                    with_reducible rfl
                  rotate_left
                  · simp only [Act.put, List.setIfInBounds_toArray, List.set_cons_zero, List.set_cons_succ, i64_w, i32_w]
                    rfl
                  refine pure_ (i := 5) (N := some 64) (v := ?_) (a' := ?_) #[true, true, true, true, true, true, false, false, false, false, false, false, false, false, false, false, false, false] rfl rfl (by kernel_rfl) (fun _ _ _ h => h) (Or.inl ⟨by rfl, ?_⟩) ?_ ?_
                  rotate_left
                  · intro w'
                    go_simp
                    with_reducible rfl
                  rotate_left
                  · simp only [Act.put, List.setIfInBounds_toArray, List.set_cons_zero, List.set_cons_succ, i64_w, i32_w]
                    rfl
                  refine pure_ (i := 7) (N := some 66) (v := ?_) (a' := ?_) #[true, true, true, true, true, true, false, true, false, false, false, false, false, false, false, false, false, false] rfl rfl (by kernel_rfl) (fun _ _ _ h => h) (Or.inl ⟨by rfl, ?_⟩) ?_ ?_
                  rotate_left
                  · intro w'
                    go_simp
                    with_reducible rfl
                  rotate_left
                  · simp only [Act.put, List.setIfInBounds_toArray, List.set_cons_zero, List.set_cons_succ, i64_w, i32_w]
                    rfl
                  refine take_ (i := 8) (N := some 67) (v := ?_) (a' := ?_) #[true, true, true, true, true, true, false, true, true, false, false, false, false, false, false, false, false, false] rfl rfl (by kernel_rfl) (fun _ _ _ h => h) (Or.inl ⟨by rfl, ?_⟩) hHeld ?_ ?_
                  rotate_left
                  · rintro w' ⟨s0_, s1_, s2_, s3_, s4_, s5_, s6_, s7_, s8_, s9_, s10_, s11_⟩
                    go_simp
                    with_reducible rfl
                  rotate_left
                  · simp only [Act.put, List.setIfInBounds_toArray, List.set_cons_zero, List.set_cons_succ, i64_w, i32_w]
                    rfl
                  refine one_ (i := 6) (N := some 65) #[true, true, true, true, true, true, true, true, true, false, false, false, false, false, false, false, false, false] rfl rfl (by kernel_rfl) (by decide) (fun K hK => ?_)
                  refine goes_ Try.func23 (by kernel_rfl) rfl #[] (by rfl) rfl rfl (by (try simp only [List.map_toArray, List.map_cons, List.map_nil]); first | done | rfl) ?_
                  refine (careenref06_Empty.calls 0 (Arr.noughts 220) _ empty_ref).mono ?_
                  rintro e w6 ⟨rfl, hb6⟩
                  refine ⟨_, rfl, ?_⟩
                  have HB6 := Aside0.mk (Arr.below_trans HB5.out.drew hb6)
                  have hb56 := Arr.below_trans (Below.refl w5.heap.size w5).drew hb6
                  have HB56 := Aside0.mk hb56
                  have l5 : gb < w5.drew.heap.size := blk_lt B5.out
                  have t2 : ∀ i, w6.cell? ⟨gb, i, none⟩ = w5.drew.cell? ⟨gb, i, none⟩ := fun i => hb6.cell (p := ⟨gb, i, none⟩) l5
                  refine hK _ _ ⟨(t2 0).trans hHeld.1, (t2 1).trans hHeld.2.1, (t2 2).trans hHeld.2.2.1, (t2 3).trans hHeld.2.2.2.1, (t2 4).trans hHeld.2.2.2.2.1, (t2 5).trans hHeld.2.2.2.2.2.1, (t2 6).trans hHeld.2.2.2.2.2.2.1, (t2 7).trans hHeld.2.2.2.2.2.2.2.1, (t2 8).trans hHeld.2.2.2.2.2.2.2.2.1, (t2 9).trans hHeld.2.2.2.2.2.2.2.2.2.1, (t2 10).trans hHeld.2.2.2.2.2.2.2.2.2.2.1, (t2 11).trans hHeld.2.2.2.2.2.2.2.2.2.2.2⟩ (fun hHeld => ?_)
                  clear hK K t2 l5 hb6 hb56
                  refine norm_ (a' := ?_) ?_ ?_
                  rotate_left
                  · show Act.put _ (some 65) _ = _
                    simp only [Act.put, List.setIfInBounds_toArray, List.set_cons_zero, List.set_cons_succ, i64_w, i32_w]
                    rfl
                  refine one_ (i := 9) (N := some 68) #[true, true, true, true, true, true, true, true, true, true, false, false, false, false, false, false, false, false] rfl rfl (by kernel_rfl) (by decide) (fun K hK => ?_)
                  refine goes_ Try.func26 (by kernel_rfl) rfl #[.agg #[.int .i64 0, .string (Arr.noughts 220)], .int .i64 1, .agg #[.int .i64 r0, .int .i64 r1, .int .i64 r2, .int .i64 r3, .int .i64 r4, .int .i64 r5, .int .i64 r6, .string r7, .string r8, .slice A10 r9.length c10, .slice A11 r10.length c11]] (by rfl) rfl rfl (by (try simp only [List.map_toArray, List.map_cons, List.map_nil]); first | done | rfl) ?_
                  refine (careenref06_Apply.calls 1 0 (Arr.noughts 220) 1 r0 r1 r2 r3 r4 r5 r6 r7 r8 A10 c10 r9 A11 c11 r10 a1 a2 _ (Kd.C_below M9.out HB6.out) N9.out (Kd.C_below M10.out HB6.out) N10.out HEV.out).mono ?_
                  rintro e w7 ⟨rfl, hb7⟩
                  refine ⟨_, rfl, ?_⟩
                  have HB7 := Aside0.mk (Arr.below_trans HB6.out hb7)
                  have HB57 := Aside0.mk (Arr.below_trans HB56.out hb7)
                  have l6 : gb < w6.heap.size := by have := hHeld.1; exact World.block_lt_of_cell? _ _ this
                  have t2 : ∀ i, w7.cell? ⟨gb, i, none⟩ = w6.cell? ⟨gb, i, none⟩ := fun i => hb7.cell (p := ⟨gb, i, none⟩) l6
                  refine hK _ _ ⟨(t2 0).trans hHeld.1, (t2 1).trans hHeld.2.1, (t2 2).trans hHeld.2.2.1, (t2 3).trans hHeld.2.2.2.1, (t2 4).trans hHeld.2.2.2.2.1, (t2 5).trans hHeld.2.2.2.2.2.1, (t2 6).trans hHeld.2.2.2.2.2.2.1, (t2 7).trans hHeld.2.2.2.2.2.2.2.1, (t2 8).trans hHeld.2.2.2.2.2.2.2.2.1, (t2 9).trans hHeld.2.2.2.2.2.2.2.2.2.1, (t2 10).trans hHeld.2.2.2.2.2.2.2.2.2.2.1, (t2 11).trans hHeld.2.2.2.2.2.2.2.2.2.2.2⟩ (fun hHeld => ?_)
                  clear hK K t2 l6 hb7
                  refine norm_ (a' := ?_) ?_ ?_
                  rotate_left
                  · show Act.put _ (some 68) _ = _
                    simp only [Act.put, List.setIfInBounds_toArray, List.set_cons_zero, List.set_cons_succ, i64_w, i32_w]
                    rfl
                  refine pure_ (i := 10) (N := some 69) (v := ?_) (a' := ?_) #[true, true, true, true, true, true, true, true, true, true, true, false, false, false, false, false, false, false] rfl rfl (by kernel_rfl) (fun _ _ _ h => h) (Or.inl ⟨by rfl, ?_⟩) ?_ ?_
                  rotate_left
                  · intro w'
                    go_simp
                    with_reducible rfl
                  rotate_left
                  · simp only [Act.put, List.setIfInBounds_toArray, List.set_cons_zero, List.set_cons_succ, i64_w, i32_w]
                    rfl
                  refine pure_ (i := 11) (N := some 70) (v := ?_) (a' := ?_) #[true, true, true, true, true, true, true, true, true, true, true, true, false, false, false, false, false, false] rfl rfl (by kernel_rfl) (fun _ _ _ h => h) (Or.inl ⟨by rfl, ?_⟩) ?_ ?_
                  rotate_left
                  · intro w'
                    go_simp
                    with_reducible rfl
                  rotate_left
                  · simp only [Act.put, List.setIfInBounds_toArray, List.set_cons_zero, List.set_cons_succ, i64_w, i32_w]
                    rfl
                  refine pure_ (i := 12) (N := some 71) (v := ?_) (a' := ?_) #[true, true, true, true, true, true, true, true, true, true, true, true, true, false, false, false, false, false] rfl rfl (by kernel_rfl) (fun _ _ _ h => h) (Or.inl ⟨by rfl, ?_⟩) ?_ ?_
                  rotate_left
                  · intro w'
                    go_simp
                    with_reducible rfl
                  rotate_left
                  · simp only [Act.put, List.setIfInBounds_toArray, List.set_cons_zero, List.set_cons_succ, i64_w, i32_w]
                    rfl
                  refine pure_ (i := 13) (N := some 72) (v := ?_) (a' := ?_) #[true, true, true, true, true, true, true, true, true, true, true, true, true, true, false, false, false, false] rfl rfl (by kernel_rfl) (fun _ _ _ h => h) (Or.inl ⟨by rfl, ?_⟩) ?_ ?_
                  rotate_left
                  · intro w'
                    go_simp
                    with_reducible rfl
                  rotate_left
                  · simp only [Act.put, List.setIfInBounds_toArray, List.set_cons_zero, List.set_cons_succ, i64_w, i32_w]
                    rfl
                  refine pure_ (i := 14) (N := some 73) (v := ?_) (a' := ?_) #[true, true, true, true, true, true, true, true, true, true, true, true, true, true, true, false, false, false] rfl rfl (by kernel_rfl) (fun _ _ _ h => h) (Or.inl ⟨by rfl, ?_⟩) ?_ ?_
                  rotate_left
                  · intro w'
                    go_simp
                    with_reducible rfl
                  rotate_left
                  · simp only [Act.put, List.setIfInBounds_toArray, List.set_cons_zero, List.set_cons_succ, i64_w, i32_w]
                    rfl
                  refine take_ (i := 15) (N := some 74) (v := ?_) (a' := ?_) #[true, true, true, true, true, true, true, true, true, true, true, true, true, true, true, true, false, false] rfl rfl (by kernel_rfl) (fun _ _ _ h => h) (Or.inl ⟨by rfl, ?_⟩) hHeld ?_ ?_
                  rotate_left
                  · rintro w' ⟨s0_, s1_, s2_, s3_, s4_, s5_, s6_, s7_, s8_, s9_, s10_, s11_⟩
                    go_simp
                    with_reducible rfl
                  rotate_left
                  · simp only [Act.put, List.setIfInBounds_toArray, List.set_cons_zero, List.set_cons_succ, i64_w, i32_w]
                    rfl
                  refine pure_ (i := 16) (N := some 75) (v := ?_) (a' := ?_) #[true, true, true, true, true, true, true, true, true, true, true, true, true, true, true, true, true, false] rfl rfl (by kernel_rfl) (fun _ _ _ h => h) (Or.inl ⟨by rfl, ?_⟩) ?_ ?_
                  rotate_left
                  · intro w'
                    go_simp
                    with_reducible rfl
                  rotate_left
                  · simp only [Act.put, List.setIfInBounds_toArray, List.set_cons_zero, List.set_cons_succ, i64_w, i32_w]
                    rfl
                  refine pure_ (i := 17) (N := some 76) (v := ?_) (a' := ?_) #[true, true, true, true, true, true, true, true, true, true, true, true, true, true, true, true, true, true] rfl rfl (by kernel_rfl) (fun _ _ _ h => h) (Or.inl ⟨by rfl, ?_⟩) ?_ ?_
                  rotate_left
                  · intro w'
                    go_simp
                    with_reducible rfl
                  rotate_left
                  · simp only [Act.put, List.setIfInBounds_toArray, List.set_cons_zero, List.set_cons_succ, i64_w, i32_w]
                    rfl
                  refine done_ (by kernel_rfl) ?_
                  clear hHeld
                  have HO8 : Aside0 (OwnE w _ u12 (vals (j : Int) (l.take (q + 1)))) := ⟨by rw [HV1.out]; exact HO5.out.below HB57.out⟩
                  have HP78 := Aside0.mk (HP75.out.below HB57.out); have HP88 := Aside0.mk (HP85.out.below HB57.out)
                  go_wp2
                  go_roundw
                  case rel => exact ⟨q + 1, by go_num, ⟨by omega⟩, HO8, HP78, HP88, HB7⟩
                  case measure => simp [intOf]; omega
              · have d2 : (a1 == 1) = false := by simpa using c2
                have hv1 : vals (j : Int) (l.take (q + 1)) = vals (j : Int) (l.take q) := by
                  rw [HT.out]; exact vals_keep _ _ _ (valB_false (.inr (.inl (by rw [HEF.out]; exact d2))))
                have HV1 := Aside0.mk hv1; clear c2 hv1
                refine start_ (n := 18) (S := fun w' => w'.cell? ⟨gb, 0, none⟩ = some (.int .i64 At) ∧ w'.cell? ⟨gb, 1, none⟩ = some (.int .i64 r0) ∧ w'.cell? ⟨gb, 2, none⟩ = some (.int .i64 r1) ∧ w'.cell? ⟨gb, 3, none⟩ = some (.int .i64 r2) ∧ w'.cell? ⟨gb, 4, none⟩ = some (.int .i64 r3) ∧ w'.cell? ⟨gb, 5, none⟩ = some (.int .i64 r4) ∧ w'.cell? ⟨gb, 6, none⟩ = some (.int .i64 r5) ∧ w'.cell? ⟨gb, 7, none⟩ = some (.int .i64 r6) ∧ w'.cell? ⟨gb, 8, none⟩ = some (.string r7) ∧ w'.cell? ⟨gb, 9, none⟩ = some (.string r8) ∧ w'.cell? ⟨gb, 10, none⟩ = some (.slice A10 r9.length c10) ∧ w'.cell? ⟨gb, 11, none⟩ = some (.slice A11 r10.length c11)) (ds := []) #[false, false, false, false, false, false, false, false, false, false, false, false, false, false, false, false, false, false] (by kernel_rfl) rfl rfl ⟨f0, f1, f2, f3, f4, f5, f6, f7, f8, f9, f10, f11⟩ (fun hHeld => ?_)
                refine pure_ (i := 0) (N := some 59) (v := ?_) (a' := ?_) #[true, false, false, false, false, false, false, false, false, false, false, false, false, false, false, false, false, false] rfl rfl (by kernel_rfl) (fun _ _ _ h => h) (Or.inl ⟨by rfl, ?_⟩) ?_ ?_
                rotate_left
                · intro w'
                  go_simp
                  with_reducible rfl
                rotate_left
                · simp only [Act.put, List.setIfInBounds_toArray, List.set_cons_zero, List.set_cons_succ, i64_w, i32_w]
                  rfl
                refine pure_ (i := 1) (N := some 60) (v := ?_) (a' := ?_) #[true, true, false, false, false, false, false, false, false, false, false, false, false, false, false, false, false, false] rfl rfl (by kernel_rfl) (fun _ _ _ h => h) (Or.inl ⟨by rfl, ?_⟩) ?_ ?_
                rotate_left
                · intro w'
                  go_simp
                  with_reducible rfl
                rotate_left
                · simp only [Act.put, List.setIfInBounds_toArray, List.set_cons_zero, List.set_cons_succ, i64_w, i32_w]
                  rfl
                refine pure_ (i := 3) (N := some 62) (v := ?_) (a' := ?_) #[true, true, false, true, false, false, false, false, false, false, false, false, false, false, false, false, false, false] rfl rfl (by kernel_rfl) (fun _ _ _ h => h) (Or.inl ⟨by rfl, ?_⟩) ?_ ?_
                rotate_left
                · intro w'
                  go_simp
                  with_reducible rfl
                rotate_left
                · simp only [Act.put, List.setIfInBounds_toArray, List.set_cons_zero, List.set_cons_succ, i64_w, i32_w]
                  rfl
                refine take_ (i := 2) (N := some 61) (v := ?_) (a' := ?_) #[true, true, true, true, false, false, false, false, false, false, false, false, false, false, false, false, false, false] rfl rfl (by kernel_rfl) (fun _ _ _ h => h) (Or.inl ⟨by rfl, ?_⟩) hHeld ?_ ?_
                rotate_left
                · rintro w' ⟨s0_, s1_, s2_, s3_, s4_, s5_, s6_, s7_, s8_, s9_, s10_, s11_⟩
                  go_simp
                  with_reducible rfl
                rotate_left
                · simp only [Act.put, List.setIfInBounds_toArray, List.set_cons_zero, List.set_cons_succ, i64_w, i32_w]
                  rfl
                refine pure_ (i := 4) (N := some 63) (v := ?_) (a' := ?_) #[true, true, true, true, true, false, false, false, false, false, false, false, false, false, false, false, false, false] rfl rfl (by kernel_rfl) (fun _ _ _ h => h) (Or.inl ⟨by rfl, ?_⟩) ?_ ?_
                rotate_left
                · intro w'
                  go_simp
                  with_reducible rfl
                rotate_left
                · simp only [Act.put, List.setIfInBounds_toArray, List.set_cons_zero, List.set_cons_succ, i64_w, i32_w]
                  rfl
                refine pure_ (i := 5) (N := some 64) (v := ?_) (a' := ?_) #[true, true, true, true, true, true, false, false, false, false, false, false, false, false, false, false, false, false] rfl rfl (by kernel_rfl) (fun _ _ _ h => h) (Or.inl ⟨by rfl, ?_⟩) ?_ ?_
                rotate_left
                · intro w'
                  go_simp
                  with_reducible rfl
                rotate_left
                · simp only [Act.put, List.setIfInBounds_toArray, List.set_cons_zero, List.set_cons_succ, i64_w, i32_w]
                  rfl
                refine pure_ (i := 7) (N := some 66) (v := ?_) (a' := ?_) #[true, true, true, true, true, true, false, true, false, false, false, false, false, false, false, false, false, false] rfl rfl (by kernel_rfl) (fun _ _ _ h => h) (Or.inl ⟨by rfl, ?_⟩) ?_ ?_
                rotate_left
                · intro w'
                  go_simp
                  with_reducible rfl
                rotate_left
                · simp only [Act.put, List.setIfInBounds_toArray, List.set_cons_zero, List.set_cons_succ, i64_w, i32_w]
                  rfl
                refine take_ (i := 8) (N := some 67) (v := ?_) (a' := ?_) #[true, true, true, true, true, true, false, true, true, false, false, false, false, false, false, false, false, false] rfl rfl (by kernel_rfl) (fun _ _ _ h => h) (Or.inl ⟨by rfl, ?_⟩) hHeld ?_ ?_
                rotate_left
                · rintro w' ⟨s0_, s1_, s2_, s3_, s4_, s5_, s6_, s7_, s8_, s9_, s10_, s11_⟩
                  go_simp
                  with_reducible rfl
                rotate_left
                · simp only [Act.put, List.setIfInBounds_toArray, List.set_cons_zero, List.set_cons_succ, i64_w, i32_w]
                  rfl
                refine one_ (i := 6) (N := some 65) #[true, true, true, true, true, true, true, true, true, false, false, false, false, false, false, false, false, false] rfl rfl (by kernel_rfl) (by decide) (fun K hK => ?_)
                refine goes_ Try.func23 (by kernel_rfl) rfl #[] (by rfl) rfl rfl (by (try simp only [List.map_toArray, List.map_cons, List.map_nil]); first | done | rfl) ?_
                refine (careenref06_Empty.calls 0 (Arr.noughts 220) _ empty_ref).mono ?_
                rintro e w6 ⟨rfl, hb6⟩
                refine ⟨_, rfl, ?_⟩
                have HB6 := Aside0.mk (Arr.below_trans HB5.out.drew hb6)
                have hb56 := Arr.below_trans (Below.refl w5.heap.size w5).drew hb6
                have HB56 := Aside0.mk hb56
                have l5 : gb < w5.drew.heap.size := blk_lt B5.out
                have t2 : ∀ i, w6.cell? ⟨gb, i, none⟩ = w5.drew.cell? ⟨gb, i, none⟩ := fun i => hb6.cell (p := ⟨gb, i, none⟩) l5
                refine hK _ _ ⟨(t2 0).trans hHeld.1, (t2 1).trans hHeld.2.1, (t2 2).trans hHeld.2.2.1, (t2 3).trans hHeld.2.2.2.1, (t2 4).trans hHeld.2.2.2.2.1, (t2 5).trans hHeld.2.2.2.2.2.1, (t2 6).trans hHeld.2.2.2.2.2.2.1, (t2 7).trans hHeld.2.2.2.2.2.2.2.1, (t2 8).trans hHeld.2.2.2.2.2.2.2.2.1, (t2 9).trans hHeld.2.2.2.2.2.2.2.2.2.1, (t2 10).trans hHeld.2.2.2.2.2.2.2.2.2.2.1, (t2 11).trans hHeld.2.2.2.2.2.2.2.2.2.2.2⟩ (fun hHeld => ?_)
                clear hK K t2 l5 hb6 hb56
                refine norm_ (a' := ?_) ?_ ?_
                rotate_left
                · show Act.put _ (some 65) _ = _
                  simp only [Act.put, List.setIfInBounds_toArray, List.set_cons_zero, List.set_cons_succ, i64_w, i32_w]
                  rfl
                refine one_ (i := 9) (N := some 68) #[true, true, true, true, true, true, true, true, true, true, false, false, false, false, false, false, false, false] rfl rfl (by kernel_rfl) (by decide) (fun K hK => ?_)
                refine goes_ Try.func26 (by kernel_rfl) rfl #[.agg #[.int .i64 0, .string (Arr.noughts 220)], .int .i64 1, .agg #[.int .i64 r0, .int .i64 r1, .int .i64 r2, .int .i64 r3, .int .i64 r4, .int .i64 r5, .int .i64 r6, .string r7, .string r8, .slice A10 r9.length c10, .slice A11 r10.length c11]] (by rfl) rfl rfl (by (try simp only [List.map_toArray, List.map_cons, List.map_nil]); first | done | rfl) ?_
                refine (careenref06_Apply.calls 1 0 (Arr.noughts 220) 1 r0 r1 r2 r3 r4 r5 r6 r7 r8 A10 c10 r9 A11 c11 r10 a1 a2 _ (Kd.C_below M9.out HB6.out) N9.out (Kd.C_below M10.out HB6.out) N10.out HEV.out).mono ?_
                rintro e w7 ⟨rfl, hb7⟩
                refine ⟨_, rfl, ?_⟩
                have HB7 := Aside0.mk (Arr.below_trans HB6.out hb7)
                have HB57 := Aside0.mk (Arr.below_trans HB56.out hb7)
                have l6 : gb < w6.heap.size := by have := hHeld.1; exact World.block_lt_of_cell? _ _ this
                have t2 : ∀ i, w7.cell? ⟨gb, i, none⟩ = w6.cell? ⟨gb, i, none⟩ := fun i => hb7.cell (p := ⟨gb, i, none⟩) l6
                refine hK _ _ ⟨(t2 0).trans hHeld.1, (t2 1).trans hHeld.2.1, (t2 2).trans hHeld.2.2.1, (t2 3).trans hHeld.2.2.2.1, (t2 4).trans hHeld.2.2.2.2.1, (t2 5).trans hHeld.2.2.2.2.2.1, (t2 6).trans hHeld.2.2.2.2.2.2.1, (t2 7).trans hHeld.2.2.2.2.2.2.2.1, (t2 8).trans hHeld.2.2.2.2.2.2.2.2.1, (t2 9).trans hHeld.2.2.2.2.2.2.2.2.2.1, (t2 10).trans hHeld.2.2.2.2.2.2.2.2.2.2.1, (t2 11).trans hHeld.2.2.2.2.2.2.2.2.2.2.2⟩ (fun hHeld => ?_)
                clear hK K t2 l6 hb7
                refine norm_ (a' := ?_) ?_ ?_
                rotate_left
                · show Act.put _ (some 68) _ = _
                  simp only [Act.put, List.setIfInBounds_toArray, List.set_cons_zero, List.set_cons_succ, i64_w, i32_w]
                  rfl
                refine pure_ (i := 10) (N := some 69) (v := ?_) (a' := ?_) #[true, true, true, true, true, true, true, true, true, true, true, false, false, false, false, false, false, false] rfl rfl (by kernel_rfl) (fun _ _ _ h => h) (Or.inl ⟨by rfl, ?_⟩) ?_ ?_
                rotate_left
                · intro w'
                  go_simp
                  with_reducible rfl
                rotate_left
                · simp only [Act.put, List.setIfInBounds_toArray, List.set_cons_zero, List.set_cons_succ, i64_w, i32_w]
                  rfl
                refine pure_ (i := 11) (N := some 70) (v := ?_) (a' := ?_) #[true, true, true, true, true, true, true, true, true, true, true, true, false, false, false, false, false, false] rfl rfl (by kernel_rfl) (fun _ _ _ h => h) (Or.inl ⟨by rfl, ?_⟩) ?_ ?_
                rotate_left
                · intro w'
                  go_simp
                  with_reducible rfl
                rotate_left
                · simp only [Act.put, List.setIfInBounds_toArray, List.set_cons_zero, List.set_cons_succ, i64_w, i32_w]
                  rfl
                refine pure_ (i := 12) (N := some 71) (v := ?_) (a' := ?_) #[true, true, true, true, true, true, true, true, true, true, true, true, true, false, false, false, false, false] rfl rfl (by kernel_rfl) (fun _ _ _ h => h) (Or.inl ⟨by rfl, ?_⟩) ?_ ?_
                rotate_left
                · intro w'
                  go_simp
                  with_reducible rfl
                rotate_left
                · simp only [Act.put, List.setIfInBounds_toArray, List.set_cons_zero, List.set_cons_succ, i64_w, i32_w]
                  rfl
                refine pure_ (i := 13) (N := some 72) (v := ?_) (a' := ?_) #[true, true, true, true, true, true, true, true, true, true, true, true, true, true, false, false, false, false] rfl rfl (by kernel_rfl) (fun _ _ _ h => h) (Or.inl ⟨by rfl, ?_⟩) ?_ ?_
                rotate_left
                · intro w'
                  go_simp
                  with_reducible rfl
                rotate_left
                · simp only [Act.put, List.setIfInBounds_toArray, List.set_cons_zero, List.set_cons_succ, i64_w, i32_w]
                  rfl
                refine pure_ (i := 14) (N := some 73) (v := undef) (a' := ?_) #[true, true, true, true, true, true, true, true, true, true, true, true, true, true, true, false, false, false] rfl rfl (by kernel_rfl) (fun _ _ _ h => h) (Or.inr ⟨by rfl, rfl⟩) ?_ ?_
                rotate_left
                · simp only [Act.put, List.setIfInBounds_toArray, List.set_cons_zero, List.set_cons_succ, i64_w, i32_w]
                  rfl
                refine pure_ (i := 15) (N := some 74) (v := undef) (a' := ?_) #[true, true, true, true, true, true, true, true, true, true, true, true, true, true, true, true, false, false] rfl rfl (by kernel_rfl) (fun _ _ _ h => h) (Or.inr ⟨by rfl, rfl⟩) ?_ ?_
                rotate_left
                · simp only [Act.put, List.setIfInBounds_toArray, List.set_cons_zero, List.set_cons_succ, i64_w, i32_w]
                  rfl
                refine pure_ (i := 16) (N := some 75) (v := undef) (a' := ?_) #[true, true, true, true, true, true, true, true, true, true, true, true, true, true, true, true, true, false] rfl rfl (by kernel_rfl) (fun _ _ _ h => h) (Or.inr ⟨by rfl, rfl⟩) ?_ ?_
                rotate_left
                · simp only [Act.put, List.setIfInBounds_toArray, List.set_cons_zero, List.set_cons_succ, i64_w, i32_w]
                  rfl
                refine pure_ (i := 17) (N := some 76) (v := ?_) (a' := ?_) #[true, true, true, true, true, true, true, true, true, true, true, true, true, true, true, true, true, true] rfl rfl (by kernel_rfl) (fun _ _ _ h => h) (Or.inl ⟨by rfl, ?_⟩) ?_ ?_
                rotate_left
                · intro w'
                  go_simp
                  with_reducible rfl
                rotate_left
                · simp only [Act.put, List.setIfInBounds_toArray, List.set_cons_zero, List.set_cons_succ, i64_w, i32_w]
                  rfl
                refine done_ (by kernel_rfl) ?_
                clear hHeld
                have HO8 : Aside0 (OwnE w _ u12 (vals (j : Int) (l.take (q + 1)))) := ⟨by rw [HV1.out]; exact HO5.out.below HB57.out⟩
                have HP78 := Aside0.mk (HP75.out.below HB57.out); have HP88 := Aside0.mk (HP85.out.below HB57.out)
                go_wp2
                go_roundw
                case rel => exact ⟨q + 1, by go_num, ⟨by omega⟩, HO8, HP78, HP88, HB7⟩
                case measure => simp [intOf]; omega
            · have d1 : (r2 == (j : Int)) = false := by simpa using c1
              have hv1 : vals (j : Int) (l.take (q + 1)) = vals (j : Int) (l.take q) := by
                rw [HT.out]; exact vals_keep _ _ _ (valB_false (.inl c1))
              have HV1 := Aside0.mk hv1; clear c1 hv1
              have HB57 := Aside0.mk (Below.refl w5.heap.size w5).drew
              have HB7 := Aside0.mk HB5.out.drew
              refine start_ (n := 18) (S := fun w' => w'.cell? ⟨gb, 0, none⟩ = some (.int .i64 At) ∧ w'.cell? ⟨gb, 1, none⟩ = some (.int .i64 r0) ∧ w'.cell? ⟨gb, 2, none⟩ = some (.int .i64 r1) ∧ w'.cell? ⟨gb, 3, none⟩ = some (.int .i64 r2) ∧ w'.cell? ⟨gb, 4, none⟩ = some (.int .i64 r3) ∧ w'.cell? ⟨gb, 5, none⟩ = some (.int .i64 r4) ∧ w'.cell? ⟨gb, 6, none⟩ = some (.int .i64 r5) ∧ w'.cell? ⟨gb, 7, none⟩ = some (.int .i64 r6) ∧ w'.cell? ⟨gb, 8, none⟩ = some (.string r7) ∧ w'.cell? ⟨gb, 9, none⟩ = some (.string r8) ∧ w'.cell? ⟨gb, 10, none⟩ = some (.slice A10 r9.length c10) ∧ w'.cell? ⟨gb, 11, none⟩ = some (.slice A11 r10.length c11)) (ds := []) #[false, false, false, false, false, false, false, false, false, false, false, false, false, false, false, false, false, false] (by kernel_rfl) rfl rfl ⟨f0, f1, f2, f3, f4, f5, f6, f7, f8, f9, f10, f11⟩ (fun hHeld => ?_)
              refine pure_ (i := 0) (N := some 59) (v := ?_) (a' := ?_) #[true, false, false, false, false, false, false, false, false, false, false, false, false, false, false, false, false, false] rfl rfl (by kernel_rfl) (fun _ _ _ h => h) (Or.inl ⟨by rfl, ?_⟩) ?_ ?_
              rotate_left
              · intro w'
                go_simp
                with_reducible rfl
              rotate_left
              · simp only [Act.put, List.setIfInBounds_toArray, List.set_cons_zero, List.set_cons_succ, i64_w, i32_w]
                rfl
              refine pure_ (i := 1) (N := some 60) (v := ?_) (a' := ?_) #[true, true, false, false, false, false, false, false, false, false, false, false, false, false, false, false, false, false] rfl rfl (by kernel_rfl) (fun _ _ _ h => h) (Or.inl ⟨by rfl, ?_⟩) ?_ ?_
              rotate_left
              · intro w'
                go_simp
                with_reducible rfl
              rotate_left
              · simp only [Act.put, List.setIfInBounds_toArray, List.set_cons_zero, List.set_cons_succ, i64_w, i32_w]
                rfl
              refine pure_ (i := 3) (N := some 62) (v := ?_) (a' := ?_) #[true, true, false, true, false, false, false, false, false, false, false, false, false, false, false, false, false, false] rfl rfl (by kernel_rfl) (fun _ _ _ h => h) (Or.inl ⟨by rfl, ?_⟩) ?_ ?_
              rotate_left
              · intro w'
                go_simp
                with_reducible rfl
              rotate_left
              · simp only [Act.put, List.setIfInBounds_toArray, List.set_cons_zero, List.set_cons_succ, i64_w, i32_w]
                rfl
              refine take_ (i := 2) (N := some 61) (v := ?_) (a' := ?_) #[true, true, true, true, false, false, false, false, false, false, false, false, false, false, false, false, false, false] rfl rfl (by kernel_rfl) (fun _ _ _ h => h) (Or.inl ⟨by rfl, ?_⟩) hHeld ?_ ?_
              rotate_left
              · rintro w' ⟨s0_, s1_, s2_, s3_, s4_, s5_, s6_, s7_, s8_, s9_, s10_, s11_⟩
                go_simp
                with_reducible rfl
              rotate_left
              · simp only [Act.put, List.setIfInBounds_toArray, List.set_cons_zero, List.set_cons_succ, i64_w, i32_w]
                rfl
              refine pure_ (i := 4) (N := some 63) (v := ?_) (a' := ?_) #[true, true, true, true, true, false, false, false, false, false, false, false, false, false, false, false, false, false] rfl rfl (by kernel_rfl) (fun _ _ _ h => h) (Or.inl ⟨by rfl, ?_⟩) ?_ ?_
              rotate_left
              · intro w'
                go_simp
                with_reducible rfl
              rotate_left
              · simp only [Act.put, List.setIfInBounds_toArray, List.set_cons_zero, List.set_cons_succ, i64_w, i32_w]
                rfl
              refine pure_ (i := 5) (N := some 64) (v := ?_) (a' := ?_) #[true, true, true, true, true, true, false, false, false, false, false, false, false, false, false, false, false, false] rfl rfl (by kernel_rfl) (fun _ _ _ h => h) (Or.inl ⟨by rfl, ?_⟩) ?_ ?_
              rotate_left
              · intro w'
                go_simp
                with_reducible rfl
              rotate_left
              · simp only [Act.put, List.setIfInBounds_toArray, List.set_cons_zero, List.set_cons_succ, i64_w, i32_w]
                rfl
              refine pure_ (i := 6) (N := some 65) (v := undef) (a' := ?_) #[true, true, true, true, true, true, true, false, false, false, false, false, false, false, false, false, false, false] rfl rfl (by kernel_rfl) (fun _ _ _ h => h) (Or.inr ⟨by rfl, rfl⟩) ?_ ?_
              rotate_left
              · simp only [Act.put, List.setIfInBounds_toArray, List.set_cons_zero, List.set_cons_succ, i64_w, i32_w]
                rfl
              refine pure_ (i := 7) (N := some 66) (v := undef) (a' := ?_) #[true, true, true, true, true, true, true, true, false, false, false, false, false, false, false, false, false, false] rfl rfl (by kernel_rfl) (fun _ _ _ h => h) (Or.inr ⟨by rfl, rfl⟩) ?_ ?_
              rotate_left
              · simp only [Act.put, List.setIfInBounds_toArray, List.set_cons_zero, List.set_cons_succ, i64_w, i32_w]
                rfl
              refine pure_ (i := 8) (N := some 67) (v := undef) (a' := ?_) #[true, true, true, true, true, true, true, true, true, false, false, false, false, false, false, false, false, false] rfl rfl (by kernel_rfl) (fun _ _ _ h => h) (Or.inr ⟨by rfl, rfl⟩) ?_ ?_
              rotate_left
              · simp only [Act.put, List.setIfInBounds_toArray, List.set_cons_zero, List.set_cons_succ, i64_w, i32_w]
                rfl
              refine pure_ (i := 9) (N := some 68) (v := undef) (a' := ?_) #[true, true, true, true, true, true, true, true, true, true, false, false, false, false, false, false, false, false] rfl rfl (by kernel_rfl) (fun _ _ _ h => h) (Or.inr ⟨by rfl, rfl⟩) ?_ ?_
              rotate_left
              · simp only [Act.put, List.setIfInBounds_toArray, List.set_cons_zero, List.set_cons_succ, i64_w, i32_w]
                rfl
              refine pure_ (i := 10) (N := some 69) (v := undef) (a' := ?_) #[true, true, true, true, true, true, true, true, true, true, true, false, false, false, false, false, false, false] rfl rfl (by kernel_rfl) (fun _ _ _ h => h) (Or.inr ⟨by rfl, rfl⟩) ?_ ?_
              rotate_left
              · simp only [Act.put, List.setIfInBounds_toArray, List.set_cons_zero, List.set_cons_succ, i64_w, i32_w]
                rfl
              refine pure_ (i := 11) (N := some 70) (v := undef) (a' := ?_) #[true, true, true, true, true, true, true, true, true, true, true, true, false, false, false, false, false, false] rfl rfl (by kernel_rfl) (fun _ _ _ h => h) (Or.inr ⟨by rfl, rfl⟩) ?_ ?_
              rotate_left
              · simp only [Act.put, List.setIfInBounds_toArray, List.set_cons_zero, List.set_cons_succ, i64_w, i32_w]
                rfl
              refine pure_ (i := 12) (N := some 71) (v := ?_) (a' := ?_) #[true, true, true, true, true, true, true, true, true, true, true, true, true, false, false, false, false, false] rfl rfl (by kernel_rfl) (fun _ _ _ h => h) (Or.inl ⟨by rfl, ?_⟩) ?_ ?_
              rotate_left
              · intro w'
                go_simp
                with_reducible rfl
              rotate_left
              · simp only [Act.put, List.setIfInBounds_toArray, List.set_cons_zero, List.set_cons_succ, i64_w, i32_w]
                rfl
              refine pure_ (i := 13) (N := some 72) (v := ?_) (a' := ?_) #[true, true, true, true, true, true, true, true, true, true, true, true, true, true, false, false, false, false] rfl rfl (by kernel_rfl) (fun _ _ _ h => h) (Or.inl ⟨by rfl, ?_⟩) ?_ ?_
              rotate_left
              · intro w'
                go_simp
                with_reducible rfl
              rotate_left
              · simp only [Act.put, List.setIfInBounds_toArray, List.set_cons_zero, List.set_cons_succ, i64_w, i32_w]
                rfl
              refine pure_ (i := 14) (N := some 73) (v := undef) (a' := ?_) #[true, true, true, true, true, true, true, true, true, true, true, true, true, true, true, false, false, false] rfl rfl (by kernel_rfl) (fun _ _ _ h => h) (Or.inr ⟨by rfl, rfl⟩) ?_ ?_
              rotate_left
              · simp only [Act.put, List.setIfInBounds_toArray, List.set_cons_zero, List.set_cons_succ, i64_w, i32_w]
                rfl
              refine pure_ (i := 15) (N := some 74) (v := undef) (a' := ?_) #[true, true, true, true, true, true, true, true, true, true, true, true, true, true, true, true, false, false] rfl rfl (by kernel_rfl) (fun _ _ _ h => h) (Or.inr ⟨by rfl, rfl⟩) ?_ ?_
              rotate_left
              · simp only [Act.put, List.setIfInBounds_toArray, List.set_cons_zero, List.set_cons_succ, i64_w, i32_w]
                rfl
              refine pure_ (i := 16) (N := some 75) (v := undef) (a' := ?_) #[true, true, true, true, true, true, true, true, true, true, true, true, true, true, true, true, true, false] rfl rfl (by kernel_rfl) (fun _ _ _ h => h) (Or.inr ⟨by rfl, rfl⟩) ?_ ?_
              rotate_left
              · simp only [Act.put, List.setIfInBounds_toArray, List.set_cons_zero, List.set_cons_succ, i64_w, i32_w]
                rfl
              refine pure_ (i := 17) (N := some 76) (v := ?_) (a' := ?_) #[true, true, true, true, true, true, true, true, true, true, true, true, true, true, true, true, true, true] rfl rfl (by kernel_rfl) (fun _ _ _ h => h) (Or.inl ⟨by rfl, ?_⟩) ?_ ?_
              rotate_left
              · intro w'
                go_simp
                with_reducible rfl
              rotate_left
              · simp only [Act.put, List.setIfInBounds_toArray, List.set_cons_zero, List.set_cons_succ, i64_w, i32_w]
                rfl
              refine done_ (by kernel_rfl) ?_
              clear hHeld
              have HO8 : Aside0 (OwnE w _ u12 (vals (j : Int) (l.take (q + 1)))) := ⟨by rw [HV1.out]; exact HO5.out.below HB57.out⟩
              have HP78 := Aside0.mk (HP75.out.below HB57.out); have HP88 := Aside0.mk (HP85.out.below HB57.out)
              go_wp2
              go_roundw
              case rel => exact ⟨q + 1, by go_num, ⟨by omega⟩, HO8, HP78, HP88, HB7⟩
              case measure => simp [intOf]; omega
          · obtain rfl : q = l.length := by have := Q.out; omega
            rw [List.take_length] at HO
            clear Q hlt
            obtain ⟨A3, c3, rfl, hc3, hr3⟩ := HO.out.reads HB.out
            have HR3 := Aside0.mk hr3; clear hr3
            have HOL := Aside0.mk (show (vals (j : Int) l).length ≤ l.length from List.length_filter_le ..)
            have HOM := Aside0.mk (show ∀ x ∈ vals (j : Int) l, x ∈ l ∧ x.f1.f2 = (j : Int) by intro x hx; have := List.mem_filter.1 hx; refine ⟨this.1, ?_⟩; have t := this.2; simp only [valB, Bool.and_eq_true, beq_iff_eq] at t; exact t.1.1)
            generalize hown : vals (j : Int) l = own at *
            have HOW := Aside0.mk hown; clear hown
            obtain ⟨hw1, hz1⟩ := own_w HOL.out hll
            go_upto_region 15 with (fail)
            go_upto_region 16 with (fail)
            have hm := own_m hv0.1 HK.out
            rw [hm]
            clear hw1 hz1 hm
            generalize hkk : kOf l hv j = k at *
            have KK := Aside0.mk hkk; clear hkk
            have hk1 : k ≤ own.length := own_k HK.out
            clear hv0 HK
            by_cases hkl : k < own.length
            case' pos =>
              have dk : decide ((k : Int) < (own.length : Int)) = true := by simpa using hkl
              have i0 : (0 : Int) ≤ (k : Int) := by omega
              have i1 : (k : Int) < (own.length : Int) := by omega
              obtain ⟨ad3, B10, d10, B11, d11, he, e0, erest⟩ := at_T58 HR3.out (k : Int) i0 i1
              clear erest
              cases he
              rw [rd58 own k hkl] at e0
              simp only [Int.toNat_natCast] at e0
              have HA1 := Aside0.mk (from_one HA.out HOW.out KK.out hkl (HL.out _ (HOM.out _ (List.getElem_mem hkl)).1))
              generalize (own[k]).f0 = o0 at *
              clear hkl
              go_upto_region 18 with (fail)
              generalize (if o0 < f then o0 else f) = f1 at *
              clear e0 dk i0 i1
            case' neg =>
              have dk : decide ((k : Int) < (own.length : Int)) = false := by rw [decide_eq_false_iff_not]; omega
              have HA1 := Aside0.mk (from_skip HA.out HOW.out KK.out hkl)
              generalize hff : f = f1 at HA1
              go_upto_region 18 with (fail)
              try rw [hff]
              clear dk hkl hff
            all_goals
              clear HA
              have htl : (own.take k).length = k := by rw [List.length_take, Nat.min_eq_left hk1]
              have HTS := Aside0.mk (pgs_succ l hv j); have HWS := Aside0.mk (wts_succ l j)
              rw [KK.out, HOW.out] at HTS; rw [HOW.out] at HWS
              have HSUB := Aside0.mk (show ∀ x ∈ own.take k, x ∈ own from fun x hx => List.mem_of_mem_take hx)
              have hcut := own_cut HR3.out c3 k hk1 hc3
              have HTL := Aside0.mk (Nat.le_trans (Nat.le_of_eq htl) hk1)
              have hrt := Kd.C_take HR3.out hk1
              have HRT := Aside0.mk hrt; clear hrt HR3 htl
              generalize own.take k = tk at *
              have ev1 := refone_ev tk (j : Int) (fun x hx => HF.out.1 x (HOM.out x (HSUB.out x hx)).1) (by have := HTL.out; have := HOL.out; omega)
              rw [one_eq tk j (fun x hx => (HOM.out x (HSUB.out x hx)).2)] at ev1
              obtain ⟨k1, h1⟩ := ev1.rounds
              have ev2 := refone_ev own (j : Int) (fun x hx => HF.out.1 x (HOM.out x hx).1) (by have := HOL.out; omega)
              rw [one_eq own j (fun x hx => (HOM.out x hx).2)] at ev2
              obtain ⟨k2, h2⟩ := ev2.rounds
              have H1 := Aside0.mk h1; have H2 := Aside0.mk h2
              clear h1 h2 ev1 ev2 HSUB
              generalize oneS tk = p1 at *
              generalize oneS own = p2 at *
              obtain ⟨x1, x2⟩ := p1
              obtain ⟨y1, y2⟩ := p2
              simp only at H1 H2
              have lim7 : ((pgs l hv j).length + 1) * 24 ≤ 140737488355328 := by rw [pgs_len]; have := H8.out; omega
              have lim8 : ((wts l j).length + 1) * 24 ≤ 140737488355328 := by rw [wts_len]; have := H8.out; omega
              have L7 := Aside0.mk lim7; have L8 := Aside0.mk lim8; clear lim7 lim8
              go_upto_region 19 with (first | (go_at_call 34; refine (careenref14_One.calls k1 _ c3 tk (j : Int) x1 x2 _ HRT.out (Nat.le_trans HTL.out hc3) H1.out).mono ?_; rintro e w4 ⟨rfl, hb4⟩; have HB4 := Aside0.mk (Arr.below_trans HB.out hb4); have HP74 := Aside0.mk (HP7.out.below hb4); have HP84 := Aside0.mk (HP8.out.below hb4); have HO4 := Aside0.mk (HO.out.below hb4); clear hb4) | ((with_reducible refine gate_builtin (b := .append) (xs := #[.tmp 99, .tmp 105]) rfl ?_); at_builtin; refine print_append_cells (w0 := w) w.heap.size rfl (.tmp 99) (.tmp 105) 49 23 _ 2 24 rfl Try.underlying49 info23 rfl (by decide) (by decide) _ _ (pcells (pgs l hv j)) [.int .i64 x1, .string x2] rfl rfl rfl ?h1 HP74.out HB4.out HB4.out.size L7.out ?_; (case h1 => simp [Value.oneCell']); intro v1 w8 hown1 hB8 hg8 hat8))
              have HP78 : Aside0 (OwnP w w8 v1 (pgs l hv (j + 1))) := ⟨by unfold OwnP; rw [HTS.out, List.length_append, pcells_snoc]; exact hown1⟩
              have HP88 : Aside0 (OwnP w w8 u8 (wts l j)) := ⟨own_other HP84.out hg8 (ne_other HN.out)⟩
              have HO8 : Aside0 (OwnE w w8 _ own) := ⟨HO4.out.other hg8 HP74.out⟩
              have HN8 : Aside0 (NeRow v1 u8) := ⟨ne_append HN.out hat8 HP84.out⟩
              have HB8 := Aside0.mk hB8
              clear hown1 hB8 hg8 hat8 HP74 HP84 HO4 HN HB4 HP7 HP8 HO hcut HRT
              obtain ⟨A5, c5, he, hc5, hr5⟩ := HO8.out.reads HB8.out
              cases he
              have HR5 := Aside0.mk hr5; clear hr5
              go_wp2_with (first | (go_at_call 34; refine (careenref14_One.calls k2 _ c3 own (j : Int) y1 y2 _ HR5.out hc3 H2.out).mono ?_; rintro e w9 ⟨rfl, hb9⟩; have HB9 := Aside0.mk (Arr.below_trans HB8.out hb9); have HP79 := Aside0.mk (HP78.out.below hb9); have HP89 := Aside0.mk (HP88.out.below hb9); clear hb9) | ((with_reducible refine gate_builtin (b := .append) (xs := #[.tmp 107, .tmp 111]) rfl ?_); at_builtin; refine print_append_cells (w0 := w) w.heap.size rfl (.tmp 107) (.tmp 111) 49 23 _ 2 24 rfl Try.underlying49 info23 rfl (by decide) (by decide) _ _ (pcells (wts l j)) [.int .i64 y1, .string y2] rfl rfl rfl ?h1 HP89.out HB9.out HB9.out.size L8.out ?_; (case h1 => simp [Value.oneCell']); intro v2 wa hown2 hBa hga hata))
              have HP8a : Aside0 (OwnP w wa v2 (wts l (j + 1))) := ⟨by unfold OwnP; rw [HWS.out, List.length_append, pcells_snoc]; exact hown2⟩
              have HP7a : Aside0 (OwnP w wa v1 (pgs l hv (j + 1))) := ⟨own_other HP79.out hga (ne_other (ne_symm HN8.out))⟩
              have HNa : Aside0 (NeRow v1 v2) := ⟨ne_append' HN8.out hata HP79.out⟩
              have HBa := Aside0.mk hBa
              clear hown2 hBa hga hata
              have hwj : wrap64 ((j : Int) + 1) = ((j + 1 : Nat) : Int) := (own_w (m := 8) (by have := H8.out; omega) (by omega)).1
              go_roundw
              case rel => exact ⟨j + 1, f1, by rw [hwj], rfl, ⟨by omega⟩, HA1, HP7a, HP8a, HNa, HBa⟩
              case measure =>
                try rw [hwj]
                simp [intOf]; omega
      · obtain rfl : j = hv.length := by have := J.out; omega
        obtain ⟨A7, c7, rfl, hc7, hr7⟩ := HP7.out.reads
        obtain ⟨A8, c8, rfl, hc8, hr8⟩ := HP8.out.reads
        have hu : (pgs l hv hv.length).length * 24 ≤ 140737488355328 := by rw [pgs_len]; have := H8.out; omega
        obtain ⟨m, hm, hml⟩ := umod early 300 (by omega) (by omega)
        have hu3 := u64_in (x := 300) (by omega) (by omega)
        have hz3 : ¬ ((300 : Int) = 0) := by omega
        have HRA := Aside0.mk hr7; have HRB := Aside0.mk hr8; clear hr7 hr8
        clear hlt J HP7 HP8
        go_upto_region 22 with (fail)
        have hg : wrap64 (f - (m : Int)) = f - (m : Int) := by have := HA.out.1; have := HA.out.2.1; exact w64 (by omega) (by omega)
        have hge : wrap64 (f - (m : Int)) ≤ f := by rw [hg]; omega
        clear hm hml hu3 hz3 hg
        generalize wrap64 (f - (m : Int)) = g at *
        have ev1 := pages_ev l g (pgs l hv hv.length) HF.out.1 (by omega) hu
        rw [whole_eq l hv f HS.out HL.out g hge HA.out] at ev1
        obtain ⟨k1, h1⟩ := ev1.rounds
        have ev2 := refsame_ev (wts l hv.length) (wts l hv.length) (by rw [wts_len]; have := H8.out; omega)
        rw [sameB_refl] at ev2
        obtain ⟨k2, h2⟩ := ev2.rounds
        have H1 := Aside0.mk h1; have H2 := Aside0.mk h2
        clear h1 h2 ev1 ev2 HN hge hu HA
        generalize pgs l hv hv.length = ps7 at *
        generalize wts l hv.length = ps8 at *
        go_wp2_with (first | (go_at_call 30; refine (redo_Pages.calls k1 _ c0 l g _ c7 ps7 ps8 _ (Kd.C_below HR0.out HB.out) hc0 HRA.out hc7 H1.out).mono ?_; rintro e w4 ⟨v0, rfl, hv4, hb4⟩; obtain ⟨A9, c9, rfl, hc9, hr9⟩ := Kd.R_reads hv4; have HR9 := Aside0.mk hr9; have HB4 := Aside0.mk (Arr.below_trans HB.out hb4); have HR84 := Aside0.mk (Kd.C_below HRB.out hb4); clear hv4 hb4 hr9) | (go_at_call 31; refine (careenref14_Same.calls k2 _ c9 ps8 _ c8 ps8 true _ HR9.out hc9 HR84.out hc8 H2.out).mono ?_; rintro e w5 ⟨rfl, hb5⟩; have HB5 := Aside0.mk (Arr.below_trans HB4.out hb5.below); clear hb5))
        go_ret
        exact ⟨rfl, HB5.out⟩
/-- Rises: the places go up. -/
def risesB : List S58 → Bool
  | x :: y :: r => decide (x.f0 < y.f0) && risesB (y :: r)
  | _ => true
theorem rises_pair : ∀ (l : List S58), risesB l = true → l.Pairwise fun a b => a.f0 < b.f0
  | [], _ => List.Pairwise.nil
  | [x], _ => by simp
  | x :: y :: r, h => by
    simp only [risesB, Bool.and_eq_true, decide_eq_true_eq] at h
    have ih := rises_pair (y :: r) h.2
    refine List.pairwise_cons.2 ⟨fun z hz => ?_, ih⟩
    rcases List.mem_cons.1 hz with rfl | hz
    · exact h.1
    · have := (List.pairwise_cons.1 ih).1 z hz; omega
theorem rises_l0 (l : List S58) (hl : l.length < 9223372036854775800) : ∀ (d i : Nat), i + d = l.length → 0 < i → Ev (fun k => careenref11_Rises.l0 k l (i : Int)) (risesB (l.drop (i - 1))) := by
  intro d
  induction d with
  | zero =>
    intro i hi h0
    refine Ev.step (f := fun k => some (risesB (l.drop (i - 1)))) ?_ (Ev.now _)
    intro k
    simp only [careenref11_Rises.l0]
    rw [if_neg (by omega)]
    rw [List.drop_eq_getElem_cons (by omega), show i - 1 + 1 = i by omega, List.drop_of_length_le (by omega)]
    rfl
  | succ d ih =>
    intro i hi h0
    have h1 : i - 1 < l.length := by omega
    have h2 : i < l.length := by omega
    have e : l.drop (i - 1) = l[i - 1] :: l.drop i := by rw [List.drop_eq_getElem_cons h1, show i - 1 + 1 = i by omega]
    have e2 : l.drop i = l[i] :: l.drop (i + 1) := List.drop_eq_getElem_cons h2
    refine Ev.step (f := fun k => if (l[i - 1]).f0 ≥ (l[i]).f0 then some false else careenref11_Rises.l0 k l ((i + 1 : Nat) : Int)) ?_ ?_
    · intro k
      simp only [careenref11_Rises.l0]
      rw [w64 (x := (i : Int) - 1) (by omega) (by omega), if_pos (by omega), if_pos (by omega), if_pos (by omega), if_pos (by omega), w64 (by omega) (by omega), show ((i : Int) - 1) = ((i - 1 : Nat) : Int) by omega, rd58 l (i - 1) h1, rd58 l i h2]
      rfl
    · rw [e, e2]
      simp only [risesB]
      by_cases c : (l[i - 1]).f0 ≥ (l[i]).f0
      · simp only [c, if_true, show ¬ (l[i - 1]).f0 < (l[i]).f0 by omega, decide_false, Bool.false_and]; exact Ev.now false
      · simp only [c, if_false, show (l[i - 1]).f0 < (l[i]).f0 by omega, decide_true, Bool.true_and]
        have := ih (i + 1) (by omega) (by omega)
        rw [show i + 1 - 1 = i by omega, e2] at this
        exact this
theorem rises_ev (l : List S58) (hl : l.length < 9223372036854775800) : Ev (fun k => careenref11_Rises.f k l) (risesB l) := by
  show Ev (fun k => careenref11_Rises.l0 k l 1) _
  cases l with
  | nil =>
    refine Ev.step (f := fun k => some true) ?_ (Ev.now _)
    intro k
    simp [careenref11_Rises.l0]
  | cons x r => exact rises_l0 (x :: r) hl r.length 1 (by simp; omega) (by omega)

open Classical in
noncomputable def careenlaw14_RedoWhole.f (l0 : List S58) (l1 : List Int) (a2 : Int) : Option (Bool) := if FitsW l0 l1 then some true else none
theorem careenlaw14_RedoWhole.calls (A0 : Option Addr) (c0 : Nat) (l0 : List (S58)) (A1 : Option Addr) (c1 : Nat) (l1 : List Int) (a2 : Int) (r : Bool) (w : World) (hr0 : Kd.C k58 w A0 l0.length l0) (hc0 : l0.length ≤ c0) (hr1 : Kd.C (Kd.int .u8) w A1 l1.length l1) (hc1 : l1.length ≤ c1) (h : careenlaw14_RedoWhole.f l0 l1 a2 = some r) :
    Calls Try.prog 9 #[.slice A0 l0.length c0, .slice A1 l1.length c1, .int .i64 a2] w fun e w' => e = .returned (.bool r) ∧ Below w.heap.size w w' := by
  unfold careenlaw14_RedoWhole.f at h
  by_cases hf : FitsW l0 l1
  · rw [if_pos hf] at h
    obtain rfl := Option.some.inj h
    have hll : l0.length < 9223372036854775800 := by have := hf.2.1; omega
    obtain ⟨b, hb⟩ := few_ev l0 (by omega)
    obtain ⟨kb, hkb⟩ := hb.rounds
    obtain ⟨kr, hkr⟩ := (rises_ev l0 hll).rounds
    cases b with
    | false => exact whole_early l0 l1 a2 A0 c0 A1 c1 w hr0 hc0 hr1 hc1 hf false _ kb kr ⟨hkb⟩ ⟨hkr⟩ (.inl rfl)
    | true =>
      cases hr : risesB l0 with
      | false => rw [hr] at hkr; exact whole_early l0 l1 a2 A0 c0 A1 c1 w hr0 hc0 hr1 hc1 hf true false kb kr ⟨hkb⟩ ⟨hkr⟩ (.inr (.inl rfl))
      | true =>
        rw [hr] at hkr
        by_cases h8 : 8 < l1.length
        · exact whole_early l0 l1 a2 A0 c0 A1 c1 w hr0 hc0 hr1 hc1 hf true true kb kr ⟨hkb⟩ ⟨hkr⟩ (.inr (.inr (.inl h8)))
        · by_cases h1 : ∃ hl : 0 < l0.length, (l0[0]'hl).f0 < 1
          · exact whole_early l0 l1 a2 A0 c0 A1 c1 w hr0 hc0 hr1 hc1 hf true true kb kr ⟨hkb⟩ ⟨hkr⟩ (.inr (.inr (.inr h1)))
          · exact whole_go l0 l1 a2 A0 c0 A1 c1 w hr0 hc0 hr1 hc1 hf kb kr ⟨hkb⟩ ⟨hkr⟩ (by omega) (rises_pair l0 hr) (fun hl => by
              have : ¬ (l0[0]'hl).f0 < 1 := fun q => h1 ⟨hl, q⟩
              omega)
  · rw [if_neg hf] at h
    cases h
end Go.Proofs.Ytlgcmcieipdcgaa.X14
