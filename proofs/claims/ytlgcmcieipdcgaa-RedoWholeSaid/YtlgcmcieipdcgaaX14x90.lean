import Derived.Test.YtlgcmcieipdcgaaPure14
import Derived.Outline
namespace Go.Proofs.Ytlgcmcieipdcgaa.X14
open Go Go.RowKit Go.Proofs.YtlgcmcieipdcgaaW.PrintWords Go.Proofs.YtlgcmcieipdcgaaW.PrintLast Go.Proofs.YtlgcmcieipdcgaaW.PrintMore
attribute [local go_sem] max2_int min2_int max_two min_two max_three min_three max_four min_four
set_option linter.unusedVariables false
set_option linter.unusedSimpArgs false
attribute [local go_sem high] eqA23
/-- The entries that name page n. -/
def ownF (n : Int) (l : List S58) : List S58 := l.filter fun x => x.f1.f2 == n
/-- What is known of the arguments. -/
def Fits (l : List S58) (ps : List S23) : Prop := (∀ x ∈ l, x.f1.f8.size ≤ 140737488351232) ∧ l.length * 144 ≤ 140737488351232 ∧ ps.length * 24 ≤ 140737488351232
/-- A row of the call's own, of entries that lead to what came in. -/
def OwnE (w0 w : World) (v : Value) (xs : List S58) : Prop := ∃ cs, w.ownsRow w0.heap.size 58 12 v xs.length cs ∧ Reps (k58.K w0) 12 xs cs
theorem OwnE.below {w0 w w1 : World} {v : Value} {xs : List S58} (h : OwnE w0 w v xs) (hb : Below w.heap.size w w1) : OwnE w0 w1 v xs := by
  obtain ⟨cs, h1, h2⟩ := h
  exact ⟨cs, pw_own_below h1 hb, h2⟩
theorem OwnE.reads {w0 w : World} {v : Value} {xs : List S58} (h : OwnE w0 w v xs) (hb : Below w0.heap.size w0 w) : ∃ A c, v = .slice A xs.length c ∧ xs.length ≤ c ∧ Kd.C k58 w A xs.length xs := by
  obtain ⟨cs, h1, h2⟩ := h
  obtain ⟨A, c, e, hr⟩ := own_reads_row h1 (h2.imp_ (fun p c hp => k58.K_below hb hp)) rfl
  refine ⟨A, c, e, ?_, hr⟩
  subst e
  exact own_le h1
theorem at_step (from_ : Int) (m : Nat) (ps : List S23) (x : S58) (h : m < ps.length) : (stepP from_ ps x).getD m z23 = if x.f0 ≥ from_ ∧ x.f1.f2 = (m : Int) then applyS x (ps.getD m z23) else ps.getD m z23 := by
  unfold stepP
  by_cases c : x.f0 ≥ from_ ∧ x.f1.f2 ≥ 0 ∧ x.f1.f2 < (ps.length : Int)
  · rw [if_pos c]
    obtain ⟨q, hq⟩ := Int.eq_ofNat_of_zero_le c.2.1
    rw [hq, Int.toNat_natCast]
    by_cases e : q = m
    · subst e
      rw [if_pos ⟨c.1, rfl⟩]
      simp [List.getD_eq_getElem?_getD, List.getElem?_set, h, rd_T23]
    · rw [if_neg (by omega)]
      simp [List.getD_eq_getElem?_getD, List.getElem?_set, e]
  · rw [if_neg c, if_neg (by omega)]
theorem fold_at (from_ : Int) (m : Nat) : ∀ (l : List S58) (ps : List S23), m < ps.length → (pagesF from_ l ps).getD m z23 = l.foldl (fun p x => if x.f0 ≥ from_ ∧ x.f1.f2 = (m : Int) then applyS x p else p) (ps.getD m z23)
  | [], ps, _ => rfl
  | x :: r, ps, h => by
    show (pagesF from_ r (stepP from_ ps x)).getD m z23 = _
    rw [fold_at from_ m r _ (by rw [stepP_len]; exact h), at_step from_ m ps x h]
    rfl
theorem fold_own (from_ : Int) (m : Nat) : ∀ (l : List S58) (p : S23), (ownF m l).foldl (fun p x => if x.f0 ≥ from_ ∧ x.f1.f2 = (m : Int) then applyS x p else p) p = l.foldl (fun p x => if x.f0 ≥ from_ ∧ x.f1.f2 = (m : Int) then applyS x p else p) p
  | [], p => rfl
  | x :: r, p => by
    unfold ownF
    by_cases e : x.f1.f2 = (m : Int)
    · rw [List.filter_cons_of_pos (by simpa using e)]
      exact fold_own from_ m r _
    · rw [List.filter_cons_of_neg (by simpa using e), List.foldl_cons, if_neg (fun h => e h.2)]
      exact fold_own from_ m r _
/-- What is done to others changes nothing of a page. -/
theorem apart_eq (from_ : Int) (m : Nat) (l : List S58) (ps : List S23) (h : m < ps.length) : rd_T23 (pagesF from_ (ownF m l) ps) (m : Int) = rd_T23 (pagesF from_ l ps) (m : Int) := by
  show (pagesF from_ (ownF m l) ps).getD (m : Int).toNat z23 = (pagesF from_ l ps).getD (m : Int).toNat z23
  rw [Int.toNat_natCast, fold_at from_ m _ ps h, fold_at from_ m _ ps h, fold_own]
theorem apart_walk (l : List S58) (from_ : Int) (ps : List S23) (n : Int) (A0 : Option Addr) (c0 : Nat) (A2 : Option Addr) (c2 : Nat) (w : World) (hr0 : Kd.C k58 w A0 l.length l) (hc0 : l.length ≤ c0) (hr2 : Kd.C k23 w A2 ps.length ps) (hc2 : ps.length ≤ c2) (hf : Fits l ps) :
    Calls Try.prog 11 #[.slice A0 l.length c0, .int .i64 from_, .slice A2 ps.length c2, .int .i64 n] w fun e w' => e = .returned (.bool true) ∧ Below w.heap.size w w' := by
  have hl : l.length < 9223372036854775800 := by have := hf.2.1; omega
  have hpl : ps.length < 9223372036854775800 := by have := hf.2.2; omega
  obtain ⟨b, hb⟩ := few_ev l (by omega)
  obtain ⟨kb, hkb⟩ := hb.rounds
  obtain ⟨c, hc⟩ := fewp_ev ps (by omega)
  obtain ⟨kc, hkc⟩ := hc.rounds
  have HKB := Aside0.mk hkb; have HKC := Aside0.mk hkc; have HF := Aside0.mk hf; have HR0 := Aside0.mk hr0; have HR2 := Aside0.mk hr2
  clear hb hc hkb hkc hf hr0 hr2
  have HB := Aside0.mk (Below.refl w.heap.size w)
  cases b with
  | false =>
    go_enter Try.func11, Try.ntmps11
    go_wp2_with (first | (go_at_call 27; refine (careenlaw14_awake.go _).mono ?_; rintro e w1 ⟨rfl, hb1⟩; have n_ := Aside0.mk (Arr.below_trans HB.out hb1); clear HB; have HB := n_; clear n_ hb1) | (go_at_call 28; refine (careenref11_Few.calls kb A0 c0 l false _ (Kd.C_below HR0.out HB.out) hc0 HKB.out).mono ?_; rintro e w1 ⟨rfl, hb1⟩; have n_ := Aside0.mk (Arr.below_trans HB.out hb1); clear HB; have HB := n_; clear n_ hb1) | (go_at_call 29; refine (careenlaw14_few.calls kc A2 c2 ps c _ (Kd.C_below HR2.out HB.out) hc2 HKC.out).mono ?_; rintro e w1 ⟨rfl, hb1⟩; have n_ := Aside0.mk (Arr.below_trans HB.out hb1); clear HB; have HB := n_; clear n_ hb1))
    go_ret
    exact ⟨rfl, HB.out⟩
  | true =>
    cases c with
    | false =>
      go_enter Try.func11, Try.ntmps11
      go_wp2_with (first | (go_at_call 27; refine (careenlaw14_awake.go _).mono ?_; rintro e w1 ⟨rfl, hb1⟩; have n_ := Aside0.mk (Arr.below_trans HB.out hb1); clear HB; have HB := n_; clear n_ hb1) | (go_at_call 28; refine (careenref11_Few.calls kb A0 c0 l true _ (Kd.C_below HR0.out HB.out) hc0 HKB.out).mono ?_; rintro e w1 ⟨rfl, hb1⟩; have n_ := Aside0.mk (Arr.below_trans HB.out hb1); clear HB; have HB := n_; clear n_ hb1) | (go_at_call 29; refine (careenlaw14_few.calls kc A2 c2 ps false _ (Kd.C_below HR2.out HB.out) hc2 HKC.out).mono ?_; rintro e w1 ⟨rfl, hb1⟩; have n_ := Aside0.mk (Arr.below_trans HB.out hb1); clear HB; have HB := n_; clear n_ hb1))
      go_ret
      exact ⟨rfl, HB.out⟩
    | true =>
      by_cases hp0 : ps.length = 0
      · have z0 : ((ps.length : Int) == 0) = true := by simp [hp0]
        clear hp0
        go_enter Try.func11, Try.ntmps11
        go_wp2_with (first | (go_at_call 27; refine (careenlaw14_awake.go _).mono ?_; rintro e w1 ⟨rfl, hb1⟩; have n_ := Aside0.mk (Arr.below_trans HB.out hb1); clear HB; have HB := n_; clear n_ hb1) | (go_at_call 28; refine (careenref11_Few.calls kb A0 c0 l true _ (Kd.C_below HR0.out HB.out) hc0 HKB.out).mono ?_; rintro e w1 ⟨rfl, hb1⟩; have n_ := Aside0.mk (Arr.below_trans HB.out hb1); clear HB; have HB := n_; clear n_ hb1) | (go_at_call 29; refine (careenlaw14_few.calls kc A2 c2 ps true _ (Kd.C_below HR2.out HB.out) hc2 HKC.out).mono ?_; rintro e w1 ⟨rfl, hb1⟩; have n_ := Aside0.mk (Arr.below_trans HB.out hb1); clear HB; have HB := n_; clear n_ hb1))
        go_ret
        exact ⟨rfl, HB.out⟩
      · have z0 : ((ps.length : Int) == 0) = false := by simpa using hp0
        have hpos : (0 : Int) < (ps.length : Int) := by omega
        obtain ⟨m, hm, hml⟩ := umod n (ps.length : Int) hpos (by omega)
        have hu := u64_in (x := (ps.length : Int)) (by omega) (by omega)
        have hu2 : ¬ ((ps.length : Int) = 0) := by omega
        clear hp0
        go_enter Try.func11, Try.ntmps11
        go_upto_region 4 with (first | (go_at_call 27; refine (careenlaw14_awake.go _).mono ?_; rintro e w1 ⟨rfl, hb1⟩; have n_ := Aside0.mk (Arr.below_trans HB.out hb1); clear HB; have HB := n_; clear n_ hb1) | (go_at_call 28; refine (careenref11_Few.calls kb A0 c0 l true _ (Kd.C_below HR0.out HB.out) hc0 HKB.out).mono ?_; rintro e w1 ⟨rfl, hb1⟩; have n_ := Aside0.mk (Arr.below_trans HB.out hb1); clear HB; have HB := n_; clear n_ hb1) | (go_at_call 29; refine (careenlaw14_few.calls kc A2 c2 ps true _ (Kd.C_below HR2.out HB.out) hc2 HKC.out).mono ?_; rintro e w1 ⟨rfl, hb1⟩; have n_ := Aside0.mk (Arr.below_trans HB.out hb1); clear HB; have HB := n_; clear n_ hb1))
        rw [hm]
        clear hm hu hu2 z0
        go_upto_region 6 with (fail)
        go_loopw [9, 41] (fun v i wr => ∃ j : Nat, i = .int .i64 j ∧ Aside0 (j ≤ l.length) ∧ Aside0 (OwnE w wr v (ownF m (l.take j))) ∧ Aside0 (Below w.heap.size w wr)) (fun _ i _ => l.length - (intOf i).toNat)
        case atStart => exact ⟨0, rfl, ⟨Nat.zero_le _⟩, ⟨[], own_nil _ _ _ _, Reps.none _ _⟩, HB⟩
        case round =>
          clear HB
          obtain ⟨j, rfl, J, HO, HB⟩ := hrel
          by_cases hlt : (j : Int) < (l.length : Int)
          · have hge : (0 : Int) ≤ (j : Int) := by omega
            have hjl : j < l.length := by omega
            have htk : l.take (j + 1) = l.take j ++ [l[j]] := by rw [List.take_succ_eq_append_getElem hjl]
            obtain ⟨ad, A10, c10, A11, c11, rfl, e0, e1, e2, e3, e4, e5, e6, e7, e8, e9, e10, e11, m9, n9, m10, n10⟩ := at_T58 HR0.out (j : Int) hge hlt
            rw [rd58 l j hjl] at e0 e1 e2 e3 e4 e5 e6 e7 e8 e9 e10 e11 m9 n9 m10 n10
            simp only [Int.toNat_natCast] at e0 e1 e2 e3 e4 e5 e6 e7 e8 e9 e10 e11
            have HT := Aside0.mk htk; clear htk
            generalize l[j] = x at *
            obtain ⟨At, r0, r1, r2, r3, r4, r5, r6, r7, r8, r9, r10⟩ := x
            simp only at e0 e1 e2 e3 e4 e5 e6 e7 e8 e9 e10 e11 m9 n9 m10 n10
            replace e0 := pw_cell_below HB.out e0; replace e1 := pw_cell_below HB.out e1; replace e2 := pw_cell_below HB.out e2; replace e3 := pw_cell_below HB.out e3; replace e4 := pw_cell_below HB.out e4; replace e5 := pw_cell_below HB.out e5; replace e6 := pw_cell_below HB.out e6; replace e7 := pw_cell_below HB.out e7; replace e8 := pw_cell_below HB.out e8; replace e9 := pw_cell_below HB.out e9; replace e10 := pw_cell_below HB.out e10; replace e11 := pw_cell_below HB.out e11
            have hK := k58_mk w ⟨At, ⟨r0, r1, r2, r3, r4, r5, r6, r7, r8, r9, r10⟩⟩ m9 n9 m10 n10
            have HK := Aside0.mk hK
            clear hK m9 n9 m10 n10
            go_upto_region 8 with (fail)
            have b5 := heap_alloc_new wr (Obj.cells #[.int .i64 At, .int .i64 r0, .int .i64 r1, .int .i64 r2, .int .i64 r3, .int .i64 r4, .int .i64 r5, .int .i64 r6, .string r7, .string r8, .slice A10 r9.length c10, .slice A11 r10.length c11] 58)
            have hA5 := (Below.refl wr.heap.size wr).alloc (Nat.le_refl _) (Obj.cells #[.int .i64 At, .int .i64 r0, .int .i64 r1, .int .i64 r2, .int .i64 r3, .int .i64 r4, .int .i64 r5, .int .i64 r6, .string r7, .string r8, .slice A10 r9.length c10, .slice A11 r10.length c11] 58)
            have HB5 := Aside0.mk (Arr.below_trans HB.out hA5)
            have HO5 := Aside0.mk (HO.out.below hA5)
            have hbz : w.heap.size ≤ wr.heap.size := HB.out.size
            clear HB HO e0 e1 e2 e3 e4 e5 e6 e7 e8 e9 e10 e11 hA5
            generalize wr.alloc (Obj.cells #[.int .i64 At, .int .i64 r0, .int .i64 r1, .int .i64 r2, .int .i64 r3, .int .i64 r4, .int .i64 r5, .int .i64 r6, .string r7, .string r8, .slice A10 r9.length c10, .slice A11 r10.length c11] 58) = w5 at *
            generalize wr.heap.size = gb at *
            have f0 := blk_cell b5 0; have f1 := blk_cell b5 1; have f2 := blk_cell b5 2; have f3 := blk_cell b5 3; have f4 := blk_cell b5 4; have f5 := blk_cell b5 5; have f6 := blk_cell b5 6; have f7 := blk_cell b5 7; have f8 := blk_cell b5 8; have f9 := blk_cell b5 9; have f10 := blk_cell b5 10; have f11 := blk_cell b5 11
            clear b5
            by_cases c1 : r2 = (m : Int)
            · have d1 : (r2 == (m : Int)) = true := by simpa using c1
              have HC := Aside0.mk c1; clear c1
              obtain ⟨cs, ho, hrp⟩ := HO5.out
              have HOO := Aside0.mk ho; have HRP := Aside0.mk hrp; clear ho hrp
              have hown : (ownF m (l.take j)).length ≤ l.length := Nat.le_trans (List.length_filter_le ..) (List.length_take_le' ..)
              have hlim : ((ownF m (l.take j)).length + 1) * 144 ≤ 140737488355328 := by have := HF.out.2.1; omega
              go_wp2_with ((with_reducible refine gate_builtin (b := .append) (xs := #[.tmp 50, .tmp 52]) rfl ?_); at_builtin; refine print_append_cells (w0 := w) w.heap.size rfl (.tmp 50) (.tmp 52) 48 58 _ 12 144 rfl Try.underlying48 info58 rfl (by decide) (by decide) _ _ cs [.int .i64 At, .int .i64 r0, .int .i64 r1, .int .i64 r2, .int .i64 r3, .int .i64 r4, .int .i64 r5, .int .i64 r6, .string r7, .string r8, .slice A10 r9.length c10, .slice A11 r10.length c11] rfl rfl rfl ?h1 HOO.out HB5.out HB5.out.size hlim ?_; (case h1 => simp [Value.oneCell']); intro v1 w7 hown1 hB7 hg7 hat7)
              have hR := Reps.snoc HRP.out HK.out rfl
              have ho : ownF m (l.take (j + 1)) = ownF m (l.take j) ++ [⟨At, ⟨r0, r1, r2, r3, r4, r5, r6, r7, r8, r9, r10⟩⟩] := by
                rw [HT.out]; unfold ownF; rw [List.filter_append]; congr 1
                simp [HC.out]
              have HO7 : Aside0 (OwnE w w7 v1 (ownF m (l.take (j + 1)))) := ⟨⟨_, by rw [ho, List.length_append]; exact hown1, by rw [ho]; exact hR⟩⟩
              have HB7 := Aside0.mk hB7
              clear hown1 hB7 hg7 hat7 hR ho
              go_roundw
              case rel => exact ⟨j + 1, by go_num, ⟨by omega⟩, HO7, HB7⟩
              case measure => simp [intOf]; omega
            · have d1 : (r2 == (m : Int)) = false := by simpa using c1
              have ho : ownF m (l.take (j + 1)) = ownF m (l.take j) := by
                rw [HT.out]; unfold ownF; rw [List.filter_append]; simp [c1]
              have HO7 : Aside0 (OwnE w w5 u9 (ownF m (l.take (j + 1)))) := ⟨by rw [ho]; exact HO5.out⟩
              clear c1 ho
              go_wp2
              go_roundw
              case rel => exact ⟨j + 1, by go_num, ⟨by omega⟩, HO7, HB5⟩
              case measure => simp [intOf]; omega
          · obtain rfl : j = l.length := by have := J.out; omega
            rw [List.take_length] at HO
            go_upto_region 11 with (fail)
            have ev1 := pages_ev l from_ ps HF.out.1 (by omega) (by have := HF.out.2.2; omega)
            obtain ⟨k1, h1⟩ := ev1.rounds
            have ev2 := pages_ev (ownF m l) from_ ps (fun x hx => HF.out.1 x (List.mem_filter.1 hx).1) (by have : (ownF m l).length ≤ l.length := List.length_filter_le ..; omega) (by have := HF.out.2.2; omega)
            obtain ⟨k2, h2⟩ := ev2.rounds
            have H1 := Aside0.mk h1; have H2 := Aside0.mk h2
            clear ev1 ev2 h1 h2 hlt J
            go_upto_region 12 with (go_at_call 30; refine (redo_Pages.calls k1 A0 c0 l from_ A2 c2 ps _ _ (Kd.C_below HR0.out HB.out) hc0 (Kd.C_below HR2.out HB.out) hc2 H1.out).mono ?_; rintro e w4 ⟨v0, rfl, hv, hb4⟩)
            have HO4 := Aside0.mk (HO.out.below hb4)
            have HB4 := Aside0.mk (Arr.below_trans HB.out hb4)
            have HV4 := Aside0.mk hv
            clear hb4 hv HO HB
            obtain ⟨A3, c3, rfl, hc3, hr3⟩ := HO4.out.reads HB4.out
            have HR3 := Aside0.mk hr3; clear hr3
            go_upto_region 13 with (go_at_call 30; refine (redo_Pages.calls k2 A3 c3 (ownF m l) from_ A2 c2 ps _ _ HR3.out hc3 (Kd.C_below HR2.out HB4.out) hc2 H2.out).mono ?_; rintro e w5 ⟨v1, rfl, hv5, hb5⟩)
            have HB5 := Aside0.mk (Arr.below_trans HB4.out hb5)
            have L1 := pagesF_len from_ l ps
            have L2 := pagesF_len from_ (ownF m l) ps
            have hv4 := Kd.R_below HV4.out hb5
            obtain ⟨g4, q4, rfl, _, _, _⟩ := Kd.R_form hv4 (by omega)
            obtain ⟨g5, q5, rfl, _, _, _⟩ := Kd.R_form hv5 (by omega)
            obtain ⟨_, _, cc4⟩ := Kd.R_reads' hv4
            obtain ⟨_, _, cc5⟩ := Kd.R_reads' hv5
            obtain ⟨ad4, e4, x0, x1⟩ := at_T23 cc4 (m : Int) (by omega) (by omega)
            obtain ⟨ad5, e5, y0, y1⟩ := at_T23 cc5 (m : Int) (by omega) (by omega)
            cases e4; cases e5
            rw [apart_eq from_ m l ps (by omega)] at y0 y1
            generalize rd_T23 (pagesF from_ l ps) (m : Int) = pg at *
            rw [L1, L2]
            simp only [Int.toNat_natCast, add_plain] at x0 x1 y0 y1
            have i0 : (0 : Int) ≤ (m : Int) := by omega
            clear hv4 hv5 cc4 cc5 HV4 HO4 HR3 hb5 L1 L2 H1 H2 HB4
            go_region
            go_wp2
            go_ret
            exact ⟨rfl, HB5.out.drew⟩
open Classical in
noncomputable def careenlaw14_RedoApart.f (l0 : List S58) (a1 : Int) (l2 : List S23) (a3 : Int) : Option (Bool) := if Fits l0 l2 then some true else none
theorem careenlaw14_RedoApart.calls (A0 : Option Addr) (c0 : Nat) (l0 : List (S58)) (a1 : Int) (A2 : Option Addr) (c2 : Nat) (l2 : List (S23)) (a3 : Int) (r : Bool) (w : World) (hr0 : Kd.C k58 w A0 l0.length l0) (hc0 : l0.length ≤ c0) (hr2 : Kd.C k23 w A2 l2.length l2) (hc2 : l2.length ≤ c2) (h : careenlaw14_RedoApart.f l0 a1 l2 a3 = some r) :
    Calls Try.prog 11 #[.slice A0 l0.length c0, .int .i64 a1, .slice A2 l2.length c2, .int .i64 a3] w fun e w' => e = .returned (.bool r) ∧ Below w.heap.size w w' := by
  unfold careenlaw14_RedoApart.f at h
  by_cases hf : Fits l0 l2
  · rw [if_pos hf] at h
    obtain rfl := Option.some.inj h
    exact apart_walk l0 a1 l2 a3 A0 c0 A2 c2 w hr0 hc0 hr2 hc2 hf
  · rw [if_neg hf] at h
    cases h
end Go.Proofs.Ytlgcmcieipdcgaa.X14
