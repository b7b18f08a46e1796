import Derived.Test.YtnhlfafdldpdgaaPol
/-! Layer 19: the frame that is worth least. -/
namespace Go.Proofs.Ytnhlfafdldpdgaa.Pol
open Go Go.RowKit Go.Proofs.Ytnhlfafdldpdgaa.Arr Go.Proofs.Ytnhlfafdldpdgaa.Flt Go.Proofs.Ytnhlfafdldpdgaa.Cell Go.Proofs.YtnhlfafdldpdgaaW.PrintWords Go.Proofs.YtnhlfafdldpdgaaW.PrintLast Go.Proofs.YtnhlfafdldpdgaaW.PrintMore
set_option linter.unusedVariables false
set_option linter.unusedSimpArgs false
def at_ (l : List UInt64) (k : Nat) : Nat := (l.getD k 0).toNat
theorem at_lt (l : List UInt64) (k : Nat) : at_ l k < 18446744073709551616 := (l.getD k 0).toNat_lt
theorem at_eq (l : List UInt64) (k : Nat) (h : k < l.length) : l[k].toNat = at_ l k := by
  unfold at_
  rw [List.getD_eq_getElem?_getD, List.getElem?_eq_getElem h]
  rfl
def vict (l : List UInt64) : Nat → Int
  | 0 => -1
  | k + 1 => if vict l k < 0 ∨ ordF (at_ l k) (at_ l (vict l k).toNat) < 0 then (k : Int) else vict l k
theorem vict_range (l : List UInt64) : ∀ k, (k = 0 → vict l k = -1) ∧ (0 < k → 0 ≤ vict l k ∧ vict l k < k)
  | 0 => ⟨fun _ => rfl, fun h => by omega⟩
  | k + 1 => by
    refine ⟨fun h => by omega, fun _ => ?_⟩
    have ih := vict_range l k
    show 0 ≤ (if _ then (k : Int) else vict l k) ∧ (if _ then (k : Int) else vict l k) < _
    split
    · omega
    · rename_i h
      have h2 : ¬ vict l k < 0 := fun q => h (Or.inl q)
      by_cases hk : k = 0
      · have := ih.1 hk; omega
      · have := ih.2 (by omega); omega
theorem ord_lt (a b : Nat) : ordF a b < 0 ↔ kz a < kz b := by
  unfold ordF
  split
  · constructor <;> omega
  · split <;> constructor <;> omega
/-- None is worth less; of those that are worth as little it is the first. -/
theorem vict_least (l : List UInt64) : ∀ k, ∀ j, j < k → kz (at_ l (vict l k).toNat) ≤ kz (at_ l j) ∧ (kz (at_ l j) = kz (at_ l (vict l k).toNat) → vict l k ≤ j)
  | 0, j, hj => by omega
  | k + 1, j, hj => by
    have ih := vict_least l k
    have hr := vict_range l k
    have e : vict l (k + 1) = if vict l k < 0 ∨ ordF (at_ l k) (at_ l (vict l k).toNat) < 0 then (k : Int) else vict l k := rfl
    by_cases c : vict l k < 0 ∨ ordF (at_ l k) (at_ l (vict l k).toNat) < 0
    · rw [e, if_pos c, Int.toNat_natCast]
      by_cases hk : j = k
      · subst hk; exact ⟨Int.le_refl _, fun _ => Int.le_refl _⟩
      · have hjk : j < k := by omega
        have h1 := hr.2 (by omega)
        have h2 : ordF (at_ l k) (at_ l (vict l k).toNat) < 0 := by
          rcases c with c | c
          · omega
          · exact c
        have h3 := (ord_lt _ _).1 h2
        have h4 := (ih j hjk).1
        exact ⟨by omega, fun q => by omega⟩
    · rw [e, if_neg c]
      have h2 : ¬ ordF (at_ l k) (at_ l (vict l k).toNat) < 0 := fun q => c (Or.inr q)
      have h3 := mt (ord_lt _ _).2 h2
      by_cases hk : j = k
      · subst hk
        refine ⟨by omega, fun _ => ?_⟩
        have h0 : ¬ vict l j < 0 := fun q => c (Or.inl q)
        by_cases hz : j = 0
        · have := hr.1 hz; omega
        · have := hr.2 (by omega); omega
      · exact ih j (by omega)
theorem vict_calls (A0 : Option Addr) (c0 : Nat) (l : List UInt64) (w : World) (hr : Kd.C kf w A0 l.length l) : Calls Try.prog 41 #[.slice A0 l.length c0] w (Gives (.int .i64 (vict l l.length)) w) := by
  have hm := Kd.C_max hr
  have HR := Aside0.mk hr; clear hr
  have HB := Aside0.mk (Below.refl w.heap.size w)
  go_enter Try.func41, Try.ntmps41
  go_upto_region 3 with (fail)
  go_loopw [3, 8] (fun v i wr => ∃ k : Nat, i = .int .i64 k ∧ v = .int .i64 (vict l k) ∧ Aside0 (k ≤ l.length) ∧ Aside0 (Below w.heap.size w wr)) (fun _ i _ => l.length - (intOf i).toNat)
  case atStart => exact ⟨0, rfl, rfl, ⟨by omega⟩, HB⟩
  case round =>
    clear HB
    obtain ⟨k, rfl, rfl, K, HB⟩ := hrel
    by_cases hlt : (k : Int) < (l.length : Int)
    · have hk : k < l.length := by omega
      have h0 : (0 : Int) ≤ (k : Int) := by omega
      obtain ⟨ad, rfl, hc⟩ := f_at HR.out k hk
      replace hc := pw_cell_below HB.out hc
      rw [at_eq l k hk] at hc
      have hwk : wrap64 ((k : Int) + 1) = ((k + 1 : Nat) : Int) := by unfold wrap64; omega
      have hrg := vict_range l k
      have HS := Aside0.mk (show vict l (k + 1) = if vict l k < 0 ∨ ordF (at_ l k) (at_ l (vict l k).toNat) < 0 then (k : Int) else vict l k from rfl)
      by_cases hb : vict l k < 0
      · rw [if_pos (Or.inl hb)] at HS
        clear hrg
        generalize vict l k = b at *
        go_wp2
        go_roundw
        case rel => exact ⟨k + 1, by first | rw [hwk] | go_num, by rw [HS.out], ⟨by omega⟩, HB⟩
        case measure =>
          try rw [hwk]
          simp [intOf]; omega
      · obtain ⟨m, hmv⟩ : ∃ m : Nat, vict l k = (m : Int) := ⟨(vict l k).toNat, by omega⟩
        rw [hmv] at HS hb hrg ⊢
        have hmk : m < l.length := by
          by_cases hz : k = 0
          · have := hrg.1 hz; omega
          · have := hrg.2 (by omega); omega
        rw [Int.toNat_natCast] at HS
        obtain ⟨ad', e, hc2⟩ := f_at HR.out m hmk
        cases e
        replace hc2 := pw_cell_below HB.out hc2
        rw [at_eq l m hmk] at hc2
        have hm0 : (0 : Int) ≤ (m : Int) := by omega
        have hm1 : (m : Int) < (l.length : Int) := by omega
        have HO := Aside0.mk (order_calls (at_ l k) (at_ l m) (at_lt l k) (at_lt l m))
        clear hrg hmv
        generalize at_ l k = x at *
        generalize at_ l m = y at *
        by_cases ho : ordF x y < 0
        · rw [if_pos (Or.inr ho)] at HS
          generalize ordF x y = o at *
          go_wp2_with (go_at_call 25; with_reducible refine (HO.out _).mono ?_; rintro e w1 ⟨rfl, hb1⟩; have n_ := Aside0.mk (Arr.below_trans HB.out hb1); clear HB; have HB := n_; clear n_ hb1)
          go_roundw
          case rel => exact ⟨k + 1, by first | rw [hwk] | go_num, by rw [HS.out], ⟨by omega⟩, HB⟩
          case measure =>
            try rw [hwk]
            simp [intOf]; omega
        · rw [if_neg (fun q => q.elim hb ho)] at HS
          generalize ordF x y = o at *
          go_wp2_with (go_at_call 25; with_reducible refine (HO.out _).mono ?_; rintro e w1 ⟨rfl, hb1⟩; have n_ := Aside0.mk (Arr.below_trans HB.out hb1); clear HB; have HB := n_; clear n_ hb1)
          go_roundw
          case rel => exact ⟨k + 1, by first | rw [hwk] | go_num, by rw [HS.out], ⟨by omega⟩, HB⟩
          case measure =>
            try rw [hwk]
            simp [intOf]; omega
    · obtain rfl : k = l.length := by have := K.out; omega
      clear hlt
      go_wp2
      go_ret
      exact ⟨rfl, HB.out⟩
theorem rvict_calls (A0 : Option Addr) (c0 : Nat) (l : List UInt64) (w : World) (hr : Kd.C kf w A0 l.length l) : Calls Try.prog 42 #[.slice A0 l.length c0] w (Gives (.int .i64 (vict l l.length)) w) := by
  have hm := Kd.C_max hr
  have HR := Aside0.mk hr; clear hr
  have HB := Aside0.mk (Below.refl w.heap.size w)
  go_enter Try.func42, Try.ntmps42
  go_upto_region 3 with (fail)
  go_loopw [3, 4] (fun v i wr => ∃ k : Nat, i = .int .i64 k ∧ v = .int .i64 (vict l k) ∧ Aside0 (k ≤ l.length) ∧ Aside0 (Below w.heap.size w wr)) (fun _ i _ => l.length - (intOf i).toNat)
  case atStart => exact ⟨0, rfl, rfl, ⟨by omega⟩, HB⟩
  case round =>
    clear HB
    obtain ⟨k, rfl, rfl, K, HB⟩ := hrel
    by_cases hlt : (k : Int) < (l.length : Int)
    · have hk : k < l.length := by omega
      have h0 : (0 : Int) ≤ (k : Int) := by omega
      obtain ⟨ad, rfl, hc⟩ := f_at HR.out k hk
      replace hc := pw_cell_below HB.out hc
      rw [at_eq l k hk] at hc
      have hwk : wrap64 ((k : Int) + 1) = ((k + 1 : Nat) : Int) := by unfold wrap64; omega
      have hrg := vict_range l k
      have HS := Aside0.mk (show vict l (k + 1) = if vict l k < 0 ∨ ordF (at_ l k) (at_ l (vict l k).toNat) < 0 then (k : Int) else vict l k from rfl)
      go_upto_region 5 with (fail)
      by_cases hb : vict l k < 0
      · rw [if_pos (Or.inl hb)] at HS
        clear hrg
        generalize vict l k = b at *
        have hd : decide (b < 0) = true := decide_eq_true hb
        have HB1 := Aside0.mk HB.out.drew
        clear HB
        go_region
        go_wp2
        go_roundw
        case rel => exact ⟨k + 1, by first | rw [hwk] | go_num, by rw [HS.out], ⟨by omega⟩, HB1⟩
        case measure =>
          try rw [hwk]
          simp [intOf]; omega
      · obtain ⟨m, hmv⟩ : ∃ m : Nat, vict l k = (m : Int) := ⟨(vict l k).toNat, by omega⟩
        rw [hmv] at HS hb hrg ⊢
        have hmk : m < l.length := by
          by_cases hz : k = 0
          · have := hrg.1 hz; omega
          · have := hrg.2 (by omega); omega
        rw [Int.toNat_natCast] at HS
        obtain ⟨ad', e, hc2⟩ := f_at HR.out m hmk
        cases e
        replace hc2 := pw_cell_below HB.out hc2
        rw [at_eq l m hmk] at hc2
        have hm0 : (0 : Int) ≤ (m : Int) := by omega
        have hm1 : (m : Int) < (l.length : Int) := by omega
        have hd : decide ((m : Int) < 0) = false := decide_eq_false hb
        have HO := Aside0.mk (rorder_calls (at_ l k) (at_ l m) (at_lt l k) (at_lt l m))
        clear hrg hmv
        generalize at_ l k = x at *
        generalize at_ l m = y at *
        have hc' : wr.drew.cell? (ad.add k) = some (.float .f64 x) := hc
        have hc2' : wr.drew.cell? (ad.add m) = some (.float .f64 y) := hc2
        have HBD := Aside0.mk HB.out.drew
        clear hc hc2 HB
        generalize ho : ordF x y = o at *
        refine start_ (n := 14) (S := fun w' => w'.cell? (ad.add k) = some (.float .f64 x) ∧ w'.cell? (ad.add m) = some (.float .f64 y)) (ds := []) #[false, false, false, false, false, false, false, false, false, false, false, false, false, false] (by kernel_rfl) rfl rfl ⟨hc', hc2'⟩ (fun hHeld => ?_)
        refine pure_ (i := 0) (N := some 11) (v := ?_) (a' := ?_) #[true, false, false, false, false, false, false, false, false, false, false, false, false, false] rfl rfl (by kernel_rfl) (fun _ _ _ h => h) (Or.inl ⟨by kernel_rfl, ?_⟩) ?_ ?_
        rotate_left
        · intro w'
          go_simp
          with_reducible rfl
        rotate_left
        · simp only [Act.put, List.setIfInBounds_toArray, List.set_cons_zero, List.set_cons_succ, i64_w, i32_w]
          rfl
        refine pure_ (i := 1) (N := some 12) (v := ?_) (a' := ?_) #[true, true, false, false, false, false, false, false, false, false, false, false, false, false] rfl rfl (by kernel_rfl) (fun _ _ _ h => h) (Or.inl ⟨by kernel_rfl, ?_⟩) ?_ ?_
        rotate_left
        · intro w'
          go_simp
          with_reducible rfl
        rotate_left
        · simp only [Act.put, List.setIfInBounds_toArray, List.set_cons_zero, List.set_cons_succ, i64_w, i32_w]
          rfl
        refine pure_ (i := 2) (N := some 13) (v := ?_) (a' := ?_) #[true, true, true, false, false, false, false, false, false, false, false, false, false, false] rfl rfl (by kernel_rfl) (fun _ _ _ h => h) (Or.inl ⟨by kernel_rfl, ?_⟩) ?_ ?_
        rotate_left
        · intro w'
          go_simp
          with_reducible rfl
        rotate_left
        · simp only [Act.put, List.setIfInBounds_toArray, List.set_cons_zero, List.set_cons_succ, i64_w, i32_w]
          rfl
        refine pure_ (i := 3) (N := some 14) (v := ?_) (a' := ?_) #[true, true, true, true, false, false, false, false, false, false, false, false, false, false] rfl rfl (by kernel_rfl) (fun _ _ _ h => h) (Or.inl ⟨by kernel_rfl, ?_⟩) ?_ ?_
        rotate_left
        · intro w'
          go_simp
          with_reducible rfl
        rotate_left
        · simp only [Act.put, List.setIfInBounds_toArray, List.set_cons_zero, List.set_cons_succ, i64_w, i32_w]
          rfl
        refine pure_ (i := 4) (N := some 15) (v := ?_) (a' := ?_) #[true, true, true, true, true, false, false, false, false, false, false, false, false, false] rfl rfl (by kernel_rfl) (fun _ _ _ h => h) (Or.inl ⟨by kernel_rfl, ?_⟩) ?_ ?_
        rotate_left
        · intro w'
          go_simp
          with_reducible rfl
        rotate_left
        · simp only [Act.put, List.setIfInBounds_toArray, List.set_cons_zero, List.set_cons_succ, i64_w, i32_w]
          rfl
        refine pure_ (i := 5) (N := some 16) (v := ?_) (a' := ?_) #[true, true, true, true, true, true, false, false, false, false, false, false, false, false] rfl rfl (by kernel_rfl) (fun _ _ _ h => h) (Or.inl ⟨by kernel_rfl, ?_⟩) ?_ ?_
        rotate_left
        · intro w'
          go_simp
          with_reducible rfl
        rotate_left
        · simp only [Act.put, List.setIfInBounds_toArray, List.set_cons_zero, List.set_cons_succ, i64_w, i32_w]
          rfl
        refine pure_ (i := 7) (N := some 18) (v := ?_) (a' := ?_) #[true, true, true, true, true, true, false, true, false, false, false, false, false, false] rfl rfl (by kernel_rfl) (fun _ _ _ h => h) (Or.inl ⟨by kernel_rfl, ?_⟩) ?_ ?_
        rotate_left
        · intro w'
          go_simp
          with_reducible rfl
        rotate_left
        · simp only [Act.put, List.setIfInBounds_toArray, List.set_cons_zero, List.set_cons_succ, i64_w, i32_w]
          rfl
        refine pure_ (i := 8) (N := some 19) (v := ?_) (a' := ?_) #[true, true, true, true, true, true, false, true, true, false, false, false, false, false] rfl rfl (by kernel_rfl) (fun _ _ _ h => h) (Or.inl ⟨by kernel_rfl, ?_⟩) ?_ ?_
        rotate_left
        · intro w'
          go_simp
          with_reducible rfl
        rotate_left
        · simp only [Act.put, List.setIfInBounds_toArray, List.set_cons_zero, List.set_cons_succ, i64_w, i32_w]
          rfl
        refine pure_ (i := 9) (N := some 20) (v := ?_) (a' := ?_) #[true, true, true, true, true, true, false, true, true, true, false, false, false, false] rfl rfl (by kernel_rfl) (fun _ _ _ h => h) (Or.inl ⟨by kernel_rfl, ?_⟩) ?_ ?_
        rotate_left
        · intro w'
          go_simp
          with_reducible rfl
        rotate_left
        · simp only [Act.put, List.setIfInBounds_toArray, List.set_cons_zero, List.set_cons_succ, i64_w, i32_w]
          rfl
        refine take_ (i := 6) (N := some 17) (v := ?_) (a' := ?_) #[true, true, true, true, true, true, true, true, true, true, false, false, false, false] rfl rfl (by kernel_rfl) (fun _ _ _ h => h) (Or.inl ⟨by kernel_rfl, ?_⟩) hHeld ?_ ?_
        rotate_left
        · rintro w' ⟨s0_, s1_⟩
          go_simp
          with_reducible rfl
        rotate_left
        · simp only [Act.put, List.setIfInBounds_toArray, List.set_cons_zero, List.set_cons_succ, i64_w, i32_w]
          rfl
        refine take_ (i := 10) (N := some 21) (v := ?_) (a' := ?_) #[true, true, true, true, true, true, true, true, true, true, true, false, false, false] rfl rfl (by kernel_rfl) (fun _ _ _ h => h) (Or.inl ⟨by kernel_rfl, ?_⟩) hHeld ?_ ?_
        rotate_left
        · rintro w' ⟨s0_, s1_⟩
          go_simp
          with_reducible rfl
        rotate_left
        · simp only [Act.put, List.setIfInBounds_toArray, List.set_cons_zero, List.set_cons_succ, i64_w, i32_w]
          rfl
        refine one_ (i := 11) (N := some 22) #[true, true, true, true, true, true, true, true, true, true, true, true, false, false] rfl rfl (by kernel_rfl) (by decide) (fun K hK => ?_)
        refine goes_ Try.func26 (by kernel_rfl) rfl #[.float .f64 x, .float .f64 y] (by rfl) rfl rfl (by (try simp only [List.map_toArray, List.map_cons, List.map_nil]); first | done | rfl) ?_
        refine (HO.out wr.drew).mono ?_
        rintro e w2 ⟨rfl, hb2⟩
        refine ⟨_, rfl, ?_⟩
        have HX2 := Aside0.mk (Arr.below_trans HBD.out hb2)
        refine hK _ _ ⟨pw_cell_below hb2 hc', pw_cell_below hb2 hc2'⟩ (fun _ => ?_)
        clear hK K hb2
        refine norm_ (a' := ?_) ?_ ?_
        rotate_left
        · show Act.put _ (some 22) _ = _
          simp only [Act.put, List.setIfInBounds_toArray, List.set_cons_zero, List.set_cons_succ, i64_w, i32_w]
          rfl
        refine pure_ (i := 12) (N := some 23) (v := ?_) (a' := ?_) #[true, true, true, true, true, true, true, true, true, true, true, true, true, false] rfl rfl (by kernel_rfl) (fun _ _ _ h => h) (Or.inl ⟨by kernel_rfl, ?_⟩) ?_ ?_
        rotate_left
        · intro w'
          go_simp
          with_reducible rfl
        rotate_left
        · simp only [Act.put, List.setIfInBounds_toArray, List.set_cons_zero, List.set_cons_succ, i64_w, i32_w]
          rfl
        refine pure_ (i := 13) (N := some 24) (v := ?_) (a' := ?_) #[true, true, true, true, true, true, true, true, true, true, true, true, true, true] rfl rfl (by kernel_rfl) (fun _ _ _ h => h) (Or.inl ⟨by kernel_rfl, ?_⟩) ?_ ?_
        rotate_left
        · intro w'
          go_simp
          with_reducible rfl
        rotate_left
        · simp only [Act.put, List.setIfInBounds_toArray, List.set_cons_zero, List.set_cons_succ, i64_w, i32_w]
          rfl
        refine done_ (by kernel_rfl) ?_
        clear hHeld hc' hc2' HBD
        by_cases ho2 : o < 0
        · rw [if_pos (Or.inr ho2)] at HS
          have hdo : decide (o < 0) = true := decide_eq_true ho2
          go_wp2
          go_roundw
          case rel => exact ⟨k + 1, by first | rw [hwk] | go_num, by rw [HS.out], ⟨by omega⟩, HX2⟩
          case measure =>
            try rw [hwk]
            simp [intOf]; omega
        · rw [if_neg (fun q => q.elim hb ho2)] at HS
          have hdo : decide (o < 0) = false := decide_eq_false ho2
          go_wp2
          go_roundw
          case rel => exact ⟨k + 1, by first | rw [hwk] | go_num, by rw [HS.out], ⟨by omega⟩, HX2⟩
          case measure =>
            try rw [hwk]
            simp [intOf]; omega
    · obtain rfl : k = l.length := by have := K.out; omega
      clear hlt
      go_wp2
      go_ret
      exact ⟨rfl, HB.out⟩
end Go.Proofs.Ytnhlfafdldpdgaa.Pol
