import Derived.Test.YtcfknakmamcinaaQEZ0
import Derived.Test.YtcfknakmamcinaaQEZ1
import Derived.Test.YtcfknakmamcinaaQEZ2
namespace Go.Proofs.Ytcfknakmamcinaa.Wr
open Go.Proofs.Ytcfknakmamcinaa.Rp Go.Proofs.Ytcfknakmamcinaa.X4
open Go Go.RowKit Go.ChangeMaps Go.Proofs.Ytcfknakmamcinaa.Arr Go.Proofs.Ytcfknakmamcinaa.Ow Go.Proofs.YtcfknakmamcinaaW.PrintWords Go.Proofs.YtcfknakmamcinaaW.PrintLast Go.Proofs.YtcfknakmamcinaaW.PrintMore
set_option linter.unusedVariables false
set_option linter.unusedSimpArgs false
set_option maxHeartbeats 1000000 in
theorem small_yes (g : Nat) (l : List UInt8) (n m : Int) (S : Nat → Prop) (w : World) (hS : Top S w) (h : WK w S g l) (hl : l.length ≤ 1000000) (h1 : 0 ≤ n) (h2 : n ≤ m) : Calls Try.prog 37 #[.pointer (some ⟨g, 0, none⟩), .int .i64 n, .int .i64 m] w fun x w' => x = .returned (.tuple #[]) ∧ WK w' S g (l ++ [b8 n]) ∧ FS S w w' := by
  have HS := Aside0.mk hS; have HW := Aside0.mk h; have HL := Aside0.mk hl; clear hS h hl
  have t1 : decide (0 ≤ n) = true := decide_eq_true h1
  have t2 : decide (n ≤ m) = true := decide_eq_true h2
  have HE := Aside0.mk (b8_nat n)
  clear h1 h2
  go_enter Try.func37, Try.ntmps37
  go_upto_region 1 with (go_at_call 24; (with_reducible refine (must_yes _ _).mono ?_); rintro e w1 ⟨rfl, rfl⟩)
  go_wp2_with (go_at_call 48; rw [← HE.out]; (with_reducible refine (writeByte_calls g l (b8 n) S _ HS.out HW.out HL.out).mono ?_); rintro e w1 ⟨rfl, hk, hf⟩; have HK := Aside0.mk hk; have F := Aside0.mk hf; clear hk hf)
  go_end0
  exact ⟨rfl, HK.out, F.out⟩
theorem small_no (g : Nat) (n m : Int) (w : World) (h : ¬ (0 ≤ n ∧ n ≤ m)) : Calls Try.prog 37 #[.pointer (some ⟨g, 0, none⟩), .int .i64 n, .int .i64 m] w fun x w' => x = gaveUp 1 ∧ w' = w := by
  by_cases h1 : 0 ≤ n
  · have t1 : decide (0 ≤ n) = true := decide_eq_true h1
    have t2 : decide (n ≤ m) = false := decide_eq_false (fun e => h ⟨h1, e⟩)
    clear h1 h
    go_enter Try.func37, Try.ntmps37
    go_wp2_with (go_at_call 24; (with_reducible refine (must_no _ _).mono ?_); rintro e w1 ⟨rfl, rfl⟩)
    exact ⟨rfl, rfl, rfl⟩
  · have t1 : decide (0 ≤ n) = false := decide_eq_false h1
    clear h1 h
    go_enter Try.func37, Try.ntmps37
    go_wp2_with (go_at_call 24; (with_reducible refine (must_no _ _).mono ?_); rintro e w1 ⟨rfl, rfl⟩)
    exact ⟨rfl, rfl, rfl⟩
theorem flat_len {xs : List Int} {k : Nat} (h : k ≤ xs.length) : ((xs.take k).flatMap four).length = 4 * k := by
  induction k with
  | zero => rfl
  | succ k ih =>
    rw [List.take_succ_eq_append_getElem (by omega), List.flatMap_append, List.length_append, ih (by omega)]
    simp [four]
    omega
theorem num_succ {xs : List Int} {k : Nat} {n : Int} (h : xs[k]? = some n) : (xs.take (k + 1)).flatMap four = (xs.take k).flatMap four ++ four n := by
  rw [List.take_add_one, h, List.flatMap_append]
  simp
theorem num_all {xs : List Int} {k : Nat} {n : Int} (ha : ∀ x ∈ xs.take k, isNum x = true) (h : xs[k]? = some n) (hn : isNum n = true) : ∀ x ∈ xs.take (k + 1), isNum x = true := by
  rw [List.take_add_one, h]
  intro x hx
  rcases List.mem_append.1 hx with hx | hx
  · exact ha x hx
  · simp at hx; rw [hx]; exact hn
theorem num_none {xs : List Int} {k : Nat} {n : Int} (h : xs[k]? = some n) (hn : ¬ isNum n = true) : numP xs = none := by
  unfold numP
  rw [if_neg]
  intro ha
  exact hn (List.all_eq_true.1 ha n (List.mem_of_getElem? h))
theorem num_some {xs : List Int} (h : ∀ x ∈ xs, isNum x = true) : numP xs = some (xs.flatMap four) := by
  unfold numP
  rw [if_pos (List.all_eq_true.2 h)]
/-- What a writer's function does: its bytes are behind the others, or it gives up. -/
def After (S : Nat → Prop) (g : Nat) (w : World) (l : List UInt8) (o : Option (List UInt8)) (x : Ending) (w' : World) : Prop :=
  match o with
  | some bs => x = .returned (.tuple #[]) ∧ WK w' S g (l ++ bs) ∧ FS S w w'
  | none => x = gaveUp 1 ∧ FS S w w'
theorem small_calls (g : Nat) (l : List UInt8) (n m : Int) (S : Nat → Prop) (w : World) (hS : Top S w) (h : WK w S g l) (hl : l.length ≤ 1000000) : Calls Try.prog 37 #[.pointer (some ⟨g, 0, none⟩), .int .i64 n, .int .i64 m] w fun x w' => After S g w l (smallP n m) x w' := by
  unfold smallP
  by_cases h1 : 0 ≤ n ∧ n ≤ m
  · rw [if_pos h1]
    exact small_yes g l n m S w hS h hl h1.1 h1.2
  · rw [if_neg h1]
    exact (small_no g n m w h1).mono fun x w' hx => ⟨hx.1, by rw [hx.2]; exact FS.refl _ _⟩
abbrev TI : TypeId := 3
set_option maxHeartbeats 4000000 in
theorem num_calls (g : Nat) (l : List UInt8) (xs : List Int) (b c : Nat) (S : Nat → Prop) (w : World) (hS : Top S w) (h : WK w S g l) (hb : w.heap[b]? = some (.cells (xs.map (Value.int .i64)).toArray TI (0, 0))) (hSb : ¬ S b) (hl : l.length + 4 * xs.length ≤ 1000000) : Calls Try.prog 39 #[.pointer (some ⟨g, 0, none⟩), .slice (some ⟨b, 0, none⟩) xs.length c] w fun x w' => After S g w l (numP xs) x w' := by
  have HS := Aside0.mk hS; have HL := Aside0.mk hl; have HB := Aside0.mk hb; have HSB := Aside0.mk hSb
  have HW := Aside0.mk h
  clear hS hl hb hSb h
  go_enter Try.func39, Try.ntmps39
  go_upto_region 1 with (fail)
  go_loopw [9] (fun v wr => ∃ k : Nat, v = .int .i64 k ∧ Aside0 (k ≤ xs.length) ∧ Aside0 (∀ x ∈ xs.take k, isNum x = true) ∧ Aside0 (WK wr S g (l ++ (xs.take k).flatMap four)) ∧ Aside0 (FS S w wr)) (fun v _ => xs.length - (intOf v).toNat)
  case atStart => exact ⟨0, rfl, ⟨Nat.zero_le _⟩, ⟨fun x hx => by simp at hx⟩, ⟨by simpa using HW.out⟩, ⟨FS.refl _ _⟩⟩
  case round =>
    clear HW
    obtain ⟨k, rfl, K, HA, HW, F⟩ := hrel
    by_cases hlt : k < xs.length
    · have h1 : (k : Int) < (xs.length : Int) := by omega
      have hwk : wrap64 ((k : Int) + 1) = ((k + 1 : Nat) : Int) := by have := HL.out; unfold wrap64; omega
      obtain ⟨n, hn⟩ : ∃ n, xs[k]? = some n := ⟨_, List.getElem?_eq_getElem hlt⟩
      have HN := Aside0.mk hn; have HLT := Aside0.mk hlt
      have q0 : wr.cell? ⟨b, k, none⟩ = some (.int .i64 n) := (blk_cell (F.out.old HB.out HSB.out) k).trans (by simp [hn])
      clear hn hlt
      by_cases hnum : isNum n = true
      · have hnn := (isNum_iff n).1 hnum
        have t1 : decide (0 ≤ n) = true := decide_eq_true hnn.1
        have t2 : decide (n ≤ 2147483647) = true := decide_eq_true hnn.2
        have HNN := Aside0.mk hnn; have HNU := Aside0.mk hnum
        clear hnn hnum
        go_upto_region 4 with (go_at_call 24; (with_reducible refine (must_yes _ _).mono ?_); rintro e w1 ⟨rfl, rfl⟩)
        go_upto_region 5 with (fail)
        go_loopw [6] (fun v wr2 => ∃ (j : Nat) (s : Int), v = .int .i64 s ∧ Aside0 (s = 24 - 8 * (j : Int)) ∧ Aside0 (j ≤ 4) ∧ Aside0 (WK wr2 S g (l ++ (xs.take k).flatMap four ++ (four n).take j)) ∧ Aside0 (FS S w wr2)) (fun v _ => (intOf v + 8).toNat)
        case atStart => exact ⟨0, 24, rfl, ⟨rfl⟩, ⟨by omega⟩, ⟨by simpa using HW.out⟩, F⟩
        case round =>
          clear HW F
          obtain ⟨j, s, rfl, E, J, HW2, F2⟩ := hrel
          have HKL := Aside0.mk (show ((xs.take k).flatMap four).length = 4 * k from flat_len (by have := HLT.out; omega))
          rcases (show j = 0 ∨ j = 1 ∨ j = 2 ∨ j = 3 ∨ j = 4 by have := J.out; omega) with rfl | rfl | rfl | rfl | rfl
          · obtain rfl : s = 24 := by have := E.out; omega
            go_upto_region 7 with (fail)
            have HW0 := Aside0.mk HW2.out.drew; have F0 := Aside0.mk F2.out.drew
            refine start_ (n := 8) (S := fun w' => True) (ds := [7]) #[false, false, false, false, false, false, false, false] (by kernel_rfl) rfl rfl trivial (fun hHeld => ?_)
            refine pure_ (i := 0) (N := some 24) (v := ?_) (a' := ?_) #[true, false, false, false, false, false, false, false] rfl rfl (by kernel_rfl) (fun _ _ _ h => h) (Or.inl ⟨by kernel_rfl, ?_⟩) ?_ ?_
            rotate_left
            · intro w'
              go_simp
              with_reducible rfl
            rotate_left
            · simp only [Act.put, List.setIfInBounds_toArray, List.set_cons_zero, List.set_cons_succ, i64_w, i32_w]
              rfl
            refine pure_ (i := 1) (N := some 25) (v := ?_) (a' := ?_) #[true, true, false, false, false, false, false, false] rfl rfl (by kernel_rfl) (fun _ _ _ h => h) (Or.inl ⟨by kernel_rfl, ?_⟩) ?_ ?_
            rotate_left
            · intro w'
              go_simp
              with_reducible rfl
            rotate_left
            · simp only [Act.put, List.setIfInBounds_toArray, List.set_cons_zero, List.set_cons_succ, i64_w, i32_w]
              rfl
            refine pure_ (i := 2) (N := some 26) (v := ?_) (a' := ?_) #[true, true, true, false, false, false, false, false] rfl rfl (by kernel_rfl) (fun _ _ _ h => h) (Or.inl ⟨by kernel_rfl, ?_⟩) ?_ ?_
            rotate_left
            · intro w'
              go_simp
              with_reducible rfl
            rotate_left
            · simp only [Act.put, List.setIfInBounds_toArray, List.set_cons_zero, List.set_cons_succ, i64_w, i32_w]
              rfl
            refine pure_ (i := 3) (N := some 27) (v := ?_) (a' := ?_) #[true, true, true, true, false, false, false, false] rfl rfl (by kernel_rfl) (fun _ _ _ h => h) (Or.inl ⟨by kernel_rfl, ?_⟩) ?_ ?_
            rotate_left
            · intro w'
              go_simp
              with_reducible rfl
            rotate_left
            · simp only [Act.put, List.setIfInBounds_toArray, List.set_cons_zero, List.set_cons_succ, i64_w, i32_w]
              rfl
            refine pure_ (i := 4) (N := some 28) (v := ?_) (a' := ?_) #[true, true, true, true, true, false, false, false] rfl rfl (by kernel_rfl) (fun _ _ _ h => h) (Or.inl ⟨by kernel_rfl, ?_⟩) ?_ ?_
            rotate_left
            · intro w'
              go_simp
              with_reducible rfl
            rotate_left
            · simp only [Act.put, List.setIfInBounds_toArray, List.set_cons_zero, List.set_cons_succ, i64_w, i32_w]
              rfl
            refine pure_ (i := 5) (N := some 29) (v := ?_) (a' := ?_) #[true, true, true, true, true, true, false, false] rfl rfl (by kernel_rfl) (fun _ _ _ h => h) (Or.inl ⟨by kernel_rfl, ?_⟩) ?_ ?_
            rotate_left
            · intro w'
              go_simp
              with_reducible rfl
            rotate_left
            · simp only [Act.put, List.setIfInBounds_toArray, List.set_cons_zero, List.set_cons_succ, i64_w, i32_w]
              rfl
            refine pure_ (i := 6) (N := some 30) (v := ?_) (a' := ?_) #[true, true, true, true, true, true, true, false] rfl rfl (by kernel_rfl) (fun _ _ _ h => h) (Or.inl ⟨by kernel_rfl, ?_⟩) ?_ ?_
            rotate_left
            · intro w'
              go_simp
              with_reducible rfl
            rotate_left
            · simp only [Act.put, List.setIfInBounds_toArray, List.set_cons_zero, List.set_cons_succ, i64_w, i32_w]
              rfl
            refine last_ (i := 7) (N := some 31) #[true, true, true, true, true, true, true, true] rfl rfl (by kernel_rfl) (by decide) (fun K hK => ?_)
            refine goes_ Try.func48 (by kernel_rfl) rfl #[.pointer (some ⟨g, 0, none⟩), .int .u8 ((n / 16777216) % 256)] (by rfl) rfl rfl (by (try simp only [List.map_toArray, List.map_cons, List.map_nil]); first | done | rfl) ?_
            rw [← b8_nat]
            refine (writeByte_calls g _ _ S _ (HS.out.next F0.out.size) HW0.out (by simp only [List.length_append, HKL.out, four, List.length_take, List.length_cons, List.length_nil]; have := HL.out; have := HLT.out; omega)).mono ?_
            rintro e v1_ ⟨rfl, hk, hf⟩
            refine ⟨_, rfl, ?_⟩
            have HW3 := Aside0.mk hk; have F3 := Aside0.mk (F0.out.trans hf)
            refine hK _ _ ?_
            clear hK K hk hf
            refine norm_ (a' := ?_) ?_ ?_
            rotate_left
            · show Act.put _ (some 31) _ = _
              simp only [Act.put, List.setIfInBounds_toArray, List.set_cons_zero, List.set_cons_succ, i64_w, i32_w]
              rfl
            refine done_ (by kernel_rfl) ?_
            simp only [Exit.inBlock, Exit.then]
            go_wp2
            go_roundw
            case rel => exact ⟨1, 16, rfl, ⟨by omega⟩, ⟨by omega⟩, ⟨by rw [List.append_assoc] at HW3; exact HW3.out⟩, F3⟩
            case measure => simp only [intOf]; omega
          · obtain rfl : s = 16 := by have := E.out; omega
            go_upto_region 7 with (fail)
            have HW0 := Aside0.mk HW2.out.drew; have F0 := Aside0.mk F2.out.drew
            refine start_ (n := 8) (S := fun w' => True) (ds := [7]) #[false, false, false, false, false, false, false, false] (by kernel_rfl) rfl rfl trivial (fun hHeld => ?_)
            refine pure_ (i := 0) (N := some 24) (v := ?_) (a' := ?_) #[true, false, false, false, false, false, false, false] rfl rfl (by kernel_rfl) (fun _ _ _ h => h) (Or.inl ⟨by kernel_rfl, ?_⟩) ?_ ?_
            rotate_left
            · intro w'
              go_simp
              with_reducible rfl
            rotate_left
            · simp only [Act.put, List.setIfInBounds_toArray, List.set_cons_zero, List.set_cons_succ, i64_w, i32_w]
              rfl
            refine pure_ (i := 1) (N := some 25) (v := ?_) (a' := ?_) #[true, true, false, false, false, false, false, false] rfl rfl (by kernel_rfl) (fun _ _ _ h => h) (Or.inl ⟨by kernel_rfl, ?_⟩) ?_ ?_
            rotate_left
            · intro w'
              go_simp
              with_reducible rfl
            rotate_left
            · simp only [Act.put, List.setIfInBounds_toArray, List.set_cons_zero, List.set_cons_succ, i64_w, i32_w]
              rfl
            refine pure_ (i := 2) (N := some 26) (v := ?_) (a' := ?_) #[true, true, true, false, false, false, false, false] rfl rfl (by kernel_rfl) (fun _ _ _ h => h) (Or.inl ⟨by kernel_rfl, ?_⟩) ?_ ?_
            rotate_left
            · intro w'
              go_simp
              with_reducible rfl
            rotate_left
            · simp only [Act.put, List.setIfInBounds_toArray, List.set_cons_zero, List.set_cons_succ, i64_w, i32_w]
              rfl
            refine pure_ (i := 3) (N := some 27) (v := ?_) (a' := ?_) #[true, true, true, true, false, false, false, false] rfl rfl (by kernel_rfl) (fun _ _ _ h => h) (Or.inl ⟨by kernel_rfl, ?_⟩) ?_ ?_
            rotate_left
            · intro w'
              go_simp
              with_reducible rfl
            rotate_left
            · simp only [Act.put, List.setIfInBounds_toArray, List.set_cons_zero, List.set_cons_succ, i64_w, i32_w]
              rfl
            refine pure_ (i := 4) (N := some 28) (v := ?_) (a' := ?_) #[true, true, true, true, true, false, false, false] rfl rfl (by kernel_rfl) (fun _ _ _ h => h) (Or.inl ⟨by kernel_rfl, ?_⟩) ?_ ?_
            rotate_left
            · intro w'
              go_simp
              with_reducible rfl
            rotate_left
            · simp only [Act.put, List.setIfInBounds_toArray, List.set_cons_zero, List.set_cons_succ, i64_w, i32_w]
              rfl
            refine pure_ (i := 5) (N := some 29) (v := ?_) (a' := ?_) #[true, true, true, true, true, true, false, false] rfl rfl (by kernel_rfl) (fun _ _ _ h => h) (Or.inl ⟨by kernel_rfl, ?_⟩) ?_ ?_
            rotate_left
            · intro w'
              go_simp
              with_reducible rfl
            rotate_left
            · simp only [Act.put, List.setIfInBounds_toArray, List.set_cons_zero, List.set_cons_succ, i64_w, i32_w]
              rfl
            refine pure_ (i := 6) (N := some 30) (v := ?_) (a' := ?_) #[true, true, true, true, true, true, true, false] rfl rfl (by kernel_rfl) (fun _ _ _ h => h) (Or.inl ⟨by kernel_rfl, ?_⟩) ?_ ?_
            rotate_left
            · intro w'
              go_simp
              with_reducible rfl
            rotate_left
            · simp only [Act.put, List.setIfInBounds_toArray, List.set_cons_zero, List.set_cons_succ, i64_w, i32_w]
              rfl
            refine last_ (i := 7) (N := some 31) #[true, true, true, true, true, true, true, true] rfl rfl (by kernel_rfl) (by decide) (fun K hK => ?_)
            refine goes_ Try.func48 (by kernel_rfl) rfl #[.pointer (some ⟨g, 0, none⟩), .int .u8 ((n / 65536) % 256)] (by rfl) rfl rfl (by (try simp only [List.map_toArray, List.map_cons, List.map_nil]); first | done | rfl) ?_
            rw [← b8_nat]
            refine (writeByte_calls g _ _ S _ (HS.out.next F0.out.size) HW0.out (by simp only [List.length_append, HKL.out, four, List.length_take, List.length_cons, List.length_nil]; have := HL.out; have := HLT.out; omega)).mono ?_
            rintro e v1_ ⟨rfl, hk, hf⟩
            refine ⟨_, rfl, ?_⟩
            have HW3 := Aside0.mk hk; have F3 := Aside0.mk (F0.out.trans hf)
            refine hK _ _ ?_
            clear hK K hk hf
            refine norm_ (a' := ?_) ?_ ?_
            rotate_left
            · show Act.put _ (some 31) _ = _
              simp only [Act.put, List.setIfInBounds_toArray, List.set_cons_zero, List.set_cons_succ, i64_w, i32_w]
              rfl
            refine done_ (by kernel_rfl) ?_
            simp only [Exit.inBlock, Exit.then]
            go_wp2
            go_roundw
            case rel => exact ⟨2, 8, rfl, ⟨by omega⟩, ⟨by omega⟩, ⟨by rw [List.append_assoc] at HW3; exact HW3.out⟩, F3⟩
            case measure => simp only [intOf]; omega
          · obtain rfl : s = 8 := by have := E.out; omega
            go_upto_region 7 with (fail)
            have HW0 := Aside0.mk HW2.out.drew; have F0 := Aside0.mk F2.out.drew
            refine start_ (n := 8) (S := fun w' => True) (ds := [7]) #[false, false, false, false, false, false, false, false] (by kernel_rfl) rfl rfl trivial (fun hHeld => ?_)
            refine pure_ (i := 0) (N := some 24) (v := ?_) (a' := ?_) #[true, false, false, false, false, false, false, false] rfl rfl (by kernel_rfl) (fun _ _ _ h => h) (Or.inl ⟨by kernel_rfl, ?_⟩) ?_ ?_
            rotate_left
            · intro w'
              go_simp
              with_reducible rfl
            rotate_left
            · simp only [Act.put, List.setIfInBounds_toArray, List.set_cons_zero, List.set_cons_succ, i64_w, i32_w]
              rfl
            refine pure_ (i := 1) (N := some 25) (v := ?_) (a' := ?_) #[true, true, false, false, false, false, false, false] rfl rfl (by kernel_rfl) (fun _ _ _ h => h) (Or.inl ⟨by kernel_rfl, ?_⟩) ?_ ?_
            rotate_left
            · intro w'
              go_simp
              with_reducible rfl
            rotate_left
            · simp only [Act.put, List.setIfInBounds_toArray, List.set_cons_zero, List.set_cons_succ, i64_w, i32_w]
              rfl
            refine pure_ (i := 2) (N := some 26) (v := ?_) (a' := ?_) #[true, true, true, false, false, false, false, false] rfl rfl (by kernel_rfl) (fun _ _ _ h => h) (Or.inl ⟨by kernel_rfl, ?_⟩) ?_ ?_
            rotate_left
            · intro w'
              go_simp
              with_reducible rfl
            rotate_left
            · simp only [Act.put, List.setIfInBounds_toArray, List.set_cons_zero, List.set_cons_succ, i64_w, i32_w]
              rfl
            refine pure_ (i := 3) (N := some 27) (v := ?_) (a' := ?_) #[true, true, true, true, false, false, false, false] rfl rfl (by kernel_rfl) (fun _ _ _ h => h) (Or.inl ⟨by kernel_rfl, ?_⟩) ?_ ?_
            rotate_left
            · intro w'
              go_simp
              with_reducible rfl
            rotate_left
            · simp only [Act.put, List.setIfInBounds_toArray, List.set_cons_zero, List.set_cons_succ, i64_w, i32_w]
              rfl
            refine pure_ (i := 4) (N := some 28) (v := ?_) (a' := ?_) #[true, true, true, true, true, false, false, false] rfl rfl (by kernel_rfl) (fun _ _ _ h => h) (Or.inl ⟨by kernel_rfl, ?_⟩) ?_ ?_
            rotate_left
            · intro w'
              go_simp
              with_reducible rfl
            rotate_left
            · simp only [Act.put, List.setIfInBounds_toArray, List.set_cons_zero, List.set_cons_succ, i64_w, i32_w]
              rfl
            refine pure_ (i := 5) (N := some 29) (v := ?_) (a' := ?_) #[true, true, true, true, true, true, false, false] rfl rfl (by kernel_rfl) (fun _ _ _ h => h) (Or.inl ⟨by kernel_rfl, ?_⟩) ?_ ?_
            rotate_left
            · intro w'
              go_simp
              with_reducible rfl
            rotate_left
            · simp only [Act.put, List.setIfInBounds_toArray, List.set_cons_zero, List.set_cons_succ, i64_w, i32_w]
              rfl
            refine pure_ (i := 6) (N := some 30) (v := ?_) (a' := ?_) #[true, true, true, true, true, true, true, false] rfl rfl (by kernel_rfl) (fun _ _ _ h => h) (Or.inl ⟨by kernel_rfl, ?_⟩) ?_ ?_
            rotate_left
            · intro w'
              go_simp
              with_reducible rfl
            rotate_left
            · simp only [Act.put, List.setIfInBounds_toArray, List.set_cons_zero, List.set_cons_succ, i64_w, i32_w]
              rfl
            refine last_ (i := 7) (N := some 31) #[true, true, true, true, true, true, true, true] rfl rfl (by kernel_rfl) (by decide) (fun K hK => ?_)
            refine goes_ Try.func48 (by kernel_rfl) rfl #[.pointer (some ⟨g, 0, none⟩), .int .u8 ((n / 256) % 256)] (by rfl) rfl rfl (by (try simp only [List.map_toArray, List.map_cons, List.map_nil]); first | done | rfl) ?_
            rw [← b8_nat]
            refine (writeByte_calls g _ _ S _ (HS.out.next F0.out.size) HW0.out (by simp only [List.length_append, HKL.out, four, List.length_take, List.length_cons, List.length_nil]; have := HL.out; have := HLT.out; omega)).mono ?_
            rintro e v1_ ⟨rfl, hk, hf⟩
            refine ⟨_, rfl, ?_⟩
            have HW3 := Aside0.mk hk; have F3 := Aside0.mk (F0.out.trans hf)
            refine hK _ _ ?_
            clear hK K hk hf
            refine norm_ (a' := ?_) ?_ ?_
            rotate_left
            · show Act.put _ (some 31) _ = _
              simp only [Act.put, List.setIfInBounds_toArray, List.set_cons_zero, List.set_cons_succ, i64_w, i32_w]
              rfl
            refine done_ (by kernel_rfl) ?_
            simp only [Exit.inBlock, Exit.then]
            go_wp2
            go_roundw
            case rel => exact ⟨3, 0, rfl, ⟨by omega⟩, ⟨by omega⟩, ⟨by rw [List.append_assoc] at HW3; exact HW3.out⟩, F3⟩
            case measure => simp only [intOf]; omega
          · obtain rfl : s = 0 := by have := E.out; omega
            go_upto_region 7 with (fail)
            have HW0 := Aside0.mk HW2.out.drew; have F0 := Aside0.mk F2.out.drew
            refine start_ (n := 8) (S := fun w' => True) (ds := [7]) #[false, false, false, false, false, false, false, false] (by kernel_rfl) rfl rfl trivial (fun hHeld => ?_)
            refine pure_ (i := 0) (N := some 24) (v := ?_) (a' := ?_) #[true, false, false, false, false, false, false, false] rfl rfl (by kernel_rfl) (fun _ _ _ h => h) (Or.inl ⟨by kernel_rfl, ?_⟩) ?_ ?_
            rotate_left
            · intro w'
              go_simp
              with_reducible rfl
            rotate_left
            · simp only [Act.put, List.setIfInBounds_toArray, List.set_cons_zero, List.set_cons_succ, i64_w, i32_w]
              rfl
            refine pure_ (i := 1) (N := some 25) (v := ?_) (a' := ?_) #[true, true, false, false, false, false, false, false] rfl rfl (by kernel_rfl) (fun _ _ _ h => h) (Or.inl ⟨by kernel_rfl, ?_⟩) ?_ ?_
            rotate_left
            · intro w'
              go_simp
              with_reducible rfl
            rotate_left
            · simp only [Act.put, List.setIfInBounds_toArray, List.set_cons_zero, List.set_cons_succ, i64_w, i32_w]
              rfl
            refine pure_ (i := 2) (N := some 26) (v := ?_) (a' := ?_) #[true, true, true, false, false, false, false, false] rfl rfl (by kernel_rfl) (fun _ _ _ h => h) (Or.inl ⟨by kernel_rfl, ?_⟩) ?_ ?_
            rotate_left
            · intro w'
              go_simp
              with_reducible rfl
            rotate_left
            · simp only [Act.put, List.setIfInBounds_toArray, List.set_cons_zero, List.set_cons_succ, i64_w, i32_w]
              rfl
            refine pure_ (i := 3) (N := some 27) (v := ?_) (a' := ?_) #[true, true, true, true, false, false, false, false] rfl rfl (by kernel_rfl) (fun _ _ _ h => h) (Or.inl ⟨by kernel_rfl, ?_⟩) ?_ ?_
            rotate_left
            · intro w'
              go_simp
              with_reducible rfl
            rotate_left
            · simp only [Act.put, List.setIfInBounds_toArray, List.set_cons_zero, List.set_cons_succ, i64_w, i32_w]
              rfl
            refine pure_ (i := 4) (N := some 28) (v := ?_) (a' := ?_) #[true, true, true, true, true, false, false, false] rfl rfl (by kernel_rfl) (fun _ _ _ h => h) (Or.inl ⟨by kernel_rfl, ?_⟩) ?_ ?_
            rotate_left
            · intro w'
              go_simp
              with_reducible rfl
            rotate_left
            · simp only [Act.put, List.setIfInBounds_toArray, List.set_cons_zero, List.set_cons_succ, i64_w, i32_w]
              rfl
            refine pure_ (i := 5) (N := some 29) (v := ?_) (a' := ?_) #[true, true, true, true, true, true, false, false] rfl rfl (by kernel_rfl) (fun _ _ _ h => h) (Or.inl ⟨by kernel_rfl, ?_⟩) ?_ ?_
            rotate_left
            · intro w'
              go_simp
              with_reducible rfl
            rotate_left
            · simp only [Act.put, List.setIfInBounds_toArray, List.set_cons_zero, List.set_cons_succ, i64_w, i32_w]
              rfl
            refine pure_ (i := 6) (N := some 30) (v := ?_) (a' := ?_) #[true, true, true, true, true, true, true, false] rfl rfl (by kernel_rfl) (fun _ _ _ h => h) (Or.inl ⟨by kernel_rfl, ?_⟩) ?_ ?_
            rotate_left
            · intro w'
              go_simp
              with_reducible rfl
            rotate_left
            · simp only [Act.put, List.setIfInBounds_toArray, List.set_cons_zero, List.set_cons_succ, i64_w, i32_w]
              rfl
            refine last_ (i := 7) (N := some 31) #[true, true, true, true, true, true, true, true] rfl rfl (by kernel_rfl) (by decide) (fun K hK => ?_)
            refine goes_ Try.func48 (by kernel_rfl) rfl #[.pointer (some ⟨g, 0, none⟩), .int .u8 (n % 256)] (by rfl) rfl rfl (by (try simp only [List.map_toArray, List.map_cons, List.map_nil]); first | done | rfl) ?_
            rw [← b8_nat]
            refine (writeByte_calls g _ _ S _ (HS.out.next F0.out.size) HW0.out (by simp only [List.length_append, HKL.out, four, List.length_take, List.length_cons, List.length_nil]; have := HL.out; have := HLT.out; omega)).mono ?_
            rintro e v1_ ⟨rfl, hk, hf⟩
            refine ⟨_, rfl, ?_⟩
            have HW3 := Aside0.mk hk; have F3 := Aside0.mk (F0.out.trans hf)
            refine hK _ _ ?_
            clear hK K hk hf
            refine norm_ (a' := ?_) ?_ ?_
            rotate_left
            · show Act.put _ (some 31) _ = _
              simp only [Act.put, List.setIfInBounds_toArray, List.set_cons_zero, List.set_cons_succ, i64_w, i32_w]
              rfl
            refine done_ (by kernel_rfl) ?_
            simp only [Exit.inBlock, Exit.then]
            go_wp2
            go_roundw
            case rel => exact ⟨4, -8, rfl, ⟨by omega⟩, ⟨by omega⟩, ⟨by rw [List.append_assoc] at HW3; exact HW3.out⟩, F3⟩
            case measure => simp only [intOf]; omega
          · obtain rfl : s = -8 := by have := E.out; omega
            go_wp2
            (try simp only [hwk])
            refine ⟨⟨k + 1, rfl, ⟨HLT.out⟩, ⟨num_all HA.out HN.out HNU.out⟩, ⟨?_⟩, F2⟩, ?_⟩
            · rw [num_succ HN.out, ← List.append_assoc]
              have h4 := HW2.out
              rwa [show (four n).take 4 = four n from rfl] at h4
            · have := HLT.out
              show xs.length - (intOf (.int .i64 ((k + 1 : Nat) : Int))).toNat < xs.length - (intOf (.int .i64 (k : Int))).toNat
              simp only [intOf]; omega
      · have hnone : numP xs = none := num_none HN.out hnum
        have HNO := Aside0.mk hnone
        have hcase : ¬ 0 ≤ n ∨ (0 ≤ n ∧ ¬ n ≤ 2147483647) := by
          by_cases h0 : 0 ≤ n
          · right; exact ⟨h0, fun h2 => hnum ((isNum_iff n).2 ⟨h0, h2⟩)⟩
          · exact .inl h0
        clear hnone hnum
        rcases hcase with h0 | ⟨h0, h2⟩
        · have t1 : decide (0 ≤ n) = false := decide_eq_false h0
          clear h0
          go_wp2_with (go_at_call 24; (with_reducible refine (must_no _ _).mono ?_); rintro e w1 ⟨rfl, rfl⟩)
          refine ⟨rfl, ?_⟩
          show After S g w l (numP xs) (gaveUp 1) _
          rw [HNO.out]
          exact ⟨rfl, F.out⟩
        · have t1 : decide (0 ≤ n) = true := decide_eq_true h0
          have t2 : decide (n ≤ 2147483647) = false := decide_eq_false h2
          clear h0 h2
          go_wp2_with (go_at_call 24; (with_reducible refine (must_no _ _).mono ?_); rintro e w1 ⟨rfl, rfl⟩)
          refine ⟨rfl, ?_⟩
          show After S g w l (numP xs) (gaveUp 1) _
          rw [HNO.out]
          exact ⟨rfl, F.out⟩
    · obtain rfl : k = xs.length := by have := K.out; omega
      clear hlt
      rw [List.take_length] at HA HW
      go_wp2
      go_end0
      show After S g w l (numP xs) _ _
      rw [num_some HA.out]
      exact ⟨rfl, HW.out, F.out⟩
end Go.Proofs.Ytcfknakmamcinaa.Wr
