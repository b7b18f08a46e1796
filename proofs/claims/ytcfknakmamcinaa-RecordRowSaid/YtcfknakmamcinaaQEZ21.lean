import Derived.Outline
import Derived.Test.YtcfknakmamcinaaRows
import Derived.WalkKit
import Derived.ProofKit
import Derived.OpenShut
import Derived.ShutString
import Derived.ChangeOld
import Derived.Below
import Derived.SizedLaws
import Derived.Test.YtcfknakmamcinaaQEZ0
import Derived.Test.YtcfknakmamcinaaQEZ1
import Derived.Test.YtcfknakmamcinaaQEZ2
import Derived.Test.YtcfknakmamcinaaQEZ3
import Derived.Test.YtcfknakmamcinaaQEZ4
import Derived.Test.YtcfknakmamcinaaQEZ5
import Derived.Test.YtcfknakmamcinaaQEZ6
import Derived.Test.YtcfknakmamcinaaQEZ7
import Derived.Test.YtcfknakmamcinaaQEZ8
import Derived.Test.YtcfknakmamcinaaQEZ9
import Derived.Test.YtcfknakmamcinaaQEZ10
import Derived.Test.YtcfknakmamcinaaQEZ11
import Derived.Test.YtcfknakmamcinaaQEZ12
import Derived.Test.YtcfknakmamcinaaQEZ13
import Derived.Test.YtcfknakmamcinaaQEZ14
import Derived.Test.YtcfknakmamcinaaQEZ15
import Derived.Test.YtcfknakmamcinaaQEZ16
import Derived.Test.YtcfknakmamcinaaQEZ17
import Derived.Test.YtcfknakmamcinaaQEZ18
import Derived.Test.YtcfknakmamcinaaQEZ19
import Derived.Test.YtcfknakmamcinaaQEZ20
namespace Go.Proofs.Ytcfknakmamcinaa.Ptb
open Go.Proofs.Ytcfknakmamcinaa.Pt Go Go.RowKit Go.Proofs.YtcfknakmamcinaaW.PrintWords Go.Proofs.Ytcfknakmamcinaa.X4 Go.Proofs.Ytcfknakmamcinaa.Rp Go.Proofs.Ytcfknakmamcinaa.Wr
set_option linter.unusedVariables false
set_option linter.unusedSimpArgs false
instance decE : DecidableEq S49 := fun a b => if h : a.f0 = b.f0 ∧ a.f1 = b.f1 then isTrue (by cases a; cases b; simp_all) else isFalse (fun e => h (by subst e; simp))
/-- The records of a body, from a place on. -/
def allL (s : ByteArray) : Nat → Int → Option (List S49)
  | 0, _ => none
  | n + 1, p => if p < (s.size : Int) then (if (readF s p).2.2 = 0 then (allL s n (readF s p).2.1).map (⟨p, (readF s p).1⟩ :: ·) else none) else some []
def allF (s : ByteArray) : Option (List S49) := allL s (s.size + 1) 0
def okE (e : S49) : Prop := mayB e.f1 = true
def outA (o : Option (List S49)) (acc : List S49) : List S49 × Int := match o with | some l => (acc ++ l, 0) | none => ([], 3)
theorem outA_cons (o : Option (List S49)) (acc : List S49) (x : S49) : outA (o.map (x :: ·)) acc = outA o (acc ++ [x]) := by cases o <;> simp [outA]
theorem all_l0 (s : ByteArray) (hs : s.size ≤ 1000000) : ∀ (d n k : Nat) (p : Int) (acc : List S49), 0 ≤ p → (s.size : Int) - p ≤ d → d < n → d < k → (acc.length : Int) ≤ p → X4b.record_All.l0 k s acc p = some (outA (allL s n p) acc) := by
  intro d
  induction d with
  | zero =>
    intro n k p acc hp hd hn hk ha
    obtain ⟨n, rfl⟩ : ∃ q, n = q + 1 := ⟨n - 1, by omega⟩
    obtain ⟨k, rfl⟩ : ∃ q, k = q + 1 := ⟨k - 1, by omega⟩
    unfold X4b.record_All.l0 allL
    rw [if_neg (by omega), if_neg (by omega)]
    simp [outA]
  | succ d ih =>
    intro n k p acc hp hd hn hk ha
    obtain ⟨n, rfl⟩ : ∃ q, n = q + 1 := ⟨n - 1, by omega⟩
    obtain ⟨k, rfl⟩ : ∃ q, k = q + 1 := ⟨k - 1, by omega⟩
    unfold X4b.record_All.l0 allL
    by_cases c : p < (s.size : Int)
    · rw [if_pos c, if_pos c, read_f hs]
      simp only [Option.bind_some]
      by_cases e : (readF s p).2.2 = 0
      · rw [if_pos e, if_pos e, if_pos (by omega)]
        obtain ⟨bs, q, p0, -, -, -, -, hn2, hs2, hl⟩ := read_some e
        rw [ih n k _ _ (by omega) (by omega) (by omega) (by omega) (by simp; omega), outA_cons]
      · rw [if_neg e, if_neg e]; rfl
    · rw [if_neg c, if_neg c]; simp [outA]
theorem all_f (s : ByteArray) (hs : s.size ≤ 1000000) (k : Nat) (hk : s.size < k) : X4b.record_All.f k s = some (outA (allF s) []) := by
  unfold X4b.record_All.f allF
  exact all_l0 s hs s.size _ k 0 [] (by omega) (by omega) (by omega) hk (by simp)
theorem drop_E {l : List S49} {j : Nat} (h : j < l.length) : l.drop j = rd_T49 l (j : Int) :: l.drop (j + 1) := by
  rw [List.drop_eq_getElem_cons h]
  unfold rd_T49
  rw [Int.toNat_natCast, List.getD_eq_getElem?_getD, List.getElem?_eq_getElem h]
  rfl
theorem sameall_l0 (a b : List S49) (hok : ∀ e ∈ a, okE e) (hl : a.length = b.length) (hm : a.length ≤ 1000000) : ∀ (m k j : Nat), j + m = a.length → m < k → X4b.careenref04_SameAll.l0 k a b (j : Int) = some (decide (a.drop j = b.drop j)) := by
  intro m
  induction m with
  | zero =>
    intro k j hj hk
    obtain ⟨k, rfl⟩ : ∃ q, k = q + 1 := ⟨k - 1, by omega⟩
    unfold X4b.careenref04_SameAll.l0
    rw [if_neg (by omega), List.drop_of_length_le (by omega), List.drop_of_length_le (by omega)]
    simp
  | succ m ih =>
    intro k j hj hk
    obtain ⟨k, rfl⟩ : ∃ q, k = q + 1 := ⟨k - 1, by omega⟩
    unfold X4b.careenref04_SameAll.l0
    rw [if_pos (by omega), if_pos (by omega), if_pos (by omega)]
    have da := drop_E (l := a) (j := j) (by omega)
    have db := drop_E (l := b) (j := j) (by omega)
    have hx : okE (rd_T49 a (j : Int)) := hok _ (List.mem_of_mem_drop (da ▸ List.mem_cons_self))
    rw [da, db]
    generalize rd_T49 a (j : Int) = x at *
    generalize rd_T49 b (j : Int) = y at *
    obtain ⟨r1, r2, -⟩ := rows_le hx
    by_cases c : x.f0 = y.f0
    · rw [if_pos c, rsame_f (by omega) (by omega)]
      simp only [Option.bind_some]
      by_cases c2 : x.f1 = y.f1
      · rw [if_pos (by simpa using c2), wrap_succ (by omega), ih k (j + 1) (by omega) (by omega)]
        have e : x = y := by cases x; cases y; simp_all
        rw [e]
        congr 1
        rw [decide_eq_decide]
        simp
      · rw [if_neg (by simpa using c2)]
        congr 1
        symm
        rw [decide_eq_false_iff_not]
        intro e
        injection e with e
        exact c2 (by rw [e])
    · rw [if_neg c]
      congr 1
      symm
      rw [decide_eq_false_iff_not]
      intro e
      injection e with e
      exact c (by rw [e])
theorem sameall_f (a b : List S49) (hok : ∀ e ∈ a, okE e) (hm : a.length ≤ 1000000) (k : Nat) (hk : a.length < k) : X4b.careenref04_SameAll.f k a b = some (decide (a = b)) := by
  unfold X4b.careenref04_SameAll.f
  by_cases hl : a.length = b.length
  · rw [if_pos (by omega), show (0 : Int) = ((0 : Nat) : Int) from rfl, sameall_l0 a b hok hl hm a.length k 0 (by omega) hk]
    rfl
  · rw [if_neg (by omega)]
    congr 1
    symm
    rw [decide_eq_false_iff_not]
    rintro rfl
    exact hl rfl
end Go.Proofs.Ytcfknakmamcinaa.Ptb
namespace Go.Proofs.Ytcfknakmamcinaa.Ptb
open Go.Proofs.Ytcfknakmamcinaa.Pt Go Go.RowKit Go.Proofs.YtcfknakmamcinaaW.PrintWords Go.Proofs.Ytcfknakmamcinaa.X4 Go.Proofs.Ytcfknakmamcinaa.Rp Go.Proofs.Ytcfknakmamcinaa.Wr
set_option linter.unusedVariables false
set_option linter.unusedSimpArgs false
/-- A record's bytes, or none. -/
def prB (r : S25) : List UInt8 := if mayB r = true then (recP r).getD [] else []
def bytesW : List S25 → List UInt8
  | [] => []
  | r :: t => prB r ++ bytesW t
def wantW : Nat → List S25 → List S49
  | _, [] => []
  | off, r :: t => (if mayB r = true then [⟨(off : Int), r⟩] else []) ++ wantW (off + (prB r).length) t
theorem bytes_append (a b : List S25) : bytesW (a ++ b) = bytesW a ++ bytesW b := by
  induction a with
  | nil => rfl
  | cons x t ih => rw [List.cons_append, bytesW, bytesW, ih, List.append_assoc]
theorem want_append (a b : List S25) (off : Nat) : wantW off (a ++ b) = wantW off a ++ wantW (off + (bytesW a).length) b := by
  induction a generalizing off with
  | nil => simp [wantW, bytesW]
  | cons x t ih => simp only [List.cons_append, wantW, bytesW, ih, List.append_assoc, List.length_append, Nat.add_assoc]
theorem prB_may {r : S25} {bs : List UInt8} (h : recP r = some bs) (hm : mayB r = true) : prB r = bs := by unfold prB; rw [if_pos hm, h]; rfl
theorem prB_not {r : S25} (hm : mayB r = false) : prB r = [] := by unfold prB; rw [if_neg (by rw [hm]; decide)]
theorem prB_le (r : S25) : (prB r).length ≤ 112 := by
  rcases print_may (r := r) with ⟨bs, hb, ho, hp, hm⟩ | ⟨hp, hm⟩
  · rw [prB_may hb hm]; exact (rec_len hb).2.1
  · rw [prB_not hm]; exact Nat.zero_le _
theorem bytes_le (l : List S25) : (bytesW l).length ≤ 112 * l.length := by
  induction l with
  | nil => exact Nat.zero_le _
  | cons x t ih => rw [bytesW, List.length_append, List.length_cons]; have := prB_le x; omega
theorem want_le (l : List S25) (off : Nat) : (wantW off l).length ≤ l.length := by
  induction l generalizing off with
  | nil => exact Nat.le_refl _
  | cons x t ih =>
    rw [wantW, List.length_append, List.length_cons]
    have := ih (off + (prB x).length)
    split
    · simp; omega
    · simp; omega
theorem want_ok (l : List S25) (off : Nat) : ∀ e ∈ wantW off l, okE e := by
  induction l generalizing off with
  | nil => intro e he; cases he
  | cons x t ih =>
    intro e he
    rw [wantW, List.mem_append] at he
    rcases he with he | he
    · split at he
      · rename_i c
        simp only [List.mem_cons, List.not_mem_nil, or_false] at he
        subst he
        exact c
      · cases he
    · exact ih _ e he
/-- All of them are told. -/
theorem all_row (s : ByteArray) : ∀ (l : List S25) (p n : Nat), At s p (bytesW l) → p + (bytesW l).length = s.size → (bytesW l).length < n → allL s n (p : Int) = some (wantW p l) := by
  intro l
  induction l with
  | nil =>
    intro p n ha hp hn
    obtain ⟨n, rfl⟩ : ∃ q, n = q + 1 := ⟨n - 1, by omega⟩
    unfold allL
    simp only [bytesW, List.length_nil] at hp
    rw [if_neg (by omega)]
    rfl
  | cons r t ih =>
    intro p n ha hp hn
    rcases print_may (r := r) with ⟨bs, hb, ho, hpr, hm⟩ | ⟨hpr, hm⟩
    · have e := prB_may hb hm
      simp only [bytesW, wantW, e, hm, if_true, List.length_append] at ha hp hn ⊢
      obtain ⟨a1, a2⟩ := at_append.1 ha
      have l3 := (rec_len hb).2.2
      obtain ⟨n, rfl⟩ : ∃ q, n = q + 1 := ⟨n - 1, by omega⟩
      unfold allL
      rw [if_pos (by omega), read_of_at hb ho a1]
      simp only
      rw [if_pos trivial, ih (p + bs.length) n a2 (by omega) (by omega)]
      rfl
    · have e := prB_not hm
      simp only [bytesW, wantW, e, hm, List.nil_append, List.length_nil, Nat.add_zero] at ha hp hn ⊢
      rw [if_neg (by decide), List.nil_append]
      exact ih p n ha hp hn
theorem all_rows (l : List S25) : allF (B (bytesW l)) = some (wantW 0 l) := by
  unfold allF
  exact all_row (B (bytesW l)) l 0 _ ⟨by rw [B_size]; omega, by rw [B_list]; simp⟩ (by rw [B_size]; omega) (by rw [B_size]; omega)
theorem bytes_snoc {l : List S25} {j : Nat} (h : j < l.length) : bytesW (l.take (j + 1)) = bytesW (l.take j) ++ prB l[j] := by
  rw [List.take_succ_eq_append_getElem h, bytes_append]
  simp [bytesW]
theorem want_snoc {l : List S25} {j : Nat} (h : j < l.length) : wantW 0 (l.take (j + 1)) = wantW 0 (l.take j) ++ (if mayB l[j] = true then [⟨((bytesW (l.take j)).length : Int), l[j]⟩] else []) := by
  rw [List.take_succ_eq_append_getElem h, want_append]
  simp [wantW]
end Go.Proofs.Ytcfknakmamcinaa.Ptb
namespace Go.Proofs.Ytcfknakmamcinaa.X4b
open Go.Proofs.Ytcfknakmamcinaa.X4 Go.Proofs.Ytcfknakmamcinaa.Rp Go.Proofs.Ytcfknakmamcinaa.Pt Go.Proofs.Ytcfknakmamcinaa.Ptb Go Go.RowKit Go.Proofs.YtcfknakmamcinaaW.PrintWords Go.Proofs.YtcfknakmamcinaaW.PrintLast Go.Proofs.YtcfknakmamcinaaW.PrintMore
set_option linter.unusedVariables false
set_option linter.unusedSimpArgs false
theorem rd_rec (l : List S25) (i : Nat) (h : i < l.length) : rd_T25 l (i : Int) = l[i] := by simp [rd_T25, h]
/-- A row of the call's own, of entries that lead to what came in. -/
def OwnE (w0 w : World) (v : Value) (xs : List S49) : Prop := ∃ cs, w.ownsRow w0.heap.size 49 12 v xs.length cs ∧ Reps (k49.K w0) 12 xs cs
theorem OwnE.below {w0 w w1 : World} {v : Value} {xs : List S49} (h : OwnE w0 w v xs) (hb : Below w.heap.size w w1) : OwnE w0 w1 v xs := by
  obtain ⟨cs, h1, h2⟩ := h
  exact ⟨cs, pw_own_below h1 hb, h2⟩
theorem OwnE.reads {w0 w : World} {v : Value} {xs : List S49} (h : OwnE w0 w v xs) (hb : Below w0.heap.size w0 w) : ∃ A c, v = .slice A xs.length c ∧ xs.length ≤ c ∧ Kd.C k49 w A xs.length xs := by
  obtain ⟨cs, h1, h2⟩ := h
  obtain ⟨A, c, e, hr⟩ := own_reads_row h1 (h2.imp_ (fun p c hp => k49.K_below hb hp)) rfl
  refine ⟨A, c, e, ?_, hr⟩
  subst e
  exact own_le h1
set_option maxHeartbeats 4000000 in
set_option maxRecDepth 4096 in
theorem row_walk (l : List S25) (A0 : Option Addr) (c0 : Nat) (w : World) (hr0 : Kd.C k25 w A0 l.length l) (hc0 : l.length ≤ c0) :
    Calls Try.prog 10 #[.slice A0 l.length c0] w fun e w' => e = .returned (.bool true) ∧ Below w.heap.size w w' := by
  have HR0 := Aside0.mk hr0; clear hr0
  have HB := Aside0.mk (Below.refl w.heap.size w)
  by_cases hn : 30 < l.length
  · have z1 : decide ((30 : Int) < (l.length : Int)) = true := by rw [decide_eq_true_eq]; omega
    have z2 : ((30 : Int) < (l.length : Int)) = True := by rw [eq_iff_iff, iff_true]; omega
    have z3 : (30 < l.length) = True := by rw [eq_iff_iff, iff_true]; omega
    clear hn
    go_enter Try.func10, Try.ntmps10
    go_wp2_with ((go_at_call 11; refine (careenlaw04_awake.calls true _ awake_eq).mono ?_; rintro e w1 ⟨rfl, hb1⟩; have n_ := Aside0.mk (Arr.below_trans HB.out hb1); clear HB; have HB := n_; clear n_; clear hb1))
    go_ret
    exact ⟨rfl, HB.out⟩
  have z1 : decide ((30 : Int) < (l.length : Int)) = false := by rw [decide_eq_false_iff_not]; omega
  have z2 : ((30 : Int) < (l.length : Int)) = False := by rw [eq_iff_iff, iff_false]; omega
  have z3 : (30 < l.length) = False := by rw [eq_iff_iff, iff_false]; omega
  have HN := Aside0.mk (show l.length ≤ 30 by omega); clear hn
  go_enter Try.func10, Try.ntmps10
  go_upto_region 6 with ((go_at_call 11; refine (careenlaw04_awake.calls true _ awake_eq).mono ?_; rintro e w1 ⟨rfl, hb1⟩; have n_ := Aside0.mk (Arr.below_trans HB.out hb1); clear HB; have HB := n_; clear n_; clear hb1))
  clear z1 z2 z3
  go_loopw [3, 4, 21] (fun s v i wr => ∃ j : Nat, i = .int .i64 j ∧ s = .string (B (bytesW (l.take j))) ∧ Aside0 (j ≤ l.length) ∧ Aside0 (OwnE w wr v (wantW 0 (l.take j))) ∧ Aside0 (Below w.heap.size w wr)) (fun _ _ i _ => l.length - (intOf i).toNat)
  case atStart => exact ⟨0, rfl, rfl, ⟨Nat.zero_le _⟩, ⟨[], own_nil _ _ _ _, Reps.none _ _⟩, HB⟩
  case round =>
    clear HB
    obtain ⟨j, rfl, rfl, J, HO, HB⟩ := hrel
    by_cases hlt : (j : Int) < (l.length : Int)
    · have hge : (0 : Int) ≤ (j : Int) := by omega
      have hjl : j < l.length := by omega
      have hj30 : (j : Int) < 1000 := by have := HN.out; omega
      have HTB := Aside0.mk (bytes_snoc hjl); have HTW := Aside0.mk (want_snoc hjl)
      have HBL := Aside0.mk (show (bytesW (l.take j)).length ≤ 3360 by have := bytes_le (l.take j); rw [List.length_take] at this; have := HN.out; omega)
      have HWL := Aside0.mk (show (wantW 0 (l.take j)).length ≤ 30 by have := want_le (l.take j) 0; rw [List.length_take] at this; have := HN.out; omega)
      obtain ⟨ad, A9, c9, A10, c10, rfl, e0, e1, e2, e3, e4, e5, e6, e7, e8, e9, e10, m9, n9, m10, n10⟩ := at_T25 HR0.out (j : Int) hge hlt
      rw [rd_rec l j hjl] at e0 e1 e2 e3 e4 e5 e6 e7 e8 e9 e10 m9 n9 m10 n10
      simp only [Int.toNat_natCast] at e0 e1 e2 e3 e4 e5 e6 e7 e8 e9 e10
      generalize l[j] = x at *
      obtain ⟨r0, r1, r2, r3, r4, r5, r6, r7, r8, r9, r10⟩ := x
      simp only at e0 e1 e2 e3 e4 e5 e6 e7 e8 e9 e10 m9 n9 m10 n10
      replace e0 := pw_cell_below HB.out e0; replace e1 := pw_cell_below HB.out e1; replace e2 := pw_cell_below HB.out e2; replace e3 := pw_cell_below HB.out e3; replace e4 := pw_cell_below HB.out e4; replace e5 := pw_cell_below HB.out e5; replace e6 := pw_cell_below HB.out e6; replace e7 := pw_cell_below HB.out e7; replace e8 := pw_cell_below HB.out e8; replace e9 := pw_cell_below HB.out e9; replace e10 := pw_cell_below HB.out e10
      have HM9 := Aside0.mk m9; have HN9 := Aside0.mk n9; have HM10 := Aside0.mk m10; have HN10 := Aside0.mk n10
      clear m9 n9 m10 n10
      go_upto_region 8 with (fail)
      have b5 := heap_alloc_new wr (Obj.cells #[.int .i64 r0, .int .i64 r1, .int .i64 r2, .int .i64 r3, .int .i64 r4, .int .i64 r5, .int .i64 r6, .string r7, .string r8, .slice A9 r9.length c9, .slice A10 r10.length c10] 25)
      have hA5 := (Below.refl wr.heap.size wr).alloc (Nat.le_refl _) (Obj.cells #[.int .i64 r0, .int .i64 r1, .int .i64 r2, .int .i64 r3, .int .i64 r4, .int .i64 r5, .int .i64 r6, .string r7, .string r8, .slice A9 r9.length c9, .slice A10 r10.length c10] 25)
      have HB5 := Aside0.mk (Arr.below_trans HB.out hA5)
      have HO5 := Aside0.mk (HO.out.below hA5)
      clear HB HO e0 e1 e2 e3 e4 e5 e6 e7 e8 e9 e10 hA5
      generalize wr.alloc (Obj.cells #[.int .i64 r0, .int .i64 r1, .int .i64 r2, .int .i64 r3, .int .i64 r4, .int .i64 r5, .int .i64 r6, .string r7, .string r8, .slice A9 r9.length c9, .slice A10 r10.length c10] 25) = w5 at *
      generalize wr.heap.size = gb at *
      have HB := HB5; have HO := HO5; have HK5 := Aside0.mk b5
      clear HB5 HO5
      have f0 := blk_cell b5 0; have f1 := blk_cell b5 1; have f2 := blk_cell b5 2; have f3 := blk_cell b5 3; have f4 := blk_cell b5 4; have f5 := blk_cell b5 5; have f6 := blk_cell b5 6; have f7 := blk_cell b5 7; have f8 := blk_cell b5 8; have f9 := blk_cell b5 9; have f10 := blk_cell b5 10
      clear b5
      by_cases fw : few (⟨r0, r1, r2, r3, r4, r5, r6, r7, r8, r9, r10⟩ : S25)
      · have hfw := few_f (⟨r0, r1, r2, r3, r4, r5, r6, r7, r8, r9, r10⟩ : S25)
        rw [show decide (few (⟨r0, r1, r2, r3, r4, r5, r6, r7, r8, r9, r10⟩ : S25)) = true from decide_eq_true fw] at hfw
        have HF := Aside0.mk hfw
        have HFW := Aside0.mk fw
        clear hfw fw
        go_upto_region 10 with (go_at_call 12; refine (careenref04_Few.calls r0 r1 r2 r3 r4 r5 r6 r7 r8 A9 c9 r9 A10 c10 r10 true _ (Kd.C_below HN9.out HB.out) HM9.out (Kd.C_below HN10.out HB.out) HM10.out HF.out).mono ?_; rintro e w1 ⟨rfl, hb1⟩; have n2_ := Aside0.mk (HO.out.below hb1); have n3_ := Aside0.mk (Wr.blk_below HK5.out hb1); clear HO HK5; have HO := n2_; have HK5 := n3_; clear n2_ n3_; have n_ := Aside0.mk (Arr.below_trans HB.out hb1); clear HB; have HB := n_; clear n_; clear hb1)
        clear f0 f1 f2 f3 f4 f5 f6 f7 f8 f9 f10
        have f0 := blk_cell HK5.out 0; have f1 := blk_cell HK5.out 1; have f2 := blk_cell HK5.out 2; have f3 := blk_cell HK5.out 3; have f4 := blk_cell HK5.out 4; have f5 := blk_cell HK5.out 5; have f6 := blk_cell HK5.out 6; have f7 := blk_cell HK5.out 7; have f8 := blk_cell HK5.out 8; have f9 := blk_cell HK5.out 9; have f10 := blk_cell HK5.out 10
        rcases print_may (r := (⟨r0, r1, r2, r3, r4, r5, r6, r7, r8, r9, r10⟩ : S25)) with ⟨bs, hbs, ho, hp, hm⟩ | ⟨hp, hm⟩
        · have HPR := Aside0.mk ((print_f (r := (⟨r0, r1, r2, r3, r4, r5, r6, r7, r8, r9, r10⟩ : S25)) (by have := HFW.out.2.1; omega)).trans (congrArg some hp))
          have HPB := Aside0.mk (prB_may hbs hm); have HM := Aside0.mk hm
          have HL3 := Aside0.mk (rec_len hbs).2.1
          clear hbs ho hp hm
          go_upto_region 12 with (go_at_call 13; refine (record_Print.calls r0 r1 r2 r3 r4 r5 r6 r7 r8 A9 c9 r9 A10 c10 r10 (B bs) 0 _ (Kd.C_below HN9.out HB.out) HM9.out (Kd.C_below HN10.out HB.out) HM10.out HPR.out).mono ?_; rintro e w1 ⟨rfl, hb1⟩; have n2_ := Aside0.mk (HO.out.below hb1); have n3_ := Aside0.mk (Wr.blk_below HK5.out hb1); clear HO HK5; have HO := n2_; have HK5 := n3_; clear n2_ n3_; have n_ := Aside0.mk (Arr.below_trans HB.out hb1); clear HB; have HB := n_; clear n_; clear hb1)
          clear f0 f1 f2 f3 f4 f5 f6 f7 f8 f9 f10
          have f0 := blk_cell HK5.out 0; have f1 := blk_cell HK5.out 1; have f2 := blk_cell HK5.out 2; have f3 := blk_cell HK5.out 3; have f4 := blk_cell HK5.out 4; have f5 := blk_cell HK5.out 5; have f6 := blk_cell HK5.out 6; have f7 := blk_cell HK5.out 7; have f8 := blk_cell HK5.out 8; have f9 := blk_cell HK5.out 9; have f10 := blk_cell HK5.out 10
          obtain ⟨cs, ho, hrp⟩ := HO.out
          have HOO := Aside0.mk ho; have HRP := Aside0.mk hrp; clear ho hrp
          have hlim : ((wantW 0 (l.take j)).length + 1) * 144 ≤ 140737488355328 := by have := HWL.out; omega
          have hsz : (B (bytesW (l.take j))).size = (bytesW (l.take j)).length := B_size _
          have HSZ := Aside0.mk hsz
          clear hsz
          generalize hN : (B (bytesW (l.take j))).size = nb at *
          have HSB := Aside0.mk (B_size bs)
          have q1 : (9223372036854775807 < nb + (B bs).size) = False := by rw [eq_iff_iff, iff_false]; have := HSZ.out; have := HSB.out; have := HBL.out; have := HL3.out; omega
          have q2 : (nb + (B bs).size ≤ 9223372036854775807) = True := by rw [eq_iff_iff, iff_true]; have := HSZ.out; have := HSB.out; have := HBL.out; have := HL3.out; omega
          go_upto_region 13 with ((with_reducible refine gate_builtin (b := .append) (xs := #[.tmp 35, .tmp 40]) rfl ?_); at_builtin; refine print_append_cells (w0 := w) w.heap.size rfl (.tmp 35) (.tmp 40) 41 49 _ 12 144 rfl Try.underlying41 info49 rfl (by decide) (by decide) _ _ cs [.int .i64 (nb : Int), .int .i64 r0, .int .i64 r1, .int .i64 r2, .int .i64 r3, .int .i64 r4, .int .i64 r5, .int .i64 r6, .string r7, .string r8, .slice A9 r9.length c9, .slice A10 r10.length c10] rfl rfl rfl ?h1 HOO.out HB.out HB.out.size hlim ?_; (case h1 => simp [Value.oneCell']); intro v1 w7 hown1 hB7 hg7 hat7)
          have hR := Reps.snoc HRP.out (k49_mk w (⟨(nb : Int), (⟨r0, r1, r2, r3, r4, r5, r6, r7, r8, r9, r10⟩ : S25)⟩ : S49) HM9.out HN9.out HM10.out HN10.out) rfl
          have ho : wantW 0 (l.take (j + 1)) = wantW 0 (l.take j) ++ [(⟨(nb : Int), (⟨r0, r1, r2, r3, r4, r5, r6, r7, r8, r9, r10⟩ : S25)⟩ : S49)] := by rw [HTW.out, if_pos HM.out, ← HSZ.out]
          have hs : bytesW (l.take (j + 1)) = bytesW (l.take j) ++ bs := by rw [HTB.out, HPB.out]
          have HO7 : Aside0 (OwnE w w7 v1 (wantW 0 (l.take (j + 1)))) := ⟨⟨_, by rw [ho, List.length_append]; exact hown1, by rw [ho]; exact hR⟩⟩
          have HB7 := Aside0.mk hB7
          have HS := Aside0.mk hs
          clear hown1 hB7 hg7 hat7 hR ho hs hlim
          go_wp2
          go_roundw
          case rel => exact ⟨j + 1, by go_num, by rw [HS.out, ← B_append], ⟨by omega⟩, HO7, HB7⟩
          case measure => simp [intOf]; omega
        · have HPR := Aside0.mk ((print_f (r := (⟨r0, r1, r2, r3, r4, r5, r6, r7, r8, r9, r10⟩ : S25)) (by have := HFW.out.2.1; omega)).trans (congrArg some hp))
          have HPB := Aside0.mk (prB_not hm); have HM := Aside0.mk hm
          clear hp hm
          have ho : wantW 0 (l.take (j + 1)) = wantW 0 (l.take j) := by rw [HTW.out, if_neg (by rw [HM.out]; decide), List.append_nil]
          have hs : bytesW (l.take (j + 1)) = bytesW (l.take j) := by rw [HTB.out, HPB.out, List.append_nil]
          have HOW := Aside0.mk ho; have HS := Aside0.mk hs
          clear ho hs
          go_wp2_with (go_at_call 13; refine (record_Print.calls r0 r1 r2 r3 r4 r5 r6 r7 r8 A9 c9 r9 A10 c10 r10 ⟨#[]⟩ 1 _ (Kd.C_below HN9.out HB.out) HM9.out (Kd.C_below HN10.out HB.out) HM10.out HPR.out).mono ?_; rintro e w1 ⟨rfl, hb1⟩; have n2_ := Aside0.mk (HO.out.below hb1); have n3_ := Aside0.mk (Wr.blk_below HK5.out hb1); clear HO HK5; have HO := n2_; have HK5 := n3_; clear n2_ n3_; have n_ := Aside0.mk (Arr.below_trans HB.out hb1); clear HB; have HB := n_; clear n_; clear hb1)
          go_roundw
          case rel => exact ⟨j + 1, by go_num, by rw [HS.out], ⟨by omega⟩, ⟨by rw [HOW.out]; exact HO.out⟩, HB⟩
          case measure => simp [intOf]; omega
      · have hfw := few_f (⟨r0, r1, r2, r3, r4, r5, r6, r7, r8, r9, r10⟩ : S25)
        rw [show decide (few (⟨r0, r1, r2, r3, r4, r5, r6, r7, r8, r9, r10⟩ : S25)) = false from decide_eq_false fw] at hfw
        have HF := Aside0.mk hfw
        clear hfw fw
        go_wp2_with (go_at_call 12; refine (careenref04_Few.calls r0 r1 r2 r3 r4 r5 r6 r7 r8 A9 c9 r9 A10 c10 r10 false _ (Kd.C_below HN9.out HB.out) HM9.out (Kd.C_below HN10.out HB.out) HM10.out HF.out).mono ?_; rintro e w1 ⟨rfl, hb1⟩; have n_ := Aside0.mk (Arr.below_trans HB.out hb1); clear HB; have HB := n_; clear n_; clear hb1)
        go_ret
        exact ⟨rfl, HB.out⟩
    · obtain rfl : j = l.length := by have := J.out; omega
      rw [List.take_length] at HO
      have hbl := bytes_le l
      have HA := Aside0.mk ((Ptb.all_f (B (bytesW l)) (by rw [B_size]; have := HN.out; omega) 5000 (by rw [B_size]; have := HN.out; omega)).trans (by rw [all_rows]; rfl : _ = some (wantW 0 l, (0 : Int))))
      have HS := Aside0.mk (Ptb.sameall_f (wantW 0 l) (wantW 0 l) (want_ok l 0) (by have := want_le l 0; have := HN.out; omega) 5000 (by have := want_le l 0; have := HN.out; omega))
      clear hbl hlt J
      simp only [List.take_length]
      go_upto_region 16 with (go_at_call 20; refine (record_All.calls 5000 (B (bytesW l)) (wantW 0 l) 0 _ HA.out).mono ?_; rintro e w1 ⟨v0, rfl, hv, hb1⟩; have n2_ := Aside0.mk (HO.out.below hb1); clear HO; have HO := n2_; clear n2_; have n_ := Aside0.mk (Arr.below_trans HB.out hb1); clear HB; have HB := n_; clear n_; clear hb1)
      obtain ⟨A3, c3, rfl, hc3, hr3⟩ := HO.out.reads HB.out
      obtain ⟨A4, c4, rfl⟩ := Kd.S_slice hv
      have rr := Kd.R_reads' (Kd.S_R hv)
      have HR3 := Aside0.mk hr3; have HC3 := Aside0.mk hc3; have HR4 := Aside0.mk rr.2.2; have HC4 := Aside0.mk rr.2.1
      clear hv hr3 hc3 rr
      go_wp2_with (go_at_call 22; refine (careenref04_SameAll.calls 5000 A4 c4 (wantW 0 l) A3 c3 (wantW 0 l) true _ HR4.out HC4.out HR3.out HC3.out (by have := HS.out; simpa using this)).mono ?_; rintro e w2 ⟨rfl, hb1⟩; have n_ := Aside0.mk (Arr.below_trans HB.out hb1); clear HB; have HB := n_; clear n_; clear hb1)
      go_ret
      exact ⟨rfl, HB.out⟩
def careenlaw04_RecordRow.f (l0 : List S25) : Option Bool := some true
theorem careenlaw04_RecordRow.calls (A0 : Option Addr) (c0 : Nat) (l0 : List (S25)) (r : Bool) (w : World) (hr0 : Kd.C k25 w A0 l0.length l0) (hc0 : l0.length ≤ c0) (h : careenlaw04_RecordRow.f l0 = some r) :
    Calls Try.prog 10 #[.slice A0 l0.length c0] w fun e w' => e = .returned (.bool r) ∧ Below w.heap.size w w' := by
  obtain rfl := Option.some.inj h
  exact row_walk l0 A0 c0 w hr0 hc0
end Go.Proofs.Ytcfknakmamcinaa.X4b
namespace Go.Proofs.Ytcfknakmamcinaa.X4b.RowRecordRow
open Go.Proofs.Ytcfknakmamcinaa.X4 Go.ChangeShapes Go.WideShapes Go.ChangeAt Go.RowKit Go.Proofs.Ytcfknakmamcinaa.Opens Go.Proofs.YtcfknakmamcinaaW.PrintWords
open Go.ChangeMaps (open_string shut_string)
set_option linter.unusedVariables false
theorem own : ownKnob Try.prog.godebug = none := by kernel_rfl
theorem laidOut : laidOutB Try.prog = true := by kernel_rfl
def W66 (x : S66) : Prop := (Lit.int .i64 x.f0).wf = true ∧ (Lit.int .i64 x.f1).wf = true ∧ (Lit.int .i64 x.f2).wf = true
set_option maxRecDepth 100000 in
theorem opens66 : Opens Try.prog 66 k66 W66 := opens_iso (opens_struct Try.underlying66 (by kernel_rfl) (by kernel_rfl) (opensF_cons (opens_int Try.underlying3) (opensF_cons (opens_int Try.underlying3) (opensF_one (opens_int Try.underlying3))))) (fun x : S66 => (x.f0, x.f1, x.f2)) (fun p => ⟨p.1, p.2.1, p.2.2⟩) (fun _ => rfl)
def W68 (x : S68) : Prop := (Lit.int .i64 x.f0).wf = true ∧ (Lit.int .i64 x.f1).wf = true
set_option maxRecDepth 100000 in
theorem opens68 : Opens Try.prog 68 k68 W68 := opens_iso (opens_struct Try.underlying68 (by kernel_rfl) (by kernel_rfl) (opensF_cons (opens_int Try.underlying3) (opensF_one (opens_int Try.underlying3)))) (fun x : S68 => (x.f0, x.f1)) (fun p => ⟨p.1, p.2⟩) (fun _ => rfl)
def W25 (x : S25) : Prop := (Lit.int .i64 x.f0).wf = true ∧ (Lit.int .i64 x.f1).wf = true ∧ (Lit.int .i64 x.f2).wf = true ∧ (Lit.int .i64 x.f3).wf = true ∧ (Lit.int .i64 x.f4).wf = true ∧ (Lit.int .i64 x.f5).wf = true ∧ (Lit.int .i64 x.f6).wf = true ∧ x.f7.size ≤ 140737488351232 ∧ x.f8.size ≤ 140737488351232 ∧ (x.f9.length ≤ maxLen ∧ x.f9.length * Try.prog.bytesOf 66 ≤ 140737488351232 ∧ ∀ y ∈ x.f9, W66 y) ∧ (x.f10.length ≤ maxLen ∧ x.f10.length * Try.prog.bytesOf 68 ≤ 140737488351232 ∧ ∀ y ∈ x.f10, W68 y)
set_option maxRecDepth 100000 in
theorem opens25 : Opens Try.prog 25 k25 W25 := opens_iso (opens_struct Try.underlying25 (by kernel_rfl) (by kernel_rfl) (opensF_cons (opens_int Try.underlying3) (opensF_cons (opens_int Try.underlying3) (opensF_cons (opens_int Try.underlying3) (opensF_cons (opens_int Try.underlying3) (opensF_cons (opens_int Try.underlying3) (opensF_cons (opens_int Try.underlying3) (opensF_cons (opens_int Try.underlying3) (opensF_cons (opens_string Try.underlying9) (opensF_cons (opens_string Try.underlying9) (opensF_cons (opens_slice Try.underlying22 (by kernel_rfl) opens66) (opensF_one (opens_slice Try.underlying23 (by kernel_rfl) opens68))))))))))))) (fun x : S25 => (x.f0, x.f1, x.f2, x.f3, x.f4, x.f5, x.f6, x.f7, x.f8, x.f9, x.f10)) (fun p => ⟨p.1, p.2.1, p.2.2.1, p.2.2.2.1, p.2.2.2.2.1, p.2.2.2.2.2.1, p.2.2.2.2.2.2.1, p.2.2.2.2.2.2.2.1, p.2.2.2.2.2.2.2.2.1, p.2.2.2.2.2.2.2.2.2.1, p.2.2.2.2.2.2.2.2.2.2⟩) (fun _ => rfl)
/-- The statement, over plain values. -/
def Pure : Prop := ∀ (x0 : List S25), (x0.length ≤ maxLen ∧ x0.length * Try.prog.bytesOf 25 ≤ 140737488351232 ∧ ∀ y ∈ x0, W25 y) → ∃ k : Nat, careenlaw04_RecordRow.f x0 = some true
set_option maxRecDepth 100000 in
theorem lifted (PU : Pure) (os : Os) (started : os.Started) (H : Type) (enc : TypeId × Value → H) :
    ReturnsInHanded {} Try.checked os 10 .any (Rows.recordRowSpec.pre6 enc Try.prog Try.f10 Rows.recordRowRow.domain false) (Rows.recordRowSpec.post enc Try.prog Try.f10 false true false false) := by
  refine returnsInHanded_of_change_sized (C := Try.checked) own started (by kernel_rfl) Try.func10
    (ChangeSpec.witness6 (enc := enc) (C := Try.checked) false ⟨#[], #[.slice none 0 0], []⟩ 8 (by kernel_rfl) (by kernel_rfl) (by kernel_rfl) (by kernel_rfl)) ?_
  intro W base args ds gs before hval0 hW hcnd hsz0 _
  have hsz : (DataW.weightsEach Try.prog (Try.f10.params.toList ++ Rows.recordRowSpec.plain.varTypes Try.prog) (ds ++ gs)).all (· ≤ reachBytes) = true := hsz0
  have hval : ∀ (j : Nat) t v, Try.f10.params[j]? = some t → args[j]? = some v → Value.okWide Try.prog W .any base t v := hval0
  have hW' := hW
  obtain ⟨p, q, hA0, hV, rfl, hfz, hnd⟩ := hW
  have hA : DataW.TrodAll enc Try.prog W 0 (fun _ => true) true Try.f10.params.toList args.toList ds p := hA0
  rw [Try.params10] at hA hval hsz
  obtain ⟨v0, vs0, d0, ds0, p0, q0, hargs, rfl, rfl, h0, r0⟩ := trodAll_cons hA
  obtain ⟨rfl, rfl, rfl⟩ := trodAll_nil r0
  obtain rfl : args = #[v0] := by cases args; simp_all
  obtain ⟨rfl, rfl⟩ := trodVars_none hV
  have kk0 := h0
  have lt0 : ∀ x ∈ p0, x.block < W.heap.size := by obtain ⟨m, hm⟩ := kk0; exact DataW.trod_lt m _ _ _ hm
  obtain ⟨x0, hk0, w0⟩ : ∃ x, (Kd.slice 25 k25).K W x v0.cells.toList ∧ (x.length ≤ maxLen ∧ x.length * Try.prog.bytesOf 25 ≤ 140737488351232 ∧ ∀ y ∈ x, W25 y) := by
    obtain ⟨fuel, hf⟩ := h0
    exact (opens_slice Try.underlying47 (by kernel_rfl) opens25) hf (fun n hn => by simpa using List.all_eq_true.1 hsz n (DataW.weights_mem_each (j := 0) (t := 47) (d := d0) rfl rfl n hn))
  obtain ⟨a0, len0, cap0, rfl⟩ := okWide_slice Try.underlying47 (hval 0 47 v0 rfl rfl)
  obtain ⟨A0, c0, e0, hc0, hr0⟩ := hk0
  obtain ⟨rfl, rfl, rfl⟩ : a0 = A0 ∧ len0 = x0.length ∧ cap0 = c0 := by simpa [Value.cells] using e0
  clear hA0 hval0 hsz0 hsz
  obtain ⟨k, h⟩ := PU x0 w0
  refine (careenlaw04_RecordRow.calls (l0 := x0) (r := true) (w := W) (hr0 := hr0) (hc0 := hc0) (h := h)).mono fun e W' ⟨he, bel0⟩ => ?_
  have bel : Below W.heap.size W W' := bel0
  subst he
  exact ⟨_, rfl, _, _, _, [], _, [], hW', trodAll_mk1 (shut_bool Try.underlying4 _), (trodAll_cons_mk (Below.trod laidOut (by kernel_rfl) (of_decide_eq_true (by kernel_rfl)) kk0 bel lt0) trodAll_mk0), rfl, bel.frame _, fun h => by cases h⟩
/-- The row follows from the plain statement. -/
theorem holds (PU : Pure) : Rows.RecordRowSaid :=
  OpenClaim.holds_of_wide 10 Try.f10 rfl rfl rfl rfl rfl rfl rfl ⟨rfl, rfl, rfl, rfl, rfl⟩ rfl rfl rfl rfl rfl (by kernel_rfl) Try.func10 (by kernel_rfl)
    (of_decide_eq_true (by kernel_rfl)) (by unfold Func.isWrapper; first | (rw [if_pos (by decide +kernel)]; kernel_rfl) | (rw [if_neg (by decide +kernel)]; exact ⟨rfl, rfl⟩))
    (fun os started H enc _ => lifted PU os started H enc)
end Go.Proofs.Ytcfknakmamcinaa.X4b.RowRecordRow
