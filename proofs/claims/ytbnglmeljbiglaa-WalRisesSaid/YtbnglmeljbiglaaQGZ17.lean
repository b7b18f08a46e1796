import Derived.Test.YtbnglmeljbiglaaQGZ0
import Derived.Test.YtbnglmeljbiglaaQGZ1
import Derived.Test.YtbnglmeljbiglaaQGZ2
import Derived.Test.YtbnglmeljbiglaaQGZ3
import Derived.Test.YtbnglmeljbiglaaQGZ4
import Derived.Test.YtbnglmeljbiglaaQGZ5
import Derived.Test.YtbnglmeljbiglaaQGZ6
import Derived.Test.YtbnglmeljbiglaaQGZ7
import Derived.Test.YtbnglmeljbiglaaQGZ8
import Derived.Test.YtbnglmeljbiglaaQGZ9
import Derived.Test.YtbnglmeljbiglaaQGZ10
import Derived.Test.YtbnglmeljbiglaaQGZ11
import Derived.Test.YtbnglmeljbiglaaQGZ12
import Derived.Test.YtbnglmeljbiglaaQGZ13
import Derived.Test.YtbnglmeljbiglaaQGZ14
import Derived.Test.YtbnglmeljbiglaaQGZ15
import Derived.Test.YtbnglmeljbiglaaQGZ16
set_option maxRecDepth 8192
namespace Go.Proofs.Ytbnglmeljbiglaa.Pt
open Go Go.RowKit Go.Proofs.YtbnglmeljbiglaaW.PrintWords Go.Proofs.Ytbnglmeljbiglaa.X4 Go.Proofs.Ytbnglmeljbiglaa.X4b Go.Proofs.Ytbnglmeljbiglaa.Rp Go.Proofs.Ytbnglmeljbiglaa.Wr
set_option linter.unusedVariables false
set_option linter.unusedSimpArgs false
abbrev few (r : S37) : Prop := r.f7.size ≤ 300 ∧ r.f8.size ≤ 300 ∧ r.f9.length ≤ 50 ∧ r.f10.length ≤ 50
theorem few_f (r : S37) : X4b.careenref04_Few.f r.f0 r.f1 r.f2 r.f3 r.f4 r.f5 r.f6 r.f7 r.f8 r.f9 r.f10 = some (decide (few r)) := by
  unfold X4b.careenref04_Few.f
  by_cases h1 : r.f7.size ≤ 300
  · rw [if_pos (by omega)]
    by_cases h2 : r.f8.size ≤ 300
    · rw [if_pos (by omega)]
      by_cases h3 : r.f9.length ≤ 50
      · rw [if_pos (by omega)]
        congr 1
        rw [decide_eq_decide]
        omega
      · rw [if_neg (by omega)]; congr 1; symm; rw [decide_eq_false_iff_not]; omega
    · rw [if_neg (by omega)]; congr 1; symm; rw [decide_eq_false_iff_not]; omega
  · rw [if_neg (by omega)]; congr 1; symm; rw [decide_eq_false_iff_not]; omega
end Go.Proofs.Ytbnglmeljbiglaa.Pt
set_option maxRecDepth 8192
namespace Go.Proofs.Ytbnglmeljbiglaa.Ptb
open Go.Proofs.Ytbnglmeljbiglaa.Pt Go Go.RowKit Go.Proofs.YtbnglmeljbiglaaW.PrintWords Go.Proofs.Ytbnglmeljbiglaa.X4 Go.Proofs.Ytbnglmeljbiglaa.Rp Go.Proofs.Ytbnglmeljbiglaa.Wr
set_option linter.unusedVariables false
set_option linter.unusedSimpArgs false
instance decE : DecidableEq S44 := fun a b => if h : a.f0 = b.f0 ∧ a.f1 = b.f1 then isTrue (by cases a; cases b; simp_all) else isFalse (fun e => h (by subst e; simp))
/-- The records of a body, from a place on. -/
def allL (s : ByteArray) : Nat → Int → Option (List S44)
  | 0, _ => none
  | n + 1, p => if p < (s.size : Int) then (if (readF s p).2.2 = 0 then (allL s n (readF s p).2.1).map (⟨p, (readF s p).1⟩ :: ·) else none) else some []
def allF (s : ByteArray) : Option (List S44) := allL s (s.size + 1) 0
def okE (e : S44) : Prop := mayB e.f1 = true
theorem allL_ok {s : ByteArray} : ∀ (n : Nat) (p : Int) (l : List S44), allL s n p = some l → ∀ e ∈ l, okE e := by
  intro n
  induction n with
  | zero => intro p l h; cases h
  | succ n ih =>
    intro p l h
    unfold allL at h
    split at h
    · split at h
      · rename_i c e
        obtain ⟨t, ht, rfl⟩ := Option.map_eq_some_iff.1 h
        intro x hx
        rcases List.mem_cons.1 hx with rfl | hx
        · obtain ⟨bs, q, -, hb, ho, -⟩ := read_some e
          exact (may_iff _).2 ⟨⟨bs, hb⟩, ho⟩
        · exact ih _ _ ht x hx
      · cases h
    · injection h with h; subst h; intro x hx; cases hx
def outA (o : Option (List S44)) (acc : List S44) : List S44 × Int := match o with | some l => (acc ++ l, 0) | none => ([], 3)
theorem outA_cons (o : Option (List S44)) (acc : List S44) (x : S44) : outA (o.map (x :: ·)) acc = outA o (acc ++ [x]) := by cases o <;> simp [outA]
theorem all_l0 (s : ByteArray) (hs : s.size ≤ 1000000) : ∀ (d n k : Nat) (p : Int) (acc : List S44), 0 ≤ p → (s.size : Int) - p ≤ d → d < n → d < k → (acc.length : Int) ≤ p → X4b.record_All.l0 k s acc p = some (outA (allL s n p) acc) := by
  intro d
  induction d with
  | zero =>
    intro n k p acc hp hd hn hk ha
    obtain ⟨n, rfl⟩ : ∃ q, n = q + 1 := ⟨n - 1, by omega⟩
    obtain ⟨k, rfl⟩ : ∃ q, k = q + 1 := ⟨k - 1, by omega⟩
    unfold X4b.record_All.l0 allL
    rw [if_neg (by omega), if_neg (by omega)]
    simp [outA]
  | succ d ih =>
    intro n k p acc hp hd hn hk ha
    obtain ⟨n, rfl⟩ : ∃ q, n = q + 1 := ⟨n - 1, by omega⟩
    obtain ⟨k, rfl⟩ : ∃ q, k = q + 1 := ⟨k - 1, by omega⟩
    unfold X4b.record_All.l0 allL
    by_cases c : p < (s.size : Int)
    · rw [if_pos c, if_pos c, read_f hs]
      simp only [Option.bind_some]
      by_cases e : (readF s p).2.2 = 0
      · rw [if_pos e, if_pos e, if_pos (by omega)]
        obtain ⟨bs, q, p0, -, -, -, -, hn2, hs2, hl⟩ := read_some e
        rw [ih n k _ _ (by omega) (by omega) (by omega) (by omega) (by simp; omega), outA_cons]
      · rw [if_neg e, if_neg e]; rfl
    · rw [if_neg c, if_neg c]; simp [outA]
theorem all_f (s : ByteArray) (hs : s.size ≤ 1000000) (k : Nat) (hk : s.size < k) : X4b.record_All.f k s = some (outA (allF s) []) := by
  unfold X4b.record_All.f allF
  exact all_l0 s hs s.size _ k 0 [] (by omega) (by omega) (by omega) hk (by simp)
end Go.Proofs.Ytbnglmeljbiglaa.Ptb
set_option maxRecDepth 8192
namespace Go.Proofs.Ytbnglmeljbiglaa.Ptb
open Go.Proofs.Ytbnglmeljbiglaa.Pt Go Go.RowKit Go.Proofs.YtbnglmeljbiglaaW.PrintWords Go.Proofs.Ytbnglmeljbiglaa.X4 Go.Proofs.Ytbnglmeljbiglaa.Rp Go.Proofs.Ytbnglmeljbiglaa.Wr
set_option linter.unusedVariables false
set_option linter.unusedSimpArgs false
/-- A record's bytes, or none. -/
def prB (r : S37) : List UInt8 := if mayB r = true then (recP r).getD [] else []
def bytesW : List S37 → List UInt8
  | [] => []
  | r :: t => prB r ++ bytesW t
def wantW : Nat → List S37 → List S44
  | _, [] => []
  | off, r :: t => (if mayB r = true then [⟨(off : Int), r⟩] else []) ++ wantW (off + (prB r).length) t
theorem bytes_append (a b : List S37) : bytesW (a ++ b) = bytesW a ++ bytesW b := by
  induction a with
  | nil => rfl
  | cons x t ih => rw [List.cons_append, bytesW, bytesW, ih, List.append_assoc]
theorem want_append (a b : List S37) (off : Nat) : wantW off (a ++ b) = wantW off a ++ wantW (off + (bytesW a).length) b := by
  induction a generalizing off with
  | nil => simp [wantW, bytesW]
  | cons x t ih => simp only [List.cons_append, wantW, bytesW, ih, List.append_assoc, List.length_append, Nat.add_assoc]
theorem prB_may {r : S37} {bs : List UInt8} (h : recP r = some bs) (hm : mayB r = true) : prB r = bs := by unfold prB; rw [if_pos hm, h]; rfl
theorem prB_not {r : S37} (hm : mayB r = false) : prB r = [] := by unfold prB; rw [if_neg (by rw [hm]; decide)]
theorem prB_le (r : S37) : (prB r).length ≤ 112 := by
  rcases print_may (r := r) with ⟨bs, hb, ho, hp, hm⟩ | ⟨hp, hm⟩
  · rw [prB_may hb hm]; exact (rec_len hb).2.1
  · rw [prB_not hm]; exact Nat.zero_le _
/-- All of them are told. -/
theorem all_row (s : ByteArray) : ∀ (l : List S37) (p n : Nat), At s p (bytesW l) → p + (bytesW l).length = s.size → (bytesW l).length < n → allL s n (p : Int) = some (wantW p l) := by
  intro l
  induction l with
  | nil =>
    intro p n ha hp hn
    obtain ⟨n, rfl⟩ : ∃ q, n = q + 1 := ⟨n - 1, by omega⟩
    unfold allL
    simp only [bytesW, List.length_nil] at hp
    rw [if_neg (by omega)]
    rfl
  | cons r t ih =>
    intro p n ha hp hn
    rcases print_may (r := r) with ⟨bs, hb, ho, hpr, hm⟩ | ⟨hpr, hm⟩
    · have e := prB_may hb hm
      simp only [bytesW, wantW, e, hm, if_true, List.length_append] at ha hp hn ⊢
      obtain ⟨a1, a2⟩ := at_append.1 ha
      have l3 := (rec_len hb).2.2
      obtain ⟨n, rfl⟩ : ∃ q, n = q + 1 := ⟨n - 1, by omega⟩
      unfold allL
      rw [if_pos (by omega), read_of_at hb ho a1]
      simp only
      rw [if_pos trivial, ih (p + bs.length) n a2 (by omega) (by omega)]
      rfl
    · have e := prB_not hm
      simp only [bytesW, wantW, e, hm, List.nil_append, List.length_nil, Nat.add_zero] at ha hp hn ⊢
      rw [if_neg (by decide), List.nil_append]
      exact ih p n ha hp hn
theorem all_rows (l : List S37) : allF (B (bytesW l)) = some (wantW 0 l) := by
  unfold allF
  exact all_row (B (bytesW l)) l 0 _ ⟨by rw [B_size]; omega, by rw [B_list]; simp⟩ (by rw [B_size]; omega) (by rw [B_size]; omega)
end Go.Proofs.Ytbnglmeljbiglaa.Ptb
set_option maxRecDepth 8192
namespace Go.Proofs.Ytbnglmeljbiglaa.Wl
open Go.Proofs.Ytbnglmeljbiglaa.Rgn
open Go.Proofs.Ytbnglmeljbiglaa.X4 Go.Proofs.Ytbnglmeljbiglaa.Pt Go.Proofs.Ytbnglmeljbiglaa.Ptb Go Go.RowKit Go.ChangeMaps Go.Proofs.Ytbnglmeljbiglaa.Arr Go.Proofs.Ytbnglmeljbiglaa.Mp Go.Proofs.Ytbnglmeljbiglaa.Ow Go.Proofs.Ytbnglmeljbiglaa.Dk Go.Proofs.Ytbnglmeljbiglaa.Fr Go.Proofs.YtbnglmeljbiglaaW.PrintWords Go.Proofs.YtbnglmeljbiglaaW.PrintLast Go.Proofs.YtbnglmeljbiglaaW.PrintMore
set_option linter.unusedVariables false
set_option linter.unusedSimpArgs false
/-- The records of a body. -/
def allS (s : ByteArray) : List S44 := (allF s).getD []
def allE (s : ByteArray) : Int := if (allF s).isSome = true then 0 else 3
theorem all_calls (s : ByteArray) (hs : s.size ≤ 1000000) (w : World) : Calls Try.prog 73 #[.string s] w fun e w' => ∃ v : Value, e = .returned (.tuple #[v, .int .i64 (allE s)]) ∧ Kd.S X4.k44 44 w' w.heap.size (fun _ => True) v (allS s) ∧ Below w.heap.size w w' := by
  have h := all_f s hs (s.size + 1) (by omega)
  refine X4b.record_All.calls (s.size + 1) s (allS s) (allE s) w ?_
  rw [h]
  unfold outA allS allE
  cases allF s with
  | none => rfl
  | some l => rfl
/-- A sector of the log, if it is one of records: its epoch, its body. -/
def wholeF (d : DS) (p i : Int) : Option (Int × ByteArray) :=
  if readE d p ≠ 0 then none else if (X12.unpackF (readS d p)).2.2.2 = 0 ∧ (X12.unpackF (readS d p)).2.1 = i ∧ (X12.unpackF (readS d p)).2.2.1 ≠ ⟨#[]⟩ ∧ allE (X12.unpackF (readS d p)).2.2.1 = 0 then some ((X12.unpackF (readS d p)).1, (X12.unpackF (readS d p)).2.2.1) else none
def WholeR (q : Option (Int × ByteArray)) (x : Ending) : Prop := ∃ (e i : Int) (b : ByteArray), x = .returned (.tuple #[.agg #[.int .u32 e, .int .u32 i, .string b], .bool q.isSome]) ∧ ∀ y, q = some y → e = y.1 ∧ b = y.2
theorem body_le (s : ByteArray) : (X12.unpackF s).2.2.1.size ≤ 112 := by
  unfold X12.unpackF
  split
  · rename_i h
    have h1 := X12.cutB_size s h.1 h.2.1
    have h2 := h.2.1
    show (X12.cutB s).size ≤ 112
    omega
  · show (0 : Nat) ≤ 112; omega
section
variable {w : World} {c : Nat → Nat} {gl m g N : Nat} {W : WS} {d : DS}
set_option maxHeartbeats 8000000 in
theorem whole_calls (h : LO w c gl m g W) (hd : DK w (Col c 1) g d) (ho : OkN N d) (F : Fit W) (i : Int) (hi : 0 ≤ i) : Calls Try.prog 53 #[.pointer (some ⟨gl, 0, none⟩), .int .i64 i] w fun x w' => WholeR (wholeF d (placeW W i) i) x ∧ Below w.heap.size w w' := by
  have HL := Aside0.mk h; have HD := Aside0.mk hd; have HO := Aside0.mk ho; have HF := Aside0.mk F; have HI := Aside0.mk hi
  clear h hd ho F hi
  have HT := Aside0.mk (heap_alloc_new w (.cells #[.int .u32 0, .int .u32 0, .string ⟨#[]⟩] 97))
  have HB := Aside0.mk ((Below.refl w.heap.size w).alloc (Nat.le_refl _) (.cells #[.int .u32 0, .int .u32 0, .string ⟨#[]⟩] 97))
  have HLA := Aside0.mk (HL.out.below HB.out); have HDA := Aside0.mk (HD.out.below HB.out)
  obtain ⟨W0, hW⟩ : ∃ W0, W0 = w.alloc (.cells #[.int .u32 0, .int .u32 0, .string ⟨#[]⟩] 97) := ⟨_, rfl⟩
  go_enter Try.func53, Try.ntmps53
  go_upto_region 1 with (fail)
  rw [← hW] at HT HB HLA HDA ⊢
  clear hW HL HD
  have HL1 := Aside0.mk HLA.out.drew; have HD1 := Aside0.mk HDA.out.drew; have HB1 := Aside0.mk HB.out.drew
  have HT1 := Aside0.mk (show W0.drew.heap[w.heap.size]? = some (.cells #[.int .u32 0, .int .u32 0, .string ⟨#[]⟩] 97 (0, 0)) from HT.out)
  have c0 := HL1.out.c0
  clear HT HB HLA HDA
  refine start_ (n := 13) (S := fun w' => w'.cell? ⟨gl, 0, none⟩ = some (.pointer (some ⟨g, 0, none⟩))) (ds := []) #[false, false, false, false, false, false, false, false, false, false, false, false, false] (by kernel_rfl) rfl rfl c0 (fun hHeld => ?_)
  refine rgp 0 9 ?_
  refine rgp 1 10 ?_
  refine rgp 2 11 ?_
  refine rgp 4 13 ?_
  refine rgp 5 14 ?_
  refine rgt 3 12 hHeld ?_
  refine one_ (i := 6) (N := some 15) #[true, true, true, true, true, true, true, false, false, false, false, false, false] rfl rfl (by kernel_rfl) (by decide) (fun K hK => ?_)
  generalize W0.drew = X0_ at *
  refine goes_ Try.func49 (by kernel_rfl) rfl #[.pointer (some ⟨gl, 0, none⟩), .int .i64 i] (by rfl) rfl rfl (by (try simp only [List.map_toArray, List.map_cons, List.map_nil]); first | done | rfl) ?_
  refine (place_calls HL1.out HF.out i HI.out).mono ?_
  rintro e v1_ ⟨rfl, hb1⟩
  refine ⟨_, rfl, ?_⟩
  have HL2 := Aside0.mk (HL1.out.below hb1); have HD2 := Aside0.mk (HD1.out.below hb1); have HB2 := Aside0.mk (Arr.below_trans HB1.out hb1)
  have HT2 := Aside0.mk ((hb1.block w.heap.size (blk_lt HT1.out)).trans HT1.out)
  clear hb1 HL1 HB1 HD1 HT1
  refine hK _ _ HL2.out.c0 (fun hHeld => ?_)
  clear hK K
  refine norm_ (a' := ?_) ?_ ?_
  rotate_left
  · show Act.put _ (some 15) _ = _
    simp only [Act.put, List.setIfInBounds_toArray, List.set_cons_zero, List.set_cons_succ, i64_w, i32_w]
    rfl
  refine one_ (i := 7) (N := some 16) #[true, true, true, true, true, true, true, true, false, false, false, false, false] rfl rfl (by kernel_rfl) (by decide) (fun K hK => ?_)
  refine goes_ Try.func71 (by kernel_rfl) rfl #[.pointer (some ⟨g, 0, none⟩), .int .i64 (placeW W i)] (by rfl) rfl rfl (by (try simp only [List.map_toArray, List.map_cons, List.map_nil]); first | done | rfl) ?_
  refine (read_calls d g (placeW W i) _ _ HD2.out HO.out.ok).mono ?_
  rintro e v2_ ⟨rfl, hb1⟩
  refine ⟨_, rfl, ?_⟩
  have HL3 := Aside0.mk (HL2.out.below hb1); have HB3 := Aside0.mk (Arr.below_trans HB2.out hb1)
  have HT3 := Aside0.mk ((hb1.block w.heap.size (blk_lt HT2.out)).trans HT2.out)
  clear hb1 HL2 HB2 HD2 HT2
  refine hK _ _ HL3.out.c0 (fun hHeld => ?_)
  clear hK K
  refine norm_ (a' := ?_) ?_ ?_
  rotate_left
  · show Act.put _ (some 16) _ = _
    simp only [Act.put, List.setIfInBounds_toArray, List.set_cons_zero, List.set_cons_succ, i64_w, i32_w]
    rfl
  refine rgp 8 8 ?_
  refine rgp 9 17 ?_
  refine rgp 10 18 ?_
  refine rgp 11 6 ?_
  refine rgp 12 7 ?_
  refine done_ (by kernel_rfl) ?_
  clear hHeld c0
  obtain ⟨z0, z1, z2⟩ : v2_.cell? ⟨w.heap.size, 0, none⟩ = some (.int .u32 0) ∧ v2_.cell? ⟨w.heap.size, 1, none⟩ = some (.int .u32 0) ∧ v2_.cell? ⟨w.heap.size, 2, none⟩ = some (.string ⟨#[]⟩) := ⟨blk_cell HT3.out 0, blk_cell HT3.out 1, blk_cell HT3.out 2⟩
  have y0 := blk_frozen HT3.out 0; have y1 := blk_frozen HT3.out 1; have y2 := blk_frozen HT3.out 2
  generalize hp : placeW W i = p at *
  by_cases he : readE d p = 0
  rotate_left
  · have e0 : (readE d p == 0) = false := by simpa using he
    have e1 : (readE d p != 0) = true := by simpa using he
    have HQ := Aside0.mk (show wholeF d p i = none by unfold wholeF; rw [if_pos he])
    clear he
    go_wp2
    have b2 := set_blk (set_blk (set_blk HT3.out 0 (.int .u32 0)) 1 (.int .u32 0)) 2 (.string ⟨#[]⟩)
    refine bodyPost_ret (results_ct rfl _ _ _ _ _ _ _ rfl b2 Try.underlying97 rfl rfl) rfl ⟨?_, ?_⟩
    · rw [hp, HQ.out]; exact ⟨_, _, _, rfl, fun y h => by cases h⟩
    · exact ((HB3.out.setCell (by simp) _).setCell (by simp) _).setCell (by simp) _
  obtain ⟨ue, ui, ub, ur, hu⟩ : ∃ a b c e, X12.unpackF (readS d p) = (a, b, c, e) := ⟨_, _, _, _, rfl⟩
  have hl := unpack_lt (readS d p)
  have hbs := body_le (readS d p)
  rw [hu] at hl hbs
  simp only at hl hbs
  have HU := Aside0.mk hu; have HBS := Aside0.mk hbs
  have hcv : wrap64 ui = ui := by unfold wrap64; omega
  have e0 : (readE d p == 0) = true := by simpa using he
  have e1 : (readE d p != 0) = false := by simpa using he
  have HWF := Aside0.mk (show wholeF d p i = if ur = 0 ∧ ui = i ∧ ub ≠ ⟨#[]⟩ ∧ allE ub = 0 then some (ue, ub) else none by unfold wholeF; rw [if_neg (by simp [he]), hu])
  clear hl hbs hu he
  by_cases a1 : ur = 0
  rotate_left
  · have HQ := Aside0.mk (show wholeF d p i = none by rw [HWF.out, if_neg (fun z => a1 z.1)])
    have b1 : (ur == 0) = false := by simpa using a1
    have b1n : (ur != 0) = true := by simpa using a1
    clear a1
    go_wp2_with (go_at_call 72; (with_reducible refine (X12.unpack_calls (readS d p) _).mono ?_); rintro e w3 ⟨rfl, hb3⟩; rw [HU.out]; have HT4 := Aside0.mk ((hb3.block w.heap.size (blk_lt HT3.out)).trans HT3.out); have HB4 := Aside0.mk (Arr.below_trans HB3.out hb3); clear hb3 z0 z1 z2 y0 y1 y2; obtain ⟨z0, z1, z2⟩ : w3.cell? ⟨w.heap.size, 0, none⟩ = some (.int .u32 0) ∧ w3.cell? ⟨w.heap.size, 1, none⟩ = some (.int .u32 0) ∧ w3.cell? ⟨w.heap.size, 2, none⟩ = some (.string ⟨#[]⟩) := ⟨blk_cell HT4.out 0, blk_cell HT4.out 1, blk_cell HT4.out 2⟩; have y0 := blk_frozen HT4.out 0; have y1 := blk_frozen HT4.out 1; have y2 := blk_frozen HT4.out 2)
    have b2 := set_blk (set_blk (set_blk (set_blk (set_blk (set_blk HT4.out 0 (.int .u32 ue)) 1 (.int .u32 ui)) 2 (.string ub)) 0 (.int .u32 ue)) 1 (.int .u32 ui)) 2 (.string ub)
    refine bodyPost_ret (results_ct rfl _ _ _ _ _ _ _ rfl b2 Try.underlying97 rfl rfl) rfl ⟨?_, ?_⟩
    · rw [hp, HQ.out]; exact ⟨_, _, _, rfl, fun y h => by cases h⟩
    · exact (((((HB4.out.setCell (by simp) _).setCell (by simp) _).setCell (by simp) _).setCell (by simp) _).setCell (by simp) _).setCell (by simp) _
  have b1 : (ur == 0) = true := by simpa using a1
  have b1n : (ur != 0) = false := by simpa using a1
  by_cases a2 : ui = i
  rotate_left
  · have HQ := Aside0.mk (show wholeF d p i = none by rw [HWF.out, if_neg (fun z => a2 z.2.1)])
    have b2 : (ui == i) = false := by simpa using a2
    have b2n : (ui != i) = true := by simpa using a2
    clear a1 a2
    go_wp2_with (go_at_call 72; (with_reducible refine (X12.unpack_calls (readS d p) _).mono ?_); rintro e w3 ⟨rfl, hb3⟩; rw [HU.out]; have HT4 := Aside0.mk ((hb3.block w.heap.size (blk_lt HT3.out)).trans HT3.out); have HB4 := Aside0.mk (Arr.below_trans HB3.out hb3); clear hb3 z0 z1 z2 y0 y1 y2; obtain ⟨z0, z1, z2⟩ : w3.cell? ⟨w.heap.size, 0, none⟩ = some (.int .u32 0) ∧ w3.cell? ⟨w.heap.size, 1, none⟩ = some (.int .u32 0) ∧ w3.cell? ⟨w.heap.size, 2, none⟩ = some (.string ⟨#[]⟩) := ⟨blk_cell HT4.out 0, blk_cell HT4.out 1, blk_cell HT4.out 2⟩; have y0 := blk_frozen HT4.out 0; have y1 := blk_frozen HT4.out 1; have y2 := blk_frozen HT4.out 2)
    have b2 := set_blk (set_blk (set_blk (set_blk (set_blk (set_blk HT4.out 0 (.int .u32 ue)) 1 (.int .u32 ui)) 2 (.string ub)) 0 (.int .u32 ue)) 1 (.int .u32 ui)) 2 (.string ub)
    refine bodyPost_ret (results_ct rfl _ _ _ _ _ _ _ rfl b2 Try.underlying97 rfl rfl) rfl ⟨?_, ?_⟩
    · rw [hp, HQ.out]; exact ⟨_, _, _, rfl, fun y h => by cases h⟩
    · exact (((((HB4.out.setCell (by simp) _).setCell (by simp) _).setCell (by simp) _).setCell (by simp) _).setCell (by simp) _).setCell (by simp) _
  subst ui
  have b2 : (i == i) = true := by simp
  have b2n : (i != i) = false := by simp
  by_cases a3 : ub = ⟨#[]⟩
  · have HQ := Aside0.mk (show wholeF d p i = none by rw [HWF.out, if_neg (fun z => z.2.2.1 a3)])
    have b3 : ub.toList.isEmpty = true := by rw [empty_iff, decide_eq_true a3]
    clear a1 a3
    go_wp2_with (go_at_call 72; (with_reducible refine (X12.unpack_calls (readS d p) _).mono ?_); rintro e w3 ⟨rfl, hb3⟩; rw [HU.out]; have HT4 := Aside0.mk ((hb3.block w.heap.size (blk_lt HT3.out)).trans HT3.out); have HB4 := Aside0.mk (Arr.below_trans HB3.out hb3); clear hb3 z0 z1 z2 y0 y1 y2; obtain ⟨z0, z1, z2⟩ : w3.cell? ⟨w.heap.size, 0, none⟩ = some (.int .u32 0) ∧ w3.cell? ⟨w.heap.size, 1, none⟩ = some (.int .u32 0) ∧ w3.cell? ⟨w.heap.size, 2, none⟩ = some (.string ⟨#[]⟩) := ⟨blk_cell HT4.out 0, blk_cell HT4.out 1, blk_cell HT4.out 2⟩; have y0 := blk_frozen HT4.out 0; have y1 := blk_frozen HT4.out 1; have y2 := blk_frozen HT4.out 2)
    have b2 := set_blk (set_blk (set_blk (set_blk (set_blk (set_blk HT4.out 0 (.int .u32 ue)) 1 (.int .u32 i)) 2 (.string ub)) 0 (.int .u32 ue)) 1 (.int .u32 i)) 2 (.string ub)
    refine bodyPost_ret (results_ct rfl _ _ _ _ _ _ _ rfl b2 Try.underlying97 rfl rfl) rfl ⟨?_, ?_⟩
    · rw [hp, HQ.out]; exact ⟨_, _, _, rfl, fun y h => by cases h⟩
    · exact (((((HB4.out.setCell (by simp) _).setCell (by simp) _).setCell (by simp) _).setCell (by simp) _).setCell (by simp) _).setCell (by simp) _
  have b3 : ub.toList.isEmpty = false := by rw [empty_iff, decide_eq_false a3]
  go_upto_region 7 with (go_at_call 72; (with_reducible refine (X12.unpack_calls (readS d p) _).mono ?_); rintro e w3 ⟨rfl, hb3⟩; rw [HU.out]; have HT4 := Aside0.mk ((hb3.block w.heap.size (blk_lt HT3.out)).trans HT3.out); have HB4 := Aside0.mk (Arr.below_trans HB3.out hb3); clear hb3 z0 z1 z2 y0 y1 y2; obtain ⟨z0, z1, z2⟩ : w3.cell? ⟨w.heap.size, 0, none⟩ = some (.int .u32 0) ∧ w3.cell? ⟨w.heap.size, 1, none⟩ = some (.int .u32 0) ∧ w3.cell? ⟨w.heap.size, 2, none⟩ = some (.string ⟨#[]⟩) := ⟨blk_cell HT4.out 0, blk_cell HT4.out 1, blk_cell HT4.out 2⟩; have y0 := blk_frozen HT4.out 0; have y1 := blk_frozen HT4.out 1; have y2 := blk_frozen HT4.out 2)
  have hT5 := set_blk (set_blk (set_blk HT4.out 0 (.int .u32 ue)) 1 (.int .u32 i)) 2 (.string ub)
  have hB5 := ((HB4.out.setCell (p := ⟨w.heap.size, 0, none⟩) (by simp) (.int .u32 ue)).setCell (p := ⟨w.heap.size, 1, none⟩) (by simp) (.int .u32 i)).setCell (p := ⟨w.heap.size, 2, none⟩) (by simp) (.string ub)
  generalize ((w3.setCell ⟨w.heap.size, 0, none⟩ (.int .u32 ue)).setCell ⟨w.heap.size, 1, none⟩ (.int .u32 i)).setCell ⟨w.heap.size, 2, none⟩ (.string ub) = w5 at *
  have HT5 := Aside0.mk (show w5.heap[w.heap.size]? = some (.cells #[.int .u32 ue, .int .u32 i, .string ub] 97 (0, 0)) from hT5); have HB5 := Aside0.mk hB5
  clear hT5 hB5 z0 z1 z2 y0 y1 y2 HT4 HB4
  obtain ⟨z0, z1, z2⟩ : w5.cell? ⟨w.heap.size, 0, none⟩ = some (.int .u32 ue) ∧ w5.cell? ⟨w.heap.size, 1, none⟩ = some (.int .u32 i) ∧ w5.cell? ⟨w.heap.size, 2, none⟩ = some (.string ub) := ⟨blk_cell HT5.out 0, blk_cell HT5.out 1, blk_cell HT5.out 2⟩; have y0 := blk_frozen HT5.out 0; have y1 := blk_frozen HT5.out 1; have y2 := blk_frozen HT5.out 2
  have HQ := Aside0.mk (show wholeF d p i = if allE ub = 0 then some (ue, ub) else none by
    rw [HWF.out]
    by_cases h : allE ub = 0
    · rw [if_pos (by first | exact ⟨a1, rfl, a3, h⟩ | exact ⟨a1, trivial, a3, h⟩), if_pos h]
    · rw [if_neg (fun z => h z.2.2.2), if_neg h])
  have hcase : (allE ub = 0 ∧ (allE ub == 0) = true) ∨ (allE ub ≠ 0 ∧ (allE ub == 0) = false) := by
    by_cases h : allE ub = 0
    · exact .inl ⟨h, by simpa using h⟩
    · exact .inr ⟨h, by simpa using h⟩
  clear a1 a3
  go_upto_region 8 with (go_at_call 73; (with_reducible refine (all_calls ub (by have := HBS.out; omega) _).mono ?_); rintro e w6 ⟨v, rfl, hv, hb3⟩; have HT6 := Aside0.mk ((hb3.block w.heap.size (blk_lt HT5.out)).trans HT5.out); have HB6 := Aside0.mk (Arr.below_trans HB5.out hb3); clear hb3 hv z0 z1 z2 y0 y1 y2; obtain ⟨z0, z1, z2⟩ : w6.cell? ⟨w.heap.size, 0, none⟩ = some (.int .u32 ue) ∧ w6.cell? ⟨w.heap.size, 1, none⟩ = some (.int .u32 i) ∧ w6.cell? ⟨w.heap.size, 2, none⟩ = some (.string ub) := ⟨blk_cell HT6.out 0, blk_cell HT6.out 1, blk_cell HT6.out 2⟩; have y0 := blk_frozen HT6.out 0; have y1 := blk_frozen HT6.out 1; have y2 := blk_frozen HT6.out 2)
  have b2' := set_blk (set_blk (set_blk HT6.out 0 (.int .u32 ue)) 1 (.int .u32 i)) 2 (.string ub)
  rcases hcase with ⟨h, h1⟩ | ⟨h, h1⟩
  all_goals
    have HH := Aside0.mk h
    clear h
    go_wp2
    refine bodyPost_ret (results_ct rfl _ _ _ _ _ _ _ rfl b2' Try.underlying97 rfl rfl) rfl ⟨?_, ?_⟩
    rotate_left
    · exact ((HB6.out.setCell (by simp) _).setCell (by simp) _).setCell (by simp) _
  · rw [hp, HQ.out, if_pos HH.out]; exact ⟨_, _, _, rfl, fun y h => by injection h with h; subst h; exact ⟨rfl, rfl⟩⟩
  · rw [hp, HQ.out, if_neg HH.out]; exact ⟨_, _, _, rfl, fun y h => by cases h⟩
end
end Go.Proofs.Ytbnglmeljbiglaa.Wl
