import Derived.WalkMore
import Derived.Laws.CopyRow
import Derived.Test.YtbnglmeljbiglaaQHZ0
import Derived.Test.YtbnglmeljbiglaaQHZ1
import Derived.Test.YtbnglmeljbiglaaQHZ2
import Derived.Test.YtbnglmeljbiglaaQHZ3
import Derived.Test.YtbnglmeljbiglaaQHZ4
import Derived.Test.YtbnglmeljbiglaaQHZ5
import Derived.Test.YtbnglmeljbiglaaQHZ6
import Derived.Test.YtbnglmeljbiglaaQHZ7
import Derived.Test.YtbnglmeljbiglaaQHZ8
import Derived.Test.YtbnglmeljbiglaaQHZ9
import Derived.Test.YtbnglmeljbiglaaQHZ10
import Derived.Test.YtbnglmeljbiglaaQHZ11
import Derived.Test.YtbnglmeljbiglaaQHZ12
import Derived.Test.YtbnglmeljbiglaaQHZ13
set_option maxRecDepth 8192
namespace Go.Proofs.Ytbnglmeljbiglaa.Pt
open Go Go.RowKit Go.Proofs.YtbnglmeljbiglaaW.PrintWords Go.Proofs.Ytbnglmeljbiglaa.X4 Go.Proofs.Ytbnglmeljbiglaa.X4b Go.Proofs.Ytbnglmeljbiglaa.Rp Go.Proofs.Ytbnglmeljbiglaa.Wr
set_option linter.unusedVariables false
set_option linter.unusedSimpArgs false
abbrev few (r : S37) : Prop := r.f7.size ≤ 300 ∧ r.f8.size ≤ 300 ∧ r.f9.length ≤ 50 ∧ r.f10.length ≤ 50
theorem few_f (r : S37) : X4b.careenref04_Few.f r.f0 r.f1 r.f2 r.f3 r.f4 r.f5 r.f6 r.f7 r.f8 r.f9 r.f10 = some (decide (few r)) := by
  unfold X4b.careenref04_Few.f
  by_cases h1 : r.f7.size ≤ 300
  · rw [if_pos (by omega)]
    by_cases h2 : r.f8.size ≤ 300
    · rw [if_pos (by omega)]
      by_cases h3 : r.f9.length ≤ 50
      · rw [if_pos (by omega)]
        congr 1
        rw [decide_eq_decide]
        omega
      · rw [if_neg (by omega)]; congr 1; symm; rw [decide_eq_false_iff_not]; omega
    · rw [if_neg (by omega)]; congr 1; symm; rw [decide_eq_false_iff_not]; omega
  · rw [if_neg (by omega)]; congr 1; symm; rw [decide_eq_false_iff_not]; omega
end Go.Proofs.Ytbnglmeljbiglaa.Pt
set_option maxRecDepth 8192
namespace Go.Proofs.Ytbnglmeljbiglaa.Ptb
open Go.Proofs.Ytbnglmeljbiglaa.Pt Go Go.RowKit Go.Proofs.YtbnglmeljbiglaaW.PrintWords Go.Proofs.Ytbnglmeljbiglaa.X4 Go.Proofs.Ytbnglmeljbiglaa.Rp Go.Proofs.Ytbnglmeljbiglaa.Wr
set_option linter.unusedVariables false
set_option linter.unusedSimpArgs false
instance decE : DecidableEq S44 := fun a b => if h : a.f0 = b.f0 ∧ a.f1 = b.f1 then isTrue (by cases a; cases b; simp_all) else isFalse (fun e => h (by subst e; simp))
/-- The records of a body, from a place on. -/
def allL (s : ByteArray) : Nat → Int → Option (List S44)
  | 0, _ => none
  | n + 1, p => if p < (s.size : Int) then (if (readF s p).2.2 = 0 then (allL s n (readF s p).2.1).map (⟨p, (readF s p).1⟩ :: ·) else none) else some []
def allF (s : ByteArray) : Option (List S44) := allL s (s.size + 1) 0
def okE (e : S44) : Prop := mayB e.f1 = true
theorem allL_ok {s : ByteArray} : ∀ (n : Nat) (p : Int) (l : List S44), allL s n p = some l → ∀ e ∈ l, okE e := by
  intro n
  induction n with
  | zero => intro p l h; cases h
  | succ n ih =>
    intro p l h
    unfold allL at h
    split at h
    · split at h
      · rename_i c e
        obtain ⟨t, ht, rfl⟩ := Option.map_eq_some_iff.1 h
        intro x hx
        rcases List.mem_cons.1 hx with rfl | hx
        · obtain ⟨bs, q, -, hb, ho, -⟩ := read_some e
          exact (may_iff _).2 ⟨⟨bs, hb⟩, ho⟩
        · exact ih _ _ ht x hx
      · cases h
    · injection h with h; subst h; intro x hx; cases hx
def outA (o : Option (List S44)) (acc : List S44) : List S44 × Int := match o with | some l => (acc ++ l, 0) | none => ([], 3)
theorem outA_cons (o : Option (List S44)) (acc : List S44) (x : S44) : outA (o.map (x :: ·)) acc = outA o (acc ++ [x]) := by cases o <;> simp [outA]
theorem all_l0 (s : ByteArray) (hs : s.size ≤ 1000000) : ∀ (d n k : Nat) (p : Int) (acc : List S44), 0 ≤ p → (s.size : Int) - p ≤ d → d < n → d < k → (acc.length : Int) ≤ p → X4b.record_All.l0 k s acc p = some (outA (allL s n p) acc) := by
  intro d
  induction d with
  | zero =>
    intro n k p acc hp hd hn hk ha
    obtain ⟨n, rfl⟩ : ∃ q, n = q + 1 := ⟨n - 1, by omega⟩
    obtain ⟨k, rfl⟩ : ∃ q, k = q + 1 := ⟨k - 1, by omega⟩
    unfold X4b.record_All.l0 allL
    rw [if_neg (by omega), if_neg (by omega)]
    simp [outA]
  | succ d ih =>
    intro n k p acc hp hd hn hk ha
    obtain ⟨n, rfl⟩ : ∃ q, n = q + 1 := ⟨n - 1, by omega⟩
    obtain ⟨k, rfl⟩ : ∃ q, k = q + 1 := ⟨k - 1, by omega⟩
    unfold X4b.record_All.l0 allL
    by_cases c : p < (s.size : Int)
    · rw [if_pos c, if_pos c, read_f hs]
      simp only [Option.bind_some]
      by_cases e : (readF s p).2.2 = 0
      · rw [if_pos e, if_pos e, if_pos (by omega)]
        obtain ⟨bs, q, p0, -, -, -, -, hn2, hs2, hl⟩ := read_some e
        rw [ih n k _ _ (by omega) (by omega) (by omega) (by omega) (by simp; omega), outA_cons]
      · rw [if_neg e, if_neg e]; rfl
    · rw [if_neg c, if_neg c]; simp [outA]
theorem all_f (s : ByteArray) (hs : s.size ≤ 1000000) (k : Nat) (hk : s.size < k) : X4b.record_All.f k s = some (outA (allF s) []) := by
  unfold X4b.record_All.f allF
  exact all_l0 s hs s.size _ k 0 [] (by omega) (by omega) (by omega) hk (by simp)
end Go.Proofs.Ytbnglmeljbiglaa.Ptb
set_option maxRecDepth 8192
namespace Go.Proofs.Ytbnglmeljbiglaa.Ptb
open Go.Proofs.Ytbnglmeljbiglaa.Pt Go Go.RowKit Go.Proofs.YtbnglmeljbiglaaW.PrintWords Go.Proofs.Ytbnglmeljbiglaa.X4 Go.Proofs.Ytbnglmeljbiglaa.Rp Go.Proofs.Ytbnglmeljbiglaa.Wr
set_option linter.unusedVariables false
set_option linter.unusedSimpArgs false
/-- A record's bytes, or none. -/
def prB (r : S37) : List UInt8 := if mayB r = true then (recP r).getD [] else []
def bytesW : List S37 → List UInt8
  | [] => []
  | r :: t => prB r ++ bytesW t
def wantW : Nat → List S37 → List S44
  | _, [] => []
  | off, r :: t => (if mayB r = true then [⟨(off : Int), r⟩] else []) ++ wantW (off + (prB r).length) t
theorem bytes_append (a b : List S37) : bytesW (a ++ b) = bytesW a ++ bytesW b := by
  induction a with
  | nil => rfl
  | cons x t ih => rw [List.cons_append, bytesW, bytesW, ih, List.append_assoc]
theorem want_append (a b : List S37) (off : Nat) : wantW off (a ++ b) = wantW off a ++ wantW (off + (bytesW a).length) b := by
  induction a generalizing off with
  | nil => simp [wantW, bytesW]
  | cons x t ih => simp only [List.cons_append, wantW, bytesW, ih, List.append_assoc, List.length_append, Nat.add_assoc]
theorem prB_may {r : S37} {bs : List UInt8} (h : recP r = some bs) (hm : mayB r = true) : prB r = bs := by unfold prB; rw [if_pos hm, h]; rfl
theorem prB_not {r : S37} (hm : mayB r = false) : prB r = [] := by unfold prB; rw [if_neg (by rw [hm]; decide)]
theorem prB_le (r : S37) : (prB r).length ≤ 112 := by
  rcases print_may (r := r) with ⟨bs, hb, ho, hp, hm⟩ | ⟨hp, hm⟩
  · rw [prB_may hb hm]; exact (rec_len hb).2.1
  · rw [prB_not hm]; exact Nat.zero_le _
/-- All of them are told. -/
theorem all_row (s : ByteArray) : ∀ (l : List S37) (p n : Nat), At s p (bytesW l) → p + (bytesW l).length = s.size → (bytesW l).length < n → allL s n (p : Int) = some (wantW p l) := by
  intro l
  induction l with
  | nil =>
    intro p n ha hp hn
    obtain ⟨n, rfl⟩ : ∃ q, n = q + 1 := ⟨n - 1, by omega⟩
    unfold allL
    simp only [bytesW, List.length_nil] at hp
    rw [if_neg (by omega)]
    rfl
  | cons r t ih =>
    intro p n ha hp hn
    rcases print_may (r := r) with ⟨bs, hb, ho, hpr, hm⟩ | ⟨hpr, hm⟩
    · have e := prB_may hb hm
      simp only [bytesW, wantW, e, hm, if_true, List.length_append] at ha hp hn ⊢
      obtain ⟨a1, a2⟩ := at_append.1 ha
      have l3 := (rec_len hb).2.2
      obtain ⟨n, rfl⟩ : ∃ q, n = q + 1 := ⟨n - 1, by omega⟩
      unfold allL
      rw [if_pos (by omega), read_of_at hb ho a1]
      simp only
      rw [if_pos trivial, ih (p + bs.length) n a2 (by omega) (by omega)]
      rfl
    · have e := prB_not hm
      simp only [bytesW, wantW, e, hm, List.nil_append, List.length_nil, Nat.add_zero] at ha hp hn ⊢
      rw [if_neg (by decide), List.nil_append]
      exact ih p n ha hp hn
theorem all_rows (l : List S37) : allF (B (bytesW l)) = some (wantW 0 l) := by
  unfold allF
  exact all_row (B (bytesW l)) l 0 _ ⟨by rw [B_size]; omega, by rw [B_list]; simp⟩ (by rw [B_size]; omega) (by rw [B_size]; omega)
end Go.Proofs.Ytbnglmeljbiglaa.Ptb
set_option maxRecDepth 8192
namespace Go.Proofs.Ytbnglmeljbiglaa.Wl
open Go.Proofs.Ytbnglmeljbiglaa.Rgn
open Go.Proofs.Ytbnglmeljbiglaa.X4 Go.Proofs.Ytbnglmeljbiglaa.Pt Go.Proofs.Ytbnglmeljbiglaa.Ptb Go Go.RowKit Go.ChangeMaps Go.Proofs.Ytbnglmeljbiglaa.Arr Go.Proofs.Ytbnglmeljbiglaa.Mp Go.Proofs.Ytbnglmeljbiglaa.Ow Go.Proofs.Ytbnglmeljbiglaa.Dk Go.Proofs.Ytbnglmeljbiglaa.Fr Go.Proofs.YtbnglmeljbiglaaW.PrintWords Go.Proofs.YtbnglmeljbiglaaW.PrintLast Go.Proofs.YtbnglmeljbiglaaW.PrintMore
set_option linter.unusedVariables false
set_option linter.unusedSimpArgs false
/-- The records of a body. -/
def allS (s : ByteArray) : List S44 := (allF s).getD []
def allE (s : ByteArray) : Int := if (allF s).isSome = true then 0 else 3
theorem all_calls (s : ByteArray) (hs : s.size ≤ 1000000) (w : World) : Calls Try.prog 73 #[.string s] w fun e w' => ∃ v : Value, e = .returned (.tuple #[v, .int .i64 (allE s)]) ∧ Kd.S X4.k44 44 w' w.heap.size (fun _ => True) v (allS s) ∧ Below w.heap.size w w' := by
  have h := all_f s hs (s.size + 1) (by omega)
  refine X4b.record_All.calls (s.size + 1) s (allS s) (allE s) w ?_
  rw [h]
  unfold outA allS allE
  cases allF s with
  | none => rfl
  | some l => rfl
section
variable {w : World} {c : Nat → Nat} {gl m g N : Nat} {W : WS} {d : DS}
end
end Go.Proofs.Ytbnglmeljbiglaa.Wl
set_option maxRecDepth 8192
namespace Go.Proofs.Ytbnglmeljbiglaa.Wl
open Go.Proofs.Ytbnglmeljbiglaa.Rgn
open Go.Proofs.Ytbnglmeljbiglaa.X4 Go.Proofs.Ytbnglmeljbiglaa.Pt Go.Proofs.Ytbnglmeljbiglaa.Ptb Go Go.RowKit Go.ChangeMaps Go.Proofs.Ytbnglmeljbiglaa.Arr Go.Proofs.Ytbnglmeljbiglaa.Mp Go.Proofs.Ytbnglmeljbiglaa.Ow Go.Proofs.Ytbnglmeljbiglaa.Dk Go.Proofs.Ytbnglmeljbiglaa.Fr Go.Proofs.YtbnglmeljbiglaaW.PrintWords Go.Proofs.YtbnglmeljbiglaaW.PrintLast Go.Proofs.YtbnglmeljbiglaaW.PrintMore
set_option linter.unusedVariables false
set_option linter.unusedSimpArgs false
/-- The sector that a record of so many bytes goes to; what stands there. -/
def goesW (W : WS) (k : Nat) : Int × ByteArray := if bdy W W.op ≠ ⟨#[]⟩ ∧ 112 < (bdy W W.op).size + k then (W.op + 1, ⟨#[]⟩) else (W.op, bdy W W.op)
def fill (f : Int → Option ByteArray) (i : Int) (b : ByteArray) : Int → Option ByteArray := fun j => if j = i then some b else f j
/-- What Append does with a record's bytes: the place, the error, the log. -/
def appW (W : WS) (s : ByteArray) : Int × Int × WS :=
  if (goesW W s.size).2 = ⟨#[]⟩ ∧ W.low + W.n ≤ (goesW W s.size).1 then (0, 5, W)
  else ((goesW W s.size).1 * 128 + ((goesW W s.size).2.size : Int), 0, { W with op := (goesW W s.size).1, f := fill W.f (goesW W s.size).1 ((goesW W s.size).2 ++ s) })
/-- What Append does. -/
def appendW (W : WS) (r : S37) : Int × Int × WS := if (Rp.printF r).2 ≠ 0 then (0, 1, W) else appW W (Rp.printF r).1
theorem print_le (r : S37) : (Rp.printF r).1.size ≤ 112 := by
  rcases print_may (r := r) with ⟨bs, hb, ho, hp, hm⟩ | ⟨hp, hm⟩
  · rw [hp]
    show (B bs).size ≤ 112
    have := (rec_len hb).2.1
    rw [← X12.bl_len]
    show (B bs).data.toList.length ≤ 112
    rw [B_list]; exact this
  · rw [hp]; show (0 : Nat) ≤ 112; omega
section
variable {w : World} {c : Nat → Nat} {gl m g N : Nat} {W : WS}
theorem append_nil (v : Value) (hv : ∃ (r : S37) (A9 : Option Addr) (c9 : Nat) (A10 : Option Addr) (c10 : Nat), v = .agg #[.int .i64 r.f0, .int .i64 r.f1, .int .i64 r.f2, .int .i64 r.f3, .int .i64 r.f4, .int .i64 r.f5, .int .i64 r.f6, .string r.f7, .string r.f8, .slice A9 r.f9.length c9, .slice A10 r.f10.length c10]) (w : World) : Calls Try.prog 15 #[.pointer none, v] w fun e w' => e = .returned (.tuple #[.int .i64 0, .int .i64 10]) ∧ Below w.heap.size w w' := by
  obtain ⟨r, A9, c9, A10, c10, rfl⟩ := hv
  have HB := Aside0.mk ((Below.refl w.heap.size w).alloc (Nat.le_refl _) (.cells #[.int .i64 r.f0, .int .i64 r.f1, .int .i64 r.f2, .int .i64 r.f3, .int .i64 r.f4, .int .i64 r.f5, .int .i64 r.f6, .string r.f7, .string r.f8, .slice A9 r.f9.length c9, .slice A10 r.f10.length c10] 37))
  go_enter Try.func15, Try.ntmps15
  go_wp2
  go_ret2
  exact ⟨rfl, HB.out⟩
set_option maxHeartbeats 16000000 in
theorem append_calls (h : LO w c gl m g W) (F : Fit W) (hbd : (bdy W W.op).size ≤ 1000) (r : S37) (A9 : Option Addr) (c9 : Nat) (A10 : Option Addr) (c10 : Nat) (h9 : Kd.C k107 w A9 r.f9.length r.f9) (l9 : r.f9.length ≤ c9) (h10 : Kd.C k109 w A10 r.f10.length r.f10) (l10 : r.f10.length ≤ c10) (hz : r.f8.size ≤ 1000000) :
    Calls Try.prog 15 #[.pointer (some ⟨gl, 0, none⟩), .agg #[.int .i64 r.f0, .int .i64 r.f1, .int .i64 r.f2, .int .i64 r.f3, .int .i64 r.f4, .int .i64 r.f5, .int .i64 r.f6, .string r.f7, .string r.f8, .slice A9 r.f9.length c9, .slice A10 r.f10.length c10]] w fun e w' => e = .returned (.tuple #[.int .i64 (appendW W r).1, .int .i64 (appendW W r).2.1]) ∧ Fr [3] w c w' c ∧ LO w' c gl m g (appendW W r).2.2 := by
  have HL := Aside0.mk h; have HF := Aside0.mk F
  have H9 := Aside0.mk h9; have H10 := Aside0.mk h10; have HZ := Aside0.mk hz; have L9 := Aside0.mk l9; have L10 := Aside0.mk l10
  have HBD := Aside0.mk hbd
  have G := Aside0.mk (Below.refl w.heap.size w)
  clear h F h9 l9 h10 l10 hz hbd
  have FR := Aside0.mk (Fr.refl [3] w c)
  go_enter Try.func15, Try.ntmps15
  go_upto_region 1 with (fail)
  have hba := (Below.refl w.heap.size w).alloc (Nat.le_refl _) (.cells #[.int .i64 r.f0, .int .i64 r.f1, .int .i64 r.f2, .int .i64 r.f3, .int .i64 r.f4, .int .i64 r.f5, .int .i64 r.f6, .string r.f7, .string r.f8, .slice A9 r.f9.length c9, .slice A10 r.f10.length c10] 37)
  have HT := Aside0.mk (heap_alloc_new w (.cells #[.int .i64 r.f0, .int .i64 r.f1, .int .i64 r.f2, .int .i64 r.f3, .int .i64 r.f4, .int .i64 r.f5, .int .i64 r.f6, .string r.f7, .string r.f8, .slice A9 r.f9.length c9, .slice A10 r.f10.length c10] 37))
  have HL1 := Aside0.mk (HL.out.below hba); have FR1 := Aside0.mk (FR.out.trans (Fr.of_below (M := [3]) hba)); have G1 := Aside0.mk hba
  clear hba HL FR G
  generalize w.alloc (.cells #[.int .i64 r.f0, .int .i64 r.f1, .int .i64 r.f2, .int .i64 r.f3, .int .i64 r.f4, .int .i64 r.f5, .int .i64 r.f6, .string r.f7, .string r.f8, .slice A9 r.f9.length c9, .slice A10 r.f10.length c10] 37) = w0 at *
  have H9b := Aside0.mk (Kd.C_below H9.out G1.out); have H10b := Aside0.mk (Kd.C_below H10.out G1.out)
  obtain ⟨a0, a1, a2, a3, a4, a5, a6, a7, a8, a9, a10⟩ := cells11 w0 (w.heap.size) HT.out
  go_upto_region 4 with (go_at_call 46; (with_reducible refine (Wr.print_calls r A9 c9 A10 c10 _ H9b.out L9.out H10b.out L10.out HZ.out).mono ?_); rintro e w1 ⟨rfl, hb1⟩; have HL2 := Aside0.mk (HL1.out.below hb1); have FR2 := Aside0.mk (FR1.out.trans (Fr.of_below (M := [3]) hb1)); clear hb1 HL1 FR1)
  clear a0 a1 a2 a3 a4 a5 a6 a7 a8 a9 a10 HT H9b H10b G1
  obtain ⟨s, pe, hs⟩ : ∃ s pe, Rp.printF r = (s, pe) := ⟨_, _, rfl⟩
  have HS := Aside0.mk hs
  have hsl := print_le r
  rw [hs] at hsl ⊢
  have HSL := Aside0.mk (show s.size ≤ 112 from hsl)
  clear hsl hs
  by_cases hpe : pe = 0
  rotate_left
  · have e1 : (pe != 0) = true := by simpa using hpe
    have e0 : (pe == 0) = false := by simpa using hpe
    have HA := Aside0.mk (show appendW W r = (0, 1, W) by unfold appendW; rw [HS.out, if_pos hpe])
    clear hpe
    go_wp2
    go_ret2
    exact ⟨by rw [HA.out]; rfl, FR2.out, by rw [HA.out]; exact HL2.out⟩
  subst hpe
  have HA := Aside0.mk (show appendW W r = appW W s by unfold appendW; rw [HS.out, if_neg (fun h => h rfl)])
  go_upto_region 6 with (fail)
  have HL3 := Aside0.mk HL2.out.drew; have FR3 := Aside0.mk (FR2.out.trans (fr_drew [3] w1 c))
  clear HL2 FR2
  have c5 := HL3.out.c5; have c7 := HL3.out.c7
  refine start_ (n := 15) (S := fun w' => w'.cell? ⟨gl, 5, none⟩ = some (.int .i64 W.op) ∧ w'.cell? ⟨gl, 7, none⟩ = some (.map (some m))) (ds := []) #[false, false, false, false, false, false, false, false, false, false, false, false, false, false, false] (by kernel_rfl) rfl rfl ⟨c5, c7⟩ (fun hHeld => ?_)
  refine rgp 0 18 ?_
  refine rgp 1 19 ?_
  refine rgp 2 20 ?_
  refine rgp 4 22 ?_
  refine rgp 5 23 ?_
  refine rgp 6 24 ?_
  refine rgp 8 26 ?_
  refine rgp 9 27 ?_
  refine rgp 10 28 ?_
  refine rgt 3 21 hHeld ?_
  refine rgp 13 7 ?_
  refine rgt 7 25 hHeld ?_
  refine rgt 11 29 hHeld ?_
  refine one_ (i := 12) (N := some 30) #[true, true, true, true, true, true, true, true, true, true, true, true, true, true, false] rfl rfl (by kernel_rfl) (by decide) (fun K hK => ?_)
  generalize w1.drew = X0_ at *
  have hl := run_lookup0 HL3.out.map W.op
  refine value_ (w1 := ?_) (v := ?_) (by kernel_rfl) rfl ?_ ?_
  rotate_left 2
  · go_simp
    constructor
    · rfl
    · rfl
  refine hK _ _ hHeld (fun hHeld => ?_)
  clear hK K hl
  refine norm_ (a' := ?_) ?_ ?_
  rotate_left
  · show Act.put _ (some 30) _ = _
    simp only [Act.put, List.setIfInBounds_toArray, List.set_cons_zero, List.set_cons_succ, i64_w, i32_w]
    rfl
  refine rgp 14 8 ?_
  refine done_ (by kernel_rfl) ?_
  clear hHeld c5 c7
  generalize hb0 : (W.f W.op).getD ⟨#[]⟩ = b0 at *
  have hbd : b0.size ≤ 1000 := by have := HBD.out; rw [show bdy W W.op = b0 from hb0] at this; exact this
  have HB0 := Aside0.mk (show bdy W W.op = b0 from hb0)
  clear hb0
  have hw1 : wrap64 ((b0.size : Int) + (s.size : Int)) = (b0.size : Int) + (s.size : Int) := by have := HSL.out; unfold wrap64; omega
  have hwo : wrap64 (W.op + 1) = W.op + 1 := by have := HF.out.op; unfold wrap64; omega
  have hwl : wrap64 (W.low + W.n) = W.low + W.n := by have := HF.out.low; have := HF.out.n; unfold wrap64; omega
  have HBDS := Aside0.mk hbd
  clear hbd
  by_cases hem : b0 = ⟨#[]⟩
  · subst hem
    have t0 : (⟨#[]⟩ : ByteArray).toList.isEmpty = true := by rw [empty_iff]; exact decide_eq_true rfl
    go_upto_region 9 with (fail)
    have HL4 := Aside0.mk HL3.out.drew; have FR4 := Aside0.mk (FR3.out.trans (fr_drew [3] X0_ c))
    clear HL3 FR3
    have c2 := HL4.out.c2; have c3 := HL4.out.c3
    refine start_ (n := 15) (S := fun w' => w'.cell? ⟨gl, 2, none⟩ = some (.int .i64 W.n) ∧ w'.cell? ⟨gl, 3, none⟩ = some (.int .i64 W.low)) (ds := []) #[false, false, false, false, false, false, false, false, false, false, false, false, false, false, false] (by kernel_rfl) rfl rfl ⟨c2, c3⟩ (fun hHeld => ?_)
    refine rgp 0 43 ?_
    refine rgp 1 44 ?_
    refine rgp 2 45 ?_
    refine rgp 3 46 ?_
    refine rgp 4 47 ?_
    refine rgp 5 48 ?_
    refine rgp 6 49 ?_
    refine rgp 8 51 ?_
    refine rgp 9 52 ?_
    refine rgp 10 53 ?_
    refine rgt 7 50 hHeld ?_
    refine rgt 11 54 hHeld ?_
    refine rgp 12 55 ?_
    refine rgp 13 56 ?_
    refine rgp 14 57 ?_
    refine done_ (by kernel_rfl) ?_
    clear hHeld c2 c3
    have HGO := Aside0.mk (show goesW W s.size = (W.op, ⟨#[]⟩) from by unfold goesW; rw [HB0.out, if_neg (fun h => h.1 rfl)])
    by_cases hfu : W.low + W.n ≤ W.op
    · have HAP := Aside0.mk (show appW W s = (0, 5, W) by unfold appW; rw [HGO.out, if_pos ⟨rfl, hfu⟩])
      go_wp2
      go_ret2
      exact ⟨by rw [HA.out, HAP.out]; rfl, FR4.out, by rw [HA.out, HAP.out]; exact HL4.out⟩
    · have HAP := Aside0.mk (show appW W s = ((W.op) * 128 + (((⟨#[]⟩ : ByteArray).size : Nat) : Int), 0, { W with op := W.op, f := fill W.f (W.op) ((⟨#[]⟩ : ByteArray) ++ s) }) by unfold appW; rw [HGO.out, if_neg (fun h => hfu h.2)])
      have HWI := Aside0.mk (show wrap64 ((W.op) * 128) = (W.op) * 128 by have := HF.out.op; unfold wrap64; omega)
      have HWJ := Aside0.mk (show wrap64 ((W.op) * 128 + (((⟨#[]⟩ : ByteArray)).size : Int)) = (W.op) * 128 + (((⟨#[]⟩ : ByteArray)).size : Int) by have := HF.out.op; have := HBDS.out; have : (⟨#[]⟩ : ByteArray).size = 0 := rfl; unfold wrap64; omega)
      have hwi := HWI.out; have hwj := HWJ.out
      generalize X0_.drew = X1_ at *
      have c5 := HL4.out.c5; have f5 := HL4.out.fz 5
      have s1 := HL4.out.set 5 (.int .i64 (W.op)) (W' := { W with op := W.op }) rfl rfl
      have c7 := s1.1.c7
      obtain ⟨ob, hrun, hmp⟩ := run_update_mp (P := Try.prog) (t := 84) (k := 3) (e := 9) (by kernel_rfl) (by kernel_rfl) s1.1.map (W.op) ((⟨#[]⟩ : ByteArray) ++ s)
      have s2 := s1.1.turn hmp
      have HL5 := Aside0.mk s2.1; have FR5 := Aside0.mk ((FR4.out.trans s1.2).trans s2.2)
      clear s1 s2 hmp
      have HCT := Aside0.mk (show s.size ≤ 9223372036854775807 by have := HSL.out; omega)
      have hct0 : (9223372036854775807 < s.size) = False := eq_false (by have := HCT.out; omega)
      have hct1 : (9223372036854775807 < ((⟨#[]⟩ : ByteArray)).size + s.size) = False := eq_false (by have := HSL.out; have := HBDS.out; have : (⟨#[]⟩ : ByteArray).size = 0 := rfl; omega)
      go_wp2
      go_ret2
      refine ⟨?_, FR5.out, ?_⟩
      · rw [HA.out, HAP.out]; first | rfl | (simp [HWI.out, HWJ.out]; done) | (simp [HWI.out, HWJ.out, show (⟨#[]⟩ : ByteArray).size = 0 from rfl])
      · rw [HA.out, HAP.out]; exact HL5.out
  have t0 : b0.toList.isEmpty = false := by rw [empty_iff, decide_eq_false hem]
  by_cases hgt : (112 : Int) < (b0.size : Int) + (s.size : Int)
  · have HGE := Aside0.mk (show goesW W s.size = (W.op + 1, ⟨#[]⟩) by unfold goesW; rw [HB0.out, if_pos ⟨hem, by omega⟩])
    go_upto_region 9 with (fail)
    have HL4 := Aside0.mk HL3.out.drew; have FR4 := Aside0.mk (FR3.out.trans (fr_drew [3] X0_ c))
    clear HL3 FR3
    have c2 := HL4.out.c2; have c3 := HL4.out.c3
    refine start_ (n := 15) (S := fun w' => w'.cell? ⟨gl, 2, none⟩ = some (.int .i64 W.n) ∧ w'.cell? ⟨gl, 3, none⟩ = some (.int .i64 W.low)) (ds := []) #[false, false, false, false, false, false, false, false, false, false, false, false, false, false, false] (by kernel_rfl) rfl rfl ⟨c2, c3⟩ (fun hHeld => ?_)
    refine rgp 0 43 ?_
    refine rgp 1 44 ?_
    refine rgp 2 45 ?_
    refine rgp 3 46 ?_
    refine rgp 4 47 ?_
    refine rgp 5 48 ?_
    refine rgp 6 49 ?_
    refine rgp 8 51 ?_
    refine rgp 9 52 ?_
    refine rgp 10 53 ?_
    refine rgt 7 50 hHeld ?_
    refine rgt 11 54 hHeld ?_
    refine rgp 12 55 ?_
    refine rgp 13 56 ?_
    refine rgp 14 57 ?_
    refine done_ (by kernel_rfl) ?_
    clear hHeld c2 c3
    have HGO := Aside0.mk (show goesW W s.size = ((W.op + 1), ⟨#[]⟩) from HGE.out)
    by_cases hfu : W.low + W.n ≤ (W.op + 1)
    · have HAP := Aside0.mk (show appW W s = (0, 5, W) by unfold appW; rw [HGO.out, if_pos ⟨rfl, hfu⟩])
      go_wp2
      go_ret2
      exact ⟨by rw [HA.out, HAP.out]; rfl, FR4.out, by rw [HA.out, HAP.out]; exact HL4.out⟩
    · have HAP := Aside0.mk (show appW W s = (((W.op + 1)) * 128 + (((⟨#[]⟩ : ByteArray).size : Nat) : Int), 0, { W with op := (W.op + 1), f := fill W.f ((W.op + 1)) ((⟨#[]⟩ : ByteArray) ++ s) }) by unfold appW; rw [HGO.out, if_neg (fun h => hfu h.2)])
      have HWI := Aside0.mk (show wrap64 (((W.op + 1)) * 128) = ((W.op + 1)) * 128 by have := HF.out.op; unfold wrap64; omega)
      have HWJ := Aside0.mk (show wrap64 (((W.op + 1)) * 128 + (((⟨#[]⟩ : ByteArray)).size : Int)) = ((W.op + 1)) * 128 + (((⟨#[]⟩ : ByteArray)).size : Int) by have := HF.out.op; have := HBDS.out; have : (⟨#[]⟩ : ByteArray).size = 0 := rfl; unfold wrap64; omega)
      have hwi := HWI.out; have hwj := HWJ.out
      generalize X0_.drew = X1_ at *
      have c5 := HL4.out.c5; have f5 := HL4.out.fz 5
      have s1 := HL4.out.set 5 (.int .i64 ((W.op + 1))) (W' := { W with op := (W.op + 1) }) rfl rfl
      have c7 := s1.1.c7
      obtain ⟨ob, hrun, hmp⟩ := run_update_mp (P := Try.prog) (t := 84) (k := 3) (e := 9) (by kernel_rfl) (by kernel_rfl) s1.1.map ((W.op + 1)) ((⟨#[]⟩ : ByteArray) ++ s)
      have s2 := s1.1.turn hmp
      have HL5 := Aside0.mk s2.1; have FR5 := Aside0.mk ((FR4.out.trans s1.2).trans s2.2)
      clear s1 s2 hmp
      have HCT := Aside0.mk (show s.size ≤ 9223372036854775807 by have := HSL.out; omega)
      have hct0 : (9223372036854775807 < s.size) = False := eq_false (by have := HCT.out; omega)
      have hct1 : (9223372036854775807 < ((⟨#[]⟩ : ByteArray)).size + s.size) = False := eq_false (by have := HSL.out; have := HBDS.out; have : (⟨#[]⟩ : ByteArray).size = 0 := rfl; omega)
      go_wp2
      go_ret2
      refine ⟨?_, FR5.out, ?_⟩
      · rw [HA.out, HAP.out]; first | rfl | (simp [HWI.out, HWJ.out]; done) | (simp [HWI.out, HWJ.out, show (⟨#[]⟩ : ByteArray).size = 0 from rfl])
      · rw [HA.out, HAP.out]; exact HL5.out
  · have HAP := Aside0.mk (show appW W s = (W.op * 128 + (b0.size : Int), 0, { W with op := W.op, f := fill W.f W.op (b0 ++ s) }) by
      have hgo : goesW W s.size = (W.op, b0) := by unfold goesW; rw [HB0.out, if_neg (fun h => hgt (by omega))]
      unfold appW
      rw [hgo, if_neg (fun h => hem h.1)])
    go_upto_region 9 with (fail)
    have HL4 := Aside0.mk HL3.out.drew; have FR4 := Aside0.mk (FR3.out.trans (fr_drew [3] X0_ c))
    clear HL3 FR3
    have c2 := HL4.out.c2; have c3 := HL4.out.c3
    refine start_ (n := 15) (S := fun w' => w'.cell? ⟨gl, 2, none⟩ = some (.int .i64 W.n) ∧ w'.cell? ⟨gl, 3, none⟩ = some (.int .i64 W.low)) (ds := []) #[false, false, false, false, false, false, false, false, false, false, false, false, false, false, false] (by kernel_rfl) rfl rfl ⟨c2, c3⟩ (fun hHeld => ?_)
    refine rgp 0 43 ?_
    refine rgp 1 44 ?_
    refine rgp 2 45 ?_
    refine pure_ (i := 3) (N := some 46) (v := undef) (a' := ?_) #[true, true, true, true, false, false, false, false, false, false, false, false, false, false, false] rfl rfl (by kernel_rfl) (fun _ _ _ h => h) (Or.inr ⟨by rfl, rfl⟩) ?_ ?_
    rotate_left
    · simp only [Act.put, List.setIfInBounds_toArray, List.set_cons_zero, List.set_cons_succ, i64_w, i32_w]
      rfl
    refine pure_ (i := 4) (N := some 47) (v := undef) (a' := ?_) #[true, true, true, true, true, false, false, false, false, false, false, false, false, false, false] rfl rfl (by kernel_rfl) (fun _ _ _ h => h) (Or.inr ⟨by rfl, rfl⟩) ?_ ?_
    rotate_left
    · simp only [Act.put, List.setIfInBounds_toArray, List.set_cons_zero, List.set_cons_succ, i64_w, i32_w]
      rfl
    refine pure_ (i := 5) (N := some 48) (v := undef) (a' := ?_) #[true, true, true, true, true, true, false, false, false, false, false, false, false, false, false] rfl rfl (by kernel_rfl) (fun _ _ _ h => h) (Or.inr ⟨by rfl, rfl⟩) ?_ ?_
    rotate_left
    · simp only [Act.put, List.setIfInBounds_toArray, List.set_cons_zero, List.set_cons_succ, i64_w, i32_w]
      rfl
    refine pure_ (i := 6) (N := some 49) (v := undef) (a' := ?_) #[true, true, true, true, true, true, true, false, false, false, false, false, false, false, false] rfl rfl (by kernel_rfl) (fun _ _ _ h => h) (Or.inr ⟨by rfl, rfl⟩) ?_ ?_
    rotate_left
    · simp only [Act.put, List.setIfInBounds_toArray, List.set_cons_zero, List.set_cons_succ, i64_w, i32_w]
      rfl
    refine pure_ (i := 7) (N := some 50) (v := undef) (a' := ?_) #[true, true, true, true, true, true, true, true, false, false, false, false, false, false, false] rfl rfl (by kernel_rfl) (fun _ _ _ h => h) (Or.inr ⟨by rfl, rfl⟩) ?_ ?_
    rotate_left
    · simp only [Act.put, List.setIfInBounds_toArray, List.set_cons_zero, List.set_cons_succ, i64_w, i32_w]
      rfl
    refine pure_ (i := 8) (N := some 51) (v := undef) (a' := ?_) #[true, true, true, true, true, true, true, true, true, false, false, false, false, false, false] rfl rfl (by kernel_rfl) (fun _ _ _ h => h) (Or.inr ⟨by rfl, rfl⟩) ?_ ?_
    rotate_left
    · simp only [Act.put, List.setIfInBounds_toArray, List.set_cons_zero, List.set_cons_succ, i64_w, i32_w]
      rfl
    refine pure_ (i := 9) (N := some 52) (v := undef) (a' := ?_) #[true, true, true, true, true, true, true, true, true, true, false, false, false, false, false] rfl rfl (by kernel_rfl) (fun _ _ _ h => h) (Or.inr ⟨by rfl, rfl⟩) ?_ ?_
    rotate_left
    · simp only [Act.put, List.setIfInBounds_toArray, List.set_cons_zero, List.set_cons_succ, i64_w, i32_w]
      rfl
    refine pure_ (i := 10) (N := some 53) (v := undef) (a' := ?_) #[true, true, true, true, true, true, true, true, true, true, true, false, false, false, false] rfl rfl (by kernel_rfl) (fun _ _ _ h => h) (Or.inr ⟨by rfl, rfl⟩) ?_ ?_
    rotate_left
    · simp only [Act.put, List.setIfInBounds_toArray, List.set_cons_zero, List.set_cons_succ, i64_w, i32_w]
      rfl
    refine pure_ (i := 11) (N := some 54) (v := undef) (a' := ?_) #[true, true, true, true, true, true, true, true, true, true, true, true, false, false, false] rfl rfl (by kernel_rfl) (fun _ _ _ h => h) (Or.inr ⟨by rfl, rfl⟩) ?_ ?_
    rotate_left
    · simp only [Act.put, List.setIfInBounds_toArray, List.set_cons_zero, List.set_cons_succ, i64_w, i32_w]
      rfl
    refine pure_ (i := 12) (N := some 55) (v := undef) (a' := ?_) #[true, true, true, true, true, true, true, true, true, true, true, true, true, false, false] rfl rfl (by kernel_rfl) (fun _ _ _ h => h) (Or.inr ⟨by rfl, rfl⟩) ?_ ?_
    rotate_left
    · simp only [Act.put, List.setIfInBounds_toArray, List.set_cons_zero, List.set_cons_succ, i64_w, i32_w]
      rfl
    refine pure_ (i := 13) (N := some 56) (v := undef) (a' := ?_) #[true, true, true, true, true, true, true, true, true, true, true, true, true, true, false] rfl rfl (by kernel_rfl) (fun _ _ _ h => h) (Or.inr ⟨by rfl, rfl⟩) ?_ ?_
    rotate_left
    · simp only [Act.put, List.setIfInBounds_toArray, List.set_cons_zero, List.set_cons_succ, i64_w, i32_w]
      rfl
    refine rgp 14 57 ?_
    refine done_ (by kernel_rfl) ?_
    clear hHeld c2 c3
    have HWI := Aside0.mk (show wrap64 ((W.op) * 128) = (W.op) * 128 by have := HF.out.op; unfold wrap64; omega)
    have HWJ := Aside0.mk (show wrap64 ((W.op) * 128 + ((b0).size : Int)) = (W.op) * 128 + ((b0).size : Int) by have := HF.out.op; have := HBDS.out; have : (⟨#[]⟩ : ByteArray).size = 0 := rfl; unfold wrap64; omega)
    have hwi := HWI.out; have hwj := HWJ.out
    generalize X0_.drew = X1_ at *
    have c5 := HL4.out.c5; have f5 := HL4.out.fz 5
    have s1 := HL4.out.set 5 (.int .i64 (W.op)) (W' := { W with op := W.op }) rfl rfl
    have c7 := s1.1.c7
    obtain ⟨ob, hrun, hmp⟩ := run_update_mp (P := Try.prog) (t := 84) (k := 3) (e := 9) (by kernel_rfl) (by kernel_rfl) s1.1.map (W.op) (b0 ++ s)
    have s2 := s1.1.turn hmp
    have HL5 := Aside0.mk s2.1; have FR5 := Aside0.mk ((FR4.out.trans s1.2).trans s2.2)
    clear s1 s2 hmp
    have HCT := Aside0.mk (show s.size ≤ 9223372036854775807 by have := HSL.out; omega)
    have hct0 : (9223372036854775807 < s.size) = False := eq_false (by have := HCT.out; omega)
    have hct1 : (9223372036854775807 < (b0).size + s.size) = False := eq_false (by have := HSL.out; have := HBDS.out; have : (⟨#[]⟩ : ByteArray).size = 0 := rfl; omega)
    go_wp2
    go_ret2
    refine ⟨?_, FR5.out, ?_⟩
    · rw [HA.out, HAP.out]; first | rfl | (simp [HWI.out, HWJ.out]; done) | (simp [HWI.out, HWJ.out, show (⟨#[]⟩ : ByteArray).size = 0 from rfl])
    · rw [HA.out, HAP.out]; exact HL5.out
end
end Go.Proofs.Ytbnglmeljbiglaa.Wl
set_option maxRecDepth 8192
namespace Go.Proofs.Ytbnglmeljbiglaa.Wl
open Go.Proofs.Ytbnglmeljbiglaa.Rgn
open Go Go.RowKit Go.ChangeMaps Go.Proofs.Ytbnglmeljbiglaa.Arr Go.Proofs.Ytbnglmeljbiglaa.Mp Go.Proofs.Ytbnglmeljbiglaa.Ow Go.Proofs.Ytbnglmeljbiglaa.Dk Go.Proofs.Ytbnglmeljbiglaa.Fr Go.Proofs.YtbnglmeljbiglaaW.PrintWords Go.Proofs.YtbnglmeljbiglaaW.PrintLast Go.Proofs.YtbnglmeljbiglaaW.PrintMore
set_option linter.unusedVariables false
set_option linter.unusedSimpArgs false
section
variable {w : World} {c : Nat → Nat} {gl m g N : Nat} {W : WS} {d : DS}
theorem dwrite_o (h : DK w (Col c 1) g d) (ho : OkN N d) (i : Int) (s : ByteArray) : Calls Try.prog 48 #[.pointer (some ⟨g, 0, none⟩), .int .i64 i, .string s] w fun x w' => x = .returned (.int .i64 (writeE d i s)) ∧ ∃ c', Fr [1] w c w' c' ∧ DK w' (Col c' 1) g (writeD d i s) := by
  refine (write_calls d g i s (Col (Dk.paint c w.heap.size 1) 1) w (top_paint c w 1) (h.mono fun k hk e => (paint_old hk).trans e) ho.ok).mono ?_
  rintro x w' ⟨rfl, hk, hf⟩
  exact ⟨rfl, _, fr_disk hf, hk⟩
theorem dsync_o (h : DK w (Col c 1) g d) (ho : OkN N d) : Calls Try.prog 50 #[.pointer (some ⟨g, 0, none⟩)] w fun x w' => x = .returned (.int .i64 (syncE d)) ∧ ∃ c', Fr [1] w c w' c' ∧ DK w' (Col c' 1) g (syncD d) := by
  refine (sync_calls d g (Col (Dk.paint c w.heap.size 1) 1) w (top_paint c w 1) (h.mono fun k hk e => (paint_old hk).trans e) ho.ok).mono ?_
  rintro x w' ⟨rfl, hk, hf⟩
  exact ⟨rfl, _, fr_disk hf, hk⟩
/-- The bytes of a sector of the log. -/
def secW (W : WS) (i : Int) : ByteArray := (X12.packI W.ep i (bdy W i)).1
/-- The writes of a Flush: the error, the next sector, the disk. -/
def flushL (W : WS) : Nat → Int → DS → Int × Int × DS
  | 0, i, d => (0, i, d)
  | k + 1, i, d => if i ≤ W.op ∧ bdy W i ≠ ⟨#[]⟩ then (if writeE d (placeW W i) (secW W i) ≠ 0 then (writeE d (placeW W i) (secW W i), i, writeD d (placeW W i) (secW W i)) else flushL W k (i + 1) (writeD d (placeW W i) (secW W i))) else (0, i, d)
def flushR (W : WS) (d : DS) : Int × Int × DS := flushL W (W.op + 1 - W.first).toNat W.first d
/-- What Flush does: the error, the log, the disk. -/
def flushW (W : WS) (d : DS) : Int × WS × DS :=
  if (flushR W d).1 ≠ 0 then ((flushR W d).1, W, (flushR W d).2.2)
  else if (flushR W d).2.1 = W.first then (0, W, (flushR W d).2.2)
  else if syncE (flushR W d).2.2 ≠ 0 then (syncE (flushR W d).2.2, W, syncD (flushR W d).2.2)
  else (0, { W with first := (flushR W d).2.1, op := (flushR W d).2.1 }, syncD (flushR W d).2.2)
theorem pack_fine {e i : Int} {b : ByteArray} (he : 0 ≤ e ∧ e < 4294967296) (hi : 0 ≤ i ∧ i < 4294967296) (hb : b.size ≤ 112) : X12.packI e i b = ((X12.packI e i b).1, 0) := by
  rw [← (X12.packI_bl e i b he hi hb).2]
set_option maxHeartbeats 16000000 in
theorem flush_calls (h : LO w c gl m g W) (hd : DK w (Col c 1) g d) (ho : OkN N d) (hN : N ≤ 1000) (F : Fit W) (hbd : ∀ i, (bdy W i).size ≤ 112) (hop : W.op ≤ 100000000) (hgap : W.first ≤ W.op + 1 ∧ W.op - W.first ≤ 1000) :
    Calls Try.prog 16 #[.pointer (some ⟨gl, 0, none⟩)] w fun e w' => e = .returned (.int .i64 (flushW W d).1) ∧ ∃ c', Fr [1, 3] w c w' c' ∧ LO w' c' gl m g (flushW W d).2.1 ∧ DK w' (Col c' 1) g (flushW W d).2.2 ∧ OkN (N + 1100) (flushW W d).2.2 := by
  have HL := Aside0.mk h; have HD := Aside0.mk hd; have HO := Aside0.mk ho; have HNN := Aside0.mk hN; have HF := Aside0.mk F; have HBD := Aside0.mk hbd; have HOP := Aside0.mk hop; have HGP := Aside0.mk hgap
  have FR := Aside0.mk (Fr.refl [1] w c)
  have c4 := h.c4
  clear h hd ho hN F hbd hop hgap
  obtain ⟨Re, Rn, Rd, hR⟩ : ∃ a b e, flushR W d = (a, b, e) := ⟨_, _, _, rfl⟩
  have HR := Aside0.mk hR
  have HRL := Aside0.mk (show flushL W (W.op + 1 - W.first).toNat W.first d = (Re, Rn, Rd) from hR)
  clear hR
  have HK0 := Aside0.mk (show (((W.op + 1 - W.first).toNat : Nat) : Int) = W.op + 1 - W.first by have := HGP.out; omega)
  go_enter Try.func16, Try.ntmps16
  go_upto_region 4 with (fail)
  clear c4
  go_loopw [3] (fun nv wr => ∃ (j k : Nat) (dk : DS) (c' : Nat → Nat), nv = .int .i64 (W.first + j) ∧ Aside0 (j + k = (W.op + 1 - W.first).toNat) ∧ Aside0 (LO wr c' gl m g W) ∧ Aside0 (DK wr (Col c' 1) g dk) ∧ Aside0 (Fr [1] w c wr c') ∧ Aside0 (OkN (N + j) dk) ∧ Aside0 (flushL W k (W.first + j) dk = (Re, Rn, Rd))) (fun nv _ => (W.op + 1).toNat - (intOf nv).toNat)
  case atStart => exact ⟨0, (W.op + 1 - W.first).toNat, d, c, by rw [show W.first + ((0 : Nat) : Int) = W.first by omega], ⟨by omega⟩, HL, HD, FR, ⟨HO.out⟩, ⟨by rw [show W.first + ((0 : Nat) : Int) = W.first by omega]; exact HRL.out⟩⟩
  case round =>
    clear HL HD FR HO HRL
    obtain ⟨j, k, dk, c1, rfl, JK, HL, HD, FR, HO, HRL⟩ := hrel
    have HI := Aside0.mk (show 0 ≤ W.first + (j : Int) ∧ W.first + (j : Int) ≤ W.op + 1 by have := HF.out.first; have := JK.out; have := HK0.out; omega)
    have c5 := HL.out.c5; have c7 := HL.out.c7
    have hl := run_lookup0 HL.out.map (W.first + j)
    obtain ⟨i, hi⟩ : ∃ i : Int, i = W.first + (j : Int) := ⟨_, rfl⟩
    rw [← hi] at HI HRL hl ⊢
    have HIJ := Aside0.mk hi
    clear hi
    obtain ⟨b, hb⟩ : ∃ b, b = bdy W i := ⟨_, rfl⟩
    have HBI := Aside0.mk hb
    rw [show (W.f i).getD ⟨#[]⟩ = b from hb.symm] at hl
    clear hb
    by_cases hgo : i ≤ W.op ∧ b ≠ ⟨#[]⟩
    · obtain ⟨h1, h2⟩ := hgo
      have HLE := Aside0.mk h1; have HNE := Aside0.mk h2
      have t0 : b.toList.isEmpty = false := by rw [empty_iff, decide_eq_false h2]
      obtain ⟨k, rfl⟩ : ∃ q, k = q + 1 := ⟨k - 1, by have := JK.out; have := HK0.out; have := HIJ.out; omega⟩
      clear h2
      go_upto_region 6 with (fail)
      have HL1 := Aside0.mk HL.out.drew; have HD1 := Aside0.mk HD.out.drew; have FR1 := Aside0.mk (FR.out.trans (fr_drew [1] wr c1))
      clear HL HD FR c5 c7 hl h1
      have c6 := HL1.out.c6; have c7 := HL1.out.c7
      have HWI := Aside0.mk (show IntKind.u32.wrap i = i by rw [IntKind.wrap_u32]; exact Int.emod_eq_of_lt HI.out.1 (by have := HLE.out; have := HOP.out; omega))
      refine start_ (n := 19) (S := fun w' => w'.cell? ⟨gl, 6, none⟩ = some (.int .u32 W.ep) ∧ w'.cell? ⟨gl, 7, none⟩ = some (.map (some m))) (ds := []) #[false, false, false, false, false, false, false, false, false, false, false, false, false, false, false, false, false, false, false] (by kernel_rfl) rfl rfl ⟨c6, c7⟩ (fun hHeld => ?_)
      refine rgp 0 31 ?_
      refine rgp 1 32 ?_
      refine rgp 2 33 ?_
      refine rgp 4 35 ?_
      refine rgp 5 36 ?_
      refine rgp 6 37 ?_
      refine rgp 7 38 ?_
      refine rgp 8 39 ?_
      refine rgp 10 41 ?_
      refine rgt 3 34 hHeld ?_
      refine rgt 9 40 hHeld ?_
      refine one_ (i := 11) (N := some 42) #[true, true, true, true, true, true, true, true, true, true, true, true, false, false, false, false, false, false, false] rfl rfl (by kernel_rfl) (by decide) (fun K hK => ?_)
      generalize wr.drew = X0_ at *
      have hl := run_lookup0 HL1.out.map i
      rw [show (W.f i).getD ⟨#[]⟩ = b from HBI.out.symm] at hl
      refine value_ (w1 := ?_) (v := ?_) (by kernel_rfl) rfl ?_ ?_
      rotate_left 2
      · go_simp
        constructor
        · rfl
        · rfl
      refine hK _ _ hHeld (fun hHeld => ?_)
      clear hK K hl
      refine norm_ (a' := ?_) ?_ ?_
      rotate_left
      · show Act.put _ (some 42) _ = _
        simp only [Act.put, List.setIfInBounds_toArray, List.set_cons_zero, List.set_cons_succ, i64_w, i32_w]
        rfl
      refine rgp 12 43 ?_
      refine one_ (i := 13) (N := some 44) #[true, true, true, true, true, true, true, true, true, true, true, true, true, true, false, false, false, false, false] rfl rfl (by kernel_rfl) (by decide) (fun K hK => ?_)
      refine goes_ Try.func47 (by kernel_rfl) rfl #[.agg #[.int .u32 W.ep, .int .u32 (IntKind.u32.wrap i), .string b]] (by rfl) rfl rfl (by (try simp only [List.map_toArray, List.map_cons, List.map_nil]); first | done | rfl) ?_
      rw [HWI.out]
      refine (X12.pack_calls W.ep i b HF.out.ep ⟨HI.out.1, by have := HLE.out; have := HOP.out; omega⟩ _).mono ?_
      rintro e v1_ ⟨rfl, hb1⟩
      rw [pack_fine HF.out.ep ⟨HI.out.1, by have := HLE.out; have := HOP.out; omega⟩ (by rw [HBI.out]; exact HBD.out i)]
      refine ⟨_, rfl, ?_⟩
      have HL2 := Aside0.mk (HL1.out.below hb1); have HD2 := Aside0.mk (HD1.out.below hb1); have FR2 := Aside0.mk (FR1.out.trans (Fr.of_below (M := [1]) hb1))
      clear HL1 HD1 FR1 hb1
      refine hK _ _ ⟨HL2.out.c6, HL2.out.c7⟩ (fun hHeld => ?_)
      clear hK K
      refine norm_ (a' := ?_) ?_ ?_
      rotate_left
      · show Act.put _ (some 44) _ = _
        simp only [Act.put, List.setIfInBounds_toArray, List.set_cons_zero, List.set_cons_succ, i64_w, i32_w]
        rfl
      refine rgp 14 30 ?_
      refine rgp 15 45 ?_
      refine rgp 16 46 ?_
      refine rgp 17 4 ?_
      refine rgp 18 5 ?_
      refine done_ (by kernel_rfl) ?_
      clear hHeld c6 c7
      have HSW := Aside0.mk (show (X12.packI W.ep i b).1 = secW W i by unfold secW; rw [HBI.out])
      simp only [HSW.out]
      have hff := HRL.out
      unfold flushL at hff
      rw [if_pos ⟨HLE.out, by rw [← HBI.out]; exact HNE.out⟩] at hff
      generalize secW W i = s at *
      go_upto_region 8 with (fail)
      have HL3 := Aside0.mk HL2.out.drew; have HD3 := Aside0.mk HD2.out.drew; have FR3 := Aside0.mk (FR2.out.trans (fr_drew [1] v1_ c1))
      clear HL2 HD2 FR2
      have c0 := HL3.out.c0
      have HFF := Aside0.mk hff
      clear hff
      refine start_ (n := 10) (S := fun w' => w'.cell? ⟨gl, 0, none⟩ = some (.pointer (some ⟨g, 0, none⟩))) (ds := [8]) #[false, false, false, false, false, false, false, false, false, false] (by kernel_rfl) rfl rfl c0 (fun hHeld => ?_)
      refine rgp 0 49 ?_
      refine rgp 1 50 ?_
      refine rgp 2 51 ?_
      refine rgp 4 53 ?_
      refine rgp 5 54 ?_
      refine rgp 7 56 ?_
      refine rgt 3 52 hHeld ?_
      refine one_ (i := 6) (N := some 55) #[true, true, true, true, true, true, true, true, false, false] rfl rfl (by kernel_rfl) (by decide) (fun K hK => ?_)
      generalize v1_.drew = X1_ at *
      refine goes_ Try.func49 (by kernel_rfl) rfl #[.pointer (some ⟨gl, 0, none⟩), .int .i64 i] (by rfl) rfl rfl (by (try simp only [List.map_toArray, List.map_cons, List.map_nil]); first | done | rfl) ?_
      refine (place_calls HL3.out HF.out i HI.out.1).mono ?_
      rintro e v1_y ⟨rfl, hb1⟩
      refine ⟨_, rfl, ?_⟩
      have HL4 := Aside0.mk (HL3.out.below hb1); have HD4 := Aside0.mk (HD3.out.below hb1); have FR4 := Aside0.mk (FR3.out.trans (Fr.of_below (M := [1]) hb1))
      clear HL3 HD3 FR3 hb1
      refine hK _ _ HL4.out.c0 (fun hHeld => ?_)
      clear hK K
      refine norm_ (a' := ?_) ?_ ?_
      rotate_left
      · show Act.put _ (some 55) _ = _
        simp only [Act.put, List.setIfInBounds_toArray, List.set_cons_zero, List.set_cons_succ, i64_w, i32_w]
        rfl
      refine last_ (i := 8) (N := some 57) #[true, true, true, true, true, true, true, true, true, false] rfl rfl (by kernel_rfl) (by decide) (fun K hK => ?_)
      refine goes_ Try.func48 (by kernel_rfl) rfl #[.pointer (some ⟨g, 0, none⟩), .int .i64 (placeW W i), .string s] (by rfl) rfl rfl (by (try simp only [List.map_toArray, List.map_cons, List.map_nil]); first | done | rfl) ?_
      refine (dwrite_o HD4.out HO.out (placeW W i) s).mono ?_
      rintro e v9_ ⟨rfl, c2, hf, hd⟩
      refine ⟨_, rfl, ?_⟩
      have HL5 := Aside0.mk (HL4.out.keep hf (by decide)); have HD5 := Aside0.mk hd; have FR5 := Aside0.mk (FR4.out.trans hf)
      clear HL4 HD4 FR4 hf hd
      refine hK _ _ ?_
      clear hK K
      refine norm_ (a' := ?_) ?_ ?_
      rotate_left
      · show Act.put _ (some 57) _ = _
        simp only [Act.put, List.setIfInBounds_toArray, List.set_cons_zero, List.set_cons_succ, i64_w, i32_w]
        rfl
      refine rgp 9 5 ?_
      refine done_ (by kernel_rfl) ?_
      clear hHeld c0
      (try simp only [Exit.inBlock, Exit.then])
      have hok := ok_write (i := placeW W i) (s := s) HO.out (by have := HNN.out; have := JK.out; have := HK0.out; have := HGP.out; omega)
      have HO5 := Aside0.mk hok; clear hok HO
      generalize hwe : writeE dk (placeW W i) s = we at *
      generalize writeD dk (placeW W i) s = wd at *
      clear hwe
      by_cases he : we = 0
      · have e0 : (we != 0) = false := by simpa using he
        have e1 : (we == 0) = true := by simpa using he
        have HFF2 := Aside0.mk (show flushL W k (i + 1) wd = (Re, Rn, Rd) by have := HFF.out; rw [if_neg (fun h => h he)] at this; exact this)
        have hwk : wrap64 (i + 1) = i + 1 := by have := HLE.out; have := HOP.out; have := HI.out; unfold wrap64; omega
        clear he
        go_wp2
        go_roundw
        case rel => exact ⟨j + 1, k, wd, c2, by first | (rw [HIJ.out]; congr 1; omega) | (rw [hwk, HIJ.out]; congr 1; omega), ⟨by have := JK.out; omega⟩, HL5, HD5, FR5, ⟨HO5.out⟩, ⟨by rw [show W.first + ((j + 1 : Nat) : Int) = i + 1 by rw [HIJ.out]; omega]; exact HFF2.out⟩⟩
        case measure =>
          have := HLE.out; have := HI.out
          (try rw [hwk])
          simp only [intOf]; omega
      · have e0 : (we != 0) = true := by simpa using he
        have e1 : (we == 0) = false := by simpa using he
        have HQ := Aside0.mk (show (we, i, wd) = (Re, Rn, Rd) by have := HFF.out; rw [if_pos he] at this; exact this)
        have HWE := Aside0.mk he
        clear he
        go_wp2
        go_ret
        have hq := HQ.out
        have hfw : flushW W d = (we, W, wd) := by
          unfold flushW
          rw [HR.out, ← hq]
          rw [if_pos HWE.out]
        rw [hfw]
        exact ⟨rfl, c2, FR5.out.mono (by decide), HL5.out, HD5.out, HO5.out.mono (by have := JK.out; have := HK0.out; have := HGP.out; omega)⟩
    · have HQ := Aside0.mk (show (0, i, dk) = (Re, Rn, Rd) by
        have := HRL.out
        cases k with
        | zero => exact this
        | succ k => unfold flushL at this; rw [if_neg (by rw [← HBI.out]; exact hgo)] at this; exact this)
      have HLO := Aside0.mk HL.out
      have hcase : (i ≤ W.op ∧ b.toList.isEmpty = true) ∨ ¬ i ≤ W.op := by
        by_cases h : i ≤ W.op
        · refine .inl ⟨h, ?_⟩
          rw [empty_iff, decide_eq_true_iff]
          exact Classical.byContradiction fun h2 => hgo ⟨h, h2⟩
        · exact .inr h
      clear hgo
      have c4 := HL.out.c4; have c0 := HL.out.c0
      by_cases hfi : i = W.first
      · have e0 : (i == W.first) = true := beq_iff_eq.2 hfi
        have HFW := Aside0.mk (show flushW W d = (0, W, dk) by
          unfold flushW
          rw [HR.out, ← HQ.out]
          rw [if_neg (fun h => h rfl), if_pos hfi])
        clear hfi
        rcases hcase with ⟨t1, t2⟩ | t1
        all_goals
          go_wp2
          go_ret
          rw [HFW.out]
          exact ⟨rfl, c1, FR.out.mono (by decide), HL.out, HD.out, HO.out.mono (by have := JK.out; have := HK0.out; have := HGP.out; omega)⟩
      · have e0 : (i == W.first) = false := beq_eq_false_iff_ne.2 hfi
        have HFW := Aside0.mk (show flushW W d = if syncE dk ≠ 0 then (syncE dk, W, syncD dk) else (0, { W with first := i, op := i }, syncD dk) by
          unfold flushW
          rw [HR.out, ← HQ.out]
          rw [if_neg (fun h => h rfl), if_neg hfi])
        clear hfi
        have HOS := Aside0.mk (ok_sync HO.out)
        generalize hse : syncE dk = se at *
        generalize hsd : syncD dk = sd at *
        by_cases he : se = 0
        · have e1 : (se != 0) = false := by simpa using he
          have HFX := Aside0.mk (show flushW W d = (0, { W with first := i, op := i }, sd) by rw [HFW.out, if_neg (fun h => h he)])
          clear he
          rcases hcase with ⟨t1, t2⟩ | t1
          all_goals
            have hsy := dsync_o HD.out HO.out
            rw [hse, hsd] at hsy
            have HSY := Aside0.mk hsy; clear hsy
            go_upto_region 14 with (go_at_call 50; (with_reducible refine HSY.out.mono ?_); rintro e w1 ⟨rfl, c2, hf, hd⟩; have HL5 := Aside0.mk (HL.out.keep hf (by decide)); have HD5 := Aside0.mk hd; have FR5 := Aside0.mk (FR.out.trans hf); clear hf hd)
            clear c0 c4 c5 c7 hl
            have f4 := HL5.out.fz 4; have f5 := HL5.out.fz 5; have c4 := HL5.out.c4; have c5 := HL5.out.c5
            have s1 := HL5.out.set 4 (.int .i64 i) (W' := { W with first := i }) rfl rfl
            have c5b := s1.1.c5; have f5b := s1.1.fz 5
            have s2 := s1.1.set 5 (.int .i64 i) (W' := { W with first := i, op := i }) rfl rfl
            have HL6 := Aside0.mk s2.1; have HD6 := Aside0.mk (dk_keep HD5.out (s1.2.trans s2.2) (by decide)); have FR6 := Aside0.mk ((FR5.out.mono (M2 := [1, 3]) (by decide)).trans ((s1.2.trans s2.2).mono (by decide)))
            clear s1 s2
            go_wp2
            go_ret
            rw [HFX.out]
            exact ⟨rfl, c2, FR6.out, HL6.out, HD6.out, HOS.out.mono (by have := JK.out; have := HK0.out; have := HGP.out; omega)⟩
        · have e1 : (se != 0) = true := by simpa using he
          have HFX := Aside0.mk (show flushW W d = (se, W, sd) by rw [HFW.out, if_pos he])
          clear he
          rcases hcase with ⟨t1, t2⟩ | t1
          all_goals
            have hsy := dsync_o HD.out HO.out
            rw [hse, hsd] at hsy
            have HSY := Aside0.mk hsy; clear hsy
            go_upto_region 14 with (go_at_call 50; (with_reducible refine HSY.out.mono ?_); rintro e w1 ⟨rfl, c2, hf, hd⟩; have HL5 := Aside0.mk (HL.out.keep hf (by decide)); have HD5 := Aside0.mk hd; have FR5 := Aside0.mk (FR.out.trans hf); clear hf hd)
            clear c0 c4 c5 c7 hl
            go_wp2
            go_ret
            rw [HFX.out]
            exact ⟨rfl, c2, FR5.out.mono (by decide), HL5.out, HD5.out, HOS.out.mono (by have := JK.out; have := HK0.out; have := HGP.out; omega)⟩
end
end Go.Proofs.Ytbnglmeljbiglaa.Wl
set_option maxRecDepth 8192
namespace Go.Proofs.Ytbnglmeljbiglaa.Wl
open Go.Proofs.Ytbnglmeljbiglaa.X4 Go.Proofs.Ytbnglmeljbiglaa.Pt Go.Proofs.Ytbnglmeljbiglaa.Ptb Go Go.RowKit Go.ChangeMaps Go.Proofs.Ytbnglmeljbiglaa.Arr Go.Proofs.Ytbnglmeljbiglaa.Mp Go.Proofs.Ytbnglmeljbiglaa.Ow Go.Proofs.Ytbnglmeljbiglaa.Dk Go.Proofs.Ytbnglmeljbiglaa.Fr Go.Proofs.YtbnglmeljbiglaaW.PrintWords Go.Proofs.YtbnglmeljbiglaaW.PrintLast Go.Proofs.YtbnglmeljbiglaaW.PrintMore
set_option linter.unusedVariables false
set_option linter.unusedSimpArgs false
abbrev En_ := S44
def shiftE (i : Int) (x : En_) : En_ := ⟨x.f0 + i * 128, x.f1⟩
/-- The records of a sector, with their places. -/
def entL (i : Int) (b : ByteArray) : List En_ := (allS b).map (shiftE i)
theorem allL_at {s : ByteArray} : ∀ (n : Nat) (p : Int) (l : List En_), 0 ≤ p → allL s n p = some l → ∀ x ∈ l, 0 ≤ x.f0 ∧ x.f0 < s.size := by
  intro n
  induction n with
  | zero => intro p l _ h; cases h
  | succ n ih =>
    intro p l hp h
    unfold allL at h
    split at h
    · rename_i hlt
      split at h
      · rename_i e
        obtain ⟨t, ht, rfl⟩ := Option.map_eq_some_iff.1 h
        intro x hx
        rcases List.mem_cons.1 hx with rfl | hx
        · exact ⟨hp, hlt⟩
        · obtain ⟨bs, q, p0, -, -, -, -, hn2, hs2, hl⟩ := read_some e
          exact ih _ _ (by omega) ht x hx
      · cases h
    · injection h with h; subst h; intro x hx; cases hx
theorem allS_at {s : ByteArray} : ∀ x ∈ allS s, 0 ≤ x.f0 ∧ x.f0 < s.size := by
  intro x hx
  unfold allS at hx
  cases h : allF s with
  | none => rw [h] at hx; cases hx
  | some l => rw [h] at hx; exact allL_at _ 0 _ (by omega) h x hx
/-- The first j are shifted. -/
def partE (i : Int) (L : List En_) (j : Nat) : List En_ := (L.take j).map (shiftE i) ++ L.drop j
theorem partE_0 (i : Int) (L : List En_) : partE i L 0 = L := by unfold partE; simp
theorem partE_all (i : Int) (L : List En_) : partE i L L.length = L.map (shiftE i) := by unfold partE; simp
theorem partE_len (i : Int) (L : List En_) {j : Nat} (h : j ≤ L.length) : (partE i L j).length = L.length := by unfold partE; simp; omega
theorem partE_get (i : Int) (L : List En_) {j : Nat} (h : j < L.length) (z : En_) : (partE i L j).getD j z = L.getD j z := by
  unfold partE
  rw [List.getD_eq_getElem?_getD, List.getD_eq_getElem?_getD, List.getElem?_append_right (by simp; omega)]
  simp [show min j L.length = j by omega]
theorem partE_set (i : Int) (L : List En_) {j : Nat} (h : j < L.length) (z : En_) : (partE i L j).set j (shiftE i (L.getD j z)) = partE i L (j + 1) := by
  unfold partE
  rw [List.set_append_right _ _ (by simp; omega), List.getD_eq_getElem?_getD, List.getElem?_eq_getElem h]
  rw [show j - ((L.take j).map (shiftE i)).length = 0 by simp; omega, List.drop_eq_getElem_cons h, List.set_cons_zero, List.map_take, List.map_take, List.take_add_one (i := j)]
  simp [h]
theorem cells_one (w : World) (g o : Nat) (u : Value) : w.setCells g o [u] = w.setCell ⟨g, o, none⟩ u := rfl
section
variable {w : World} {c : Nat → Nat} {gl m g N : Nat} {W : WS}
set_option maxHeartbeats 8000000 in
theorem entries_calls (h : LO w c gl m g W) (i : Int) (hi : -1000000000000 ≤ i ∧ i ≤ 1000000000000) (hbd : (bdy W i).size ≤ 1000) :
    Calls Try.prog 55 #[.pointer (some ⟨gl, 0, none⟩), .int .i64 i] w fun e w' => ∃ v : Value, e = .returned v ∧ Kd.R X4.k44 44 w' w.heap.size (fun _ => True) v (entL i (bdy W i)) ∧ Below w.heap.size w w' := by
  have c7 := h.c7
  have hl := run_lookup0 h.map i
  have HBD := Aside0.mk hbd; have HI := Aside0.mk hi
  unfold entL bdy
  rw [show bdy W i = (W.f i).getD ⟨#[]⟩ from rfl] at HBD
  generalize (W.f i).getD ⟨#[]⟩ = b at *
  clear h hbd
  have HAT := Aside0.mk (allS_at (s := b))
  go_enter Try.func55, Try.ntmps55
  go_upto_region 2 with (go_at_call 73; (with_reducible refine (all_calls b (by have := HBD.out; omega) _).mono ?_); rintro e w1 ⟨v, rfl, hv, hb1⟩; have HV := Aside0.mk (Kd.S_R hv); have HB := Aside0.mk hb1; clear hv hb1)
  clear c7 hl
  generalize hL : allS b = L at *
  have HLL := Aside0.mk hL
  clear hL
  obtain ⟨A, cp, rfl, _⟩ := Kd.R_reads HV.out
  have hm : L.length ≤ 9223372036854775807 := (Kd.R_reads' HV.out).2.2.2.1
  go_upto_region 3 with (fail)
  go_loopw [20] (fun kv wr => ∃ j : Nat, kv = .int .i64 j ∧ Aside0 (j ≤ L.length) ∧ Aside0 (Kd.R X4.k44 44 wr w.heap.size (fun _ => True) (.slice A L.length cp) (partE i L j)) ∧ Aside0 (Below w.heap.size w wr)) (fun kv _ => L.length - (intOf kv).toNat)
  case atStart => exact ⟨0, rfl, ⟨Nat.zero_le _⟩, ⟨by rw [partE_0]; exact HV.out⟩, HB⟩
  case round =>
    clear HV HB
    obtain ⟨j, rfl, J, HV, HB⟩ := hrel
    by_cases hlt : j < L.length
    · have h1 : (j : Int) < (L.length : Int) := by omega
      have hwk : wrap64 ((j : Int) + 1) = ((j + 1 : Nat) : Int) := by unfold wrap64; omega
      have HLT := Aside0.mk hlt
      obtain ⟨gv, cap, hge, hb, hgl, cells, hcells⟩ := Kd.R_form HV.out (by rw [partE_len i L (by omega)]; omega)
      rw [partE_len i L (by omega)] at hge
      injection hge with hA _ hc
      subst hA; subst hc
      obtain ⟨cs, hcl, hM, hcc, hfz⟩ := Kd.R_elem HV.out X4.z44 (j : Int) (by omega) h1
      rw [Int.toNat_natCast, partE_get i L hlt] at hM
      rw [Int.toNat_natCast] at hcc hfz
      obtain ⟨x, hx⟩ : ∃ x, x = L.getD j X4.z44 := ⟨_, rfl⟩
      rw [← hx] at hM
      have hxm : x ∈ L := by rw [hx, List.getD_eq_getElem?_getD, List.getElem?_eq_getElem hlt]; exact List.getElem_mem hlt
      have hxa := HAT.out x hxm
      obtain ⟨v10, v11, rfl, m10, m11⟩ := X4.k44_openM hM
      have q0 : wr.cell? ⟨gv, j * 12, none⟩ = some (.int .i64 x.f0) := hcc 0 _ rfl
      have z0 : wr.frozen? ⟨gv, j * 12, none⟩ = false := hfz 0
      have hw1 : wrap64 (i * 128) = i * 128 := by have := HI.out; unfold wrap64; omega
      have hw2 : wrap64 (x.f0 + i * 128) = x.f0 + i * 128 := by have := HI.out; have := HBD.out; unfold wrap64; omega
      have hseg := Kd.R_seg HV.out (j : Int) (by omega) h1 (seg := [.int .i64 (x.f0 + i * 128)]) (j := 0) (x' := shiftE i x) hcl (by rw [Int.toNat_natCast]; exact hcc) (by rw [← hcl]; simp) (X4.k44_mkM wr w.heap.size _ (shiftE i x) m10 m11) (fun k hk => hk)
      rw [Int.toNat_natCast, hx, partE_set i L hlt, cells_one] at hseg
      rw [← hx] at hseg
      have HV2 := Aside0.mk hseg.1
      have HB2 := Aside0.mk (HB.out.setCell (p := ⟨gv, j * 12, none⟩) hb (.int .i64 (x.f0 + i * 128)))
      clear hseg hM hcc hfz m10 m11 hxa hxm hx hcells hcl HV HB
      go_wp2
      clear q0 z0
      (try rw [show j * 12 + 0 = j * 12 from rfl])
      go_roundw
      case rel => exact ⟨j + 1, by first | rfl | (rw [hwk]) | go_num, ⟨by have := HLT.out; omega⟩, HV2, HB2⟩
      case measure =>
        have := HLT.out
        (try rw [hwk])
        simp only [intOf]; omega
    · obtain rfl : j = L.length := by have := J.out; omega
      go_wp2
      go_ret
      exact ⟨_, rfl, by rw [HLL.out]; rw [partE_all] at HV; exact HV.out, HB.out⟩
end
end Go.Proofs.Ytbnglmeljbiglaa.Wl
set_option maxRecDepth 8192
namespace Go.Proofs.Ytbnglmeljbiglaa.Wl
open Go.Proofs.Ytbnglmeljbiglaa.Rgn
open Go.Proofs.Ytbnglmeljbiglaa.X4 Go.Proofs.Ytbnglmeljbiglaa.Pt Go.Proofs.Ytbnglmeljbiglaa.Ptb Go Go.RowKit Go.ChangeMaps Go.Proofs.Ytbnglmeljbiglaa.Arr Go.Proofs.Ytbnglmeljbiglaa.Mp Go.Proofs.Ytbnglmeljbiglaa.Ow Go.Proofs.Ytbnglmeljbiglaa.Dk Go.Proofs.Ytbnglmeljbiglaa.Fr Go.Proofs.YtbnglmeljbiglaaW.PrintWords Go.Proofs.YtbnglmeljbiglaaW.PrintLast Go.Proofs.YtbnglmeljbiglaaW.PrintMore
set_option linter.unusedVariables false
set_option linter.unusedSimpArgs false
/-- The records of the first k sectors, from a place on. -/
def scanK (W : WS) (from_ : Int) (k : Nat) : List En_ := (List.range k).flatMap fun (q : Nat) => (entL (W.low + (q : Int)) (bdy W (W.low + (q : Int)))).filter fun x => decide (from_ ≤ x.f0)
def scanF (W : WS) (from_ : Int) : List En_ := scanK W from_ (W.op + 1 - W.low).toNat
theorem scanK_succ (W : WS) (from_ : Int) (k : Nat) : scanK W from_ (k + 1) = scanK W from_ k ++ (entL (W.low + (k : Int)) (bdy W (W.low + (k : Int)))).filter fun x => decide (from_ ≤ x.f0) := by
  unfold scanK
  rw [List.range_succ, List.flatMap_append]
  simp
theorem all_le (s : ByteArray) : (allS s).length ≤ s.size := by
  have gen : ∀ (n : Nat) (p : Int) (l : List En_), 0 ≤ p → p ≤ s.size → allL s n p = some l → (l.length : Int) ≤ s.size - p := by
    intro n
    induction n with
    | zero => intro p l _ _ h; cases h
    | succ n ih =>
      intro p l hp hp2 h
      unfold allL at h
      split at h
      · rename_i hlt
        split at h
        · rename_i e
          obtain ⟨t, ht, rfl⟩ := Option.map_eq_some_iff.1 h
          obtain ⟨bs, q, p0, -, -, -, -, hn2, hs2, hl⟩ := read_some e
          have := ih _ _ (by omega) (by omega) ht
          simp only [List.length_cons]
          omega
        · cases h
      · injection h with h; subst h; simp; omega
  unfold allS
  cases h : allF s with
  | none => exact Nat.zero_le _
  | some l =>
    have := gen _ 0 l (by omega) (by omega) h
    show l.length ≤ s.size
    omega
theorem scanK_le (W : WS) (hbd : ∀ i, (bdy W i).size ≤ 112) (from_ : Int) (k : Nat) : (scanK W from_ k).length ≤ 112 * k := by
  induction k with
  | zero => exact Nat.le_refl _
  | succ k ih =>
    rw [scanK_succ, List.length_append]
    have h1 : ((entL (W.low + (k : Int)) (bdy W (W.low + (k : Int)))).filter fun x => decide (from_ ≤ x.f0)).length ≤ 112 := by
      refine Nat.le_trans (List.length_filter_le _ _) ?_
      unfold entL
      rw [List.length_map]
      exact Nat.le_trans (all_le _) (hbd _)
    omega
section
variable {w : World} {c : Nat → Nat} {gl m g N : Nat} {W : WS}
set_option maxHeartbeats 16000000 in
theorem scan_calls (h : LO w c gl m g W) (F : Fit W) (hbd : ∀ i, (bdy W i).size ≤ 112) (hgap : W.low ≤ W.op + 1 ∧ W.op - W.low ≤ 1000) (from_ : Int) :
    Calls Try.prog 20 #[.pointer (some ⟨gl, 0, none⟩), .int .i64 from_] w fun e w' => ∃ v : Value, e = .returned v ∧ Kd.N X4.k44 44 w' w.heap.size (fun k => w.heap.size ≤ k) v (scanF W from_) ∧ Below w.heap.size w w' := by
  have HL := Aside0.mk h; have HF := Aside0.mk F; have HBD := Aside0.mk hbd; have HGP := Aside0.mk hgap
  have c3 := h.c3
  clear h F hbd hgap
  have HK0 := Aside0.mk (show (((W.op + 1 - W.low).toNat : Nat) : Int) = W.op + 1 - W.low by have := HGP.out; omega)
  have HB := Aside0.mk (Below.refl w.heap.size w)
  go_enter Try.func20, Try.ntmps20
  go_upto_region 4 with (fail)
  clear c3
  go_loopw [4, 5] (fun lv iv wr => ∃ k : Nat, iv = .int .i64 (W.low + k) ∧ Aside0 (k ≤ (W.op + 1 - W.low).toNat) ∧ Aside0 (Kd.N X4.k44 44 wr w.heap.size (fun k => w.heap.size ≤ k) lv (scanK W from_ k)) ∧ Aside0 (LO wr c gl m g W) ∧ Aside0 (Below w.heap.size w wr)) (fun _ iv _ => (W.op + 1).toNat - (intOf iv).toNat)
  case atStart => exact ⟨0, by rw [show W.low + ((0 : Nat) : Int) = W.low by omega], ⟨Nat.zero_le _⟩, ⟨Kd.N_nil _ _ _ _ _⟩, HL, HB⟩
  case round =>
    clear HL HB
    obtain ⟨k, rfl, K, HV, HL, HB⟩ := hrel
    obtain ⟨lv, hlv⟩ : ∃ lv, lv = u4 := ⟨_, rfl⟩
    rw [← hlv] at HV
    rw [← hlv]
    clear hlv
    have c5 := HL.out.c5
    by_cases hle : W.low + (k : Int) ≤ W.op
    · have hwk : wrap64 (W.low + (k : Int) + 1) = W.low + (k : Int) + 1 := by have := HF.out.op; have := HF.out.low; unfold wrap64; omega
      have HLE := Aside0.mk hle
      go_upto_region 7 with (go_at_call 55; (with_reducible refine (entries_calls HL.out (W.low + (k : Int)) (by have := HF.out.op; have := HF.out.low; have := HLE.out; omega) (Nat.le_trans (HBD.out _) (by decide))).mono ?_); rintro e w1 ⟨rv, rfl, hv, hb1⟩; obtain ⟨A, cp, rfl⟩ := Kd.R_slice hv; have HE1 := Aside0.mk hv; have HB1 := Aside0.mk hb1; clear hv hb1)
      clear c5
      have HL1 := Aside0.mk (HL.out.below HB1.out); have HV1 := Aside0.mk (Kd.N_below HV.out HB1.out); have HBB := Aside0.mk (Arr.below_trans HB.out HB1.out)
      have hE := HE1.out
      generalize hL : entL (W.low + (k : Int)) (bdy W (W.low + (k : Int))) = L at *
      have HLL := Aside0.mk (show scanK W from_ (k + 1) = scanK W from_ k ++ L.filter (fun x => decide (from_ ≤ x.f0)) by rw [scanK_succ, hL])
      have HLN := Aside0.mk (show L.length ≤ 1000 by rw [← hL]; unfold entL; rw [List.length_map]; exact Nat.le_trans (all_le _) (Nat.le_trans (HBD.out _) (by decide)))
      have HXN := Aside0.mk (show (scanK W from_ k).length ≤ 1000000 by have := scanK_le W HBD.out from_ k; have := K.out; have := HK0.out; have := HGP.out; omega)
      clear hL
      have hF := Kd.F_mono (ok' := fun q => w.heap.size ≤ q ∧ some q ≠ lv.ownBlock) (Kd.R_F (Kd.R_bound hE)) (fun q hq => ⟨Nat.le_trans HB.out.size hq.2.1, fun he => by have := Kd.N_lt HV.out q he.symm; have := hq.2.1; omega⟩)
      have HFF := Aside0.mk hF
      clear hE hF HE1 HL HV HB HB1
      generalize scanK W from_ k = xs at *
      go_loopw [4, 26] (fun lv jv wq => ∃ j : Nat, jv = .int .i64 j ∧ Aside0 (j ≤ L.length) ∧ Aside0 (Kd.N X4.k44 44 wq w.heap.size (fun k => w.heap.size ≤ k) lv (xs ++ (L.take j).filter fun x => decide (from_ ≤ x.f0))) ∧ Aside0 (Kd.F X4.k44 wq (fun q => w.heap.size ≤ q ∧ some q ≠ lv.ownBlock) A L.length L) ∧ Aside0 (LO wq c gl m g W) ∧ Aside0 (Below w.heap.size w wq)) (fun _ jv _ => L.length - (intOf jv).toNat)
      case atStart => exact ⟨0, rfl, ⟨Nat.zero_le _⟩, ⟨by rw [List.take_zero, List.filter_nil, List.append_nil]; exact HV1.out⟩, HFF, HL1, HBB⟩
      case round =>
        clear HL1 HV1 HBB HFF
        obtain ⟨j, rfl, J, HV, HFF, HL, HB⟩ := hrel
        obtain ⟨lw, hlw⟩ : ∃ lw, lw = u4 := ⟨_, rfl⟩
        rw [← hlw] at HV HFF
        rw [← hlw]
        clear hlw
        by_cases hlt : j < L.length
        · have h1 : (j : Int) < (L.length : Int) := by omega
          have hwj : wrap64 ((j : Int) + 1) = ((j + 1 : Nat) : Int) := by have := HLN.out; unfold wrap64; omega
          have HLT := Aside0.mk hlt
          obtain ⟨ad, cs, rfl, hcl, hFK, hcc, _⟩ := Kd.F_get HFF.out X4.z44 (j : Int) (by omega) h1
          rw [Int.toNat_natCast] at hFK hcc
          have hxd : L.getD j X4.z44 = L[j] := by rw [List.getD_eq_getElem?_getD, List.getElem?_eq_getElem hlt]; rfl
          rw [hxd] at hFK
          generalize hx : L[j] = x at *
          have HTK := Aside0.mk (show (L.take (j + 1)).filter (fun x => decide (from_ ≤ x.f0)) = (L.take j).filter (fun x => decide (from_ ≤ x.f0)) ++ (if from_ ≤ x.f0 then [x] else []) by
            rw [List.take_add_one, List.getElem?_eq_getElem hlt, hx, List.filter_append]
            congr 1
            by_cases h : from_ ≤ x.f0
            · simp [h]
            · simp [h])
          obtain ⟨A10, c10, A11, c11, rfl, l10, g10, l11, g11⟩ := X4.k44_open (Kd.FK_now hFK)
          have HFK := Aside0.mk hFK
          have q0 : wr.cell? (ad.add (j * 12)) = some (.int .i64 x.f0) := hcc 0 _ rfl
          have q1 : wr.cell? ⟨(ad.add (j * 12)).block, (ad.add (j * 12)).off + 1, none⟩ = some (.int .i64 x.f1.f0) := by rw [← add_field _ _ 1 (by omega)]; exact hcc 1 _ rfl
          have q2 : wr.cell? ⟨(ad.add (j * 12)).block, (ad.add (j * 12)).off + 2, none⟩ = some (.int .i64 x.f1.f1) := by rw [← add_field _ _ 2 (by omega)]; exact hcc 2 _ rfl
          have q3 : wr.cell? ⟨(ad.add (j * 12)).block, (ad.add (j * 12)).off + 3, none⟩ = some (.int .i64 x.f1.f2) := by rw [← add_field _ _ 3 (by omega)]; exact hcc 3 _ rfl
          have q4 : wr.cell? ⟨(ad.add (j * 12)).block, (ad.add (j * 12)).off + 4, none⟩ = some (.int .i64 x.f1.f3) := by rw [← add_field _ _ 4 (by omega)]; exact hcc 4 _ rfl
          have q5 : wr.cell? ⟨(ad.add (j * 12)).block, (ad.add (j * 12)).off + 5, none⟩ = some (.int .i64 x.f1.f4) := by rw [← add_field _ _ 5 (by omega)]; exact hcc 5 _ rfl
          have q6 : wr.cell? ⟨(ad.add (j * 12)).block, (ad.add (j * 12)).off + 6, none⟩ = some (.int .i64 x.f1.f5) := by rw [← add_field _ _ 6 (by omega)]; exact hcc 6 _ rfl
          have q7 : wr.cell? ⟨(ad.add (j * 12)).block, (ad.add (j * 12)).off + 7, none⟩ = some (.int .i64 x.f1.f6) := by rw [← add_field _ _ 7 (by omega)]; exact hcc 7 _ rfl
          have q8 : wr.cell? ⟨(ad.add (j * 12)).block, (ad.add (j * 12)).off + 8, none⟩ = some (.string x.f1.f7) := by rw [← add_field _ _ 8 (by omega)]; exact hcc 8 _ rfl
          have q9 : wr.cell? ⟨(ad.add (j * 12)).block, (ad.add (j * 12)).off + 9, none⟩ = some (.string x.f1.f8) := by rw [← add_field _ _ 9 (by omega)]; exact hcc 9 _ rfl
          have q10 : wr.cell? ⟨(ad.add (j * 12)).block, (ad.add (j * 12)).off + 10, none⟩ = some (.slice A10 x.f1.f9.length c10) := by rw [← add_field _ _ 10 (by omega)]; exact hcc 10 _ rfl
          have q11 : wr.cell? ⟨(ad.add (j * 12)).block, (ad.add (j * 12)).off + 11, none⟩ = some (.slice A11 x.f1.f10.length c11) := by rw [← add_field _ _ 11 (by omega)]; exact hcc 11 _ rfl
          clear hcc hFK l10 g10 l11 g11 hx hcl hxd
          go_upto_region 9 with (fail)
          have hba := (Below.refl wr.heap.size wr).alloc (Nat.le_refl _) (.cells #[.int .i64 x.f0, .int .i64 x.f1.f0, .int .i64 x.f1.f1, .int .i64 x.f1.f2, .int .i64 x.f1.f3, .int .i64 x.f1.f4, .int .i64 x.f1.f5, .int .i64 x.f1.f6, .string x.f1.f7, .string x.f1.f8, .slice A10 x.f1.f9.length c10, .slice A11 x.f1.f10.length c11] 44)
          have HT := Aside0.mk (heap_alloc_new wr (.cells #[.int .i64 x.f0, .int .i64 x.f1.f0, .int .i64 x.f1.f1, .int .i64 x.f1.f2, .int .i64 x.f1.f3, .int .i64 x.f1.f4, .int .i64 x.f1.f5, .int .i64 x.f1.f6, .string x.f1.f7, .string x.f1.f8, .slice A10 x.f1.f9.length c10, .slice A11 x.f1.f10.length c11] 44))
          have HV1 := Aside0.mk (Kd.N_below HV.out hba); have HF1 := Aside0.mk (Kd.F_below HFF.out hba); have HFK1 := Aside0.mk (Kd.FK_below HFK.out hba); have HL1 := Aside0.mk (HL.out.below hba); have HB1 := Aside0.mk (HB.out.alloc HB.out.size (.cells #[.int .i64 x.f0, .int .i64 x.f1.f0, .int .i64 x.f1.f1, .int .i64 x.f1.f2, .int .i64 x.f1.f3, .int .i64 x.f1.f4, .int .i64 x.f1.f5, .int .i64 x.f1.f6, .string x.f1.f7, .string x.f1.f8, .slice A10 x.f1.f9.length c10, .slice A11 x.f1.f10.length c11] 44))
          clear hba HV HFF HFK HL HB q0 q1 q2 q3 q4 q5 q6 q7 q8 q9 q10 q11
          generalize wr.alloc (.cells #[.int .i64 x.f0, .int .i64 x.f1.f0, .int .i64 x.f1.f1, .int .i64 x.f1.f2, .int .i64 x.f1.f3, .int .i64 x.f1.f4, .int .i64 x.f1.f5, .int .i64 x.f1.f6, .string x.f1.f7, .string x.f1.f8, .slice A10 x.f1.f9.length c10, .slice A11 x.f1.f10.length c11] 44) = w4 at *
          generalize wr.heap.size = bx at *
          obtain ⟨x0, x1, x2, x3, x4, x5, x6, x7, x8, x9, x10, x11⟩ := cells12 w4 bx HT.out
          by_cases hge : from_ ≤ x.f0
          · have HTK2 := Aside0.mk (show xs ++ (L.take (j + 1)).filter (fun x => decide (from_ ≤ x.f0)) = xs ++ (L.take j).filter (fun x => decide (from_ ≤ x.f0)) ++ [x] by rw [HTK.out, if_pos hge, List.append_assoc])
            have HLN2 := Aside0.mk (show ((xs ++ (L.take j).filter fun x => decide (from_ ≤ x.f0)).length + 1) * 144 ≤ 140737488355328 by
              have h1 := HLN.out; have h2 := HXN.out
              have h3 : ((L.take j).filter fun x => decide (from_ ≤ x.f0)).length ≤ L.length := Nat.le_trans (List.length_filter_le _ _) (by rw [List.length_take]; omega)
              rw [List.length_append]
              omega)
            go_wp2_with ((with_reducible refine gate_builtin (b := .append) (xs := #[.tmp 34, .tmp 36]) rfl ?_); at_builtin; refine Kd.N_append X4.k44 (w0 := w) w.heap.size rfl (.tmp 34) (.tmp 36) 33 44 (.agg #[(.int .i64 0), (.int .i64 0), (.int .i64 0), (.int .i64 0), (.int .i64 0), (.int .i64 0), (.int .i64 0), (.int .i64 0), (.string ⟨#[]⟩), (.string ⟨#[]⟩), (.slice none 0 0), (.slice none 0 0)]) 144 rfl Try.underlying33 X4b.info44 rfl (by decide) (by omega) lw (xs ++ (L.take j).filter fun x => decide (from_ ≤ x.f0)) x [.int .i64 x.f0, .int .i64 x.f1.f0, .int .i64 x.f1.f1, .int .i64 x.f1.f2, .int .i64 x.f1.f3, .int .i64 x.f1.f4, .int .i64 x.f1.f5, .int .i64 x.f1.f6, .string x.f1.f7, .string x.f1.f8, .slice A10 x.f1.f9.length c10, .slice A11 x.f1.f10.length c11] (fun k => w.heap.size ≤ k) (fun q => w.heap.size ≤ q ∧ some q ≠ lw.ownBlock) rfl rfl HFK1.out (fun _ hk => hk) (fun q hq => Nat.le_trans HB1.out.size hq) HV1.out HB1.out HB1.out.size HLN2.out ?_; intro v1 w5 hv hb5 hg hat; have HV2 := Aside0.mk hv; have HB2 := Aside0.mk hb5; have HF2 := Aside0.mk (Kd.F_mono (ok' := fun q => w.heap.size ≤ q ∧ some q ≠ v1.ownBlock) (Kd.F_after HF1.out hg hat) (fun _ h => h)); have HL2 := Aside0.mk (show LO w5 c gl m g W from HL1.out.keepOwn hg (Kd.N_typed HV1.out)); clear hv hb5 hg hat HV1 HB1 HF1 HL1)
            go_roundw
            case rel => exact ⟨j + 1, by first | rfl | (rw [hwj]) | go_num, ⟨by have := HLT.out; omega⟩, ⟨by rw [HTK2.out]; exact HV2.out⟩, HF2, HL2, HB2⟩
            case measure =>
              have := HLT.out
              (try rw [hwj])
              simp only [intOf]; omega
          · have HTK2 := Aside0.mk (show xs ++ (L.take (j + 1)).filter (fun x => decide (from_ ≤ x.f0)) = xs ++ (L.take j).filter (fun x => decide (from_ ≤ x.f0)) by rw [HTK.out, if_neg hge, List.append_nil])
            go_wp2
            go_roundw
            case rel => exact ⟨j + 1, by first | rfl | (rw [hwj]) | go_num, ⟨by have := HLT.out; omega⟩, ⟨by rw [HTK2.out]; exact HV1.out⟩, HF1, HL1, HB1⟩
            case measure =>
              have := HLT.out
              (try rw [hwj])
              simp only [intOf]; omega
        · obtain rfl : j = L.length := by have := J.out; omega
          have HTK2 := Aside0.mk (show xs ++ (L.take L.length).filter (fun x => decide (from_ ≤ x.f0)) = scanK W from_ (k + 1) by rw [List.take_length, HLL.out])
          go_wp2
          go_roundw
          case rel => exact ⟨k + 1, by first | (rw [hwk]; congr 1; omega) | (congr 1; omega), ⟨by have := HLE.out; have := HK0.out; omega⟩, ⟨by rw [← HTK2.out]; exact HV.out⟩, HL, HB⟩
          case measure =>
            have := HLE.out
            have hw := hwk
            have := HF.out.low
            simp only [intOf]
            first | omega | (rw [hw]; omega) | (simp only [hw]; omega)
    · have HKK := Aside0.mk (show k = (W.op + 1 - W.low).toNat by have := K.out; have := HK0.out; omega)
      go_wp2
      go_ret
      exact ⟨_, rfl, by unfold scanF; rw [← HKK.out]; exact HV.out, HB.out⟩
end
end Go.Proofs.Ytbnglmeljbiglaa.Wl
set_option maxRecDepth 8192
namespace Go.Proofs.Ytbnglmeljbiglaa.Wl
open Go.Proofs.Ytbnglmeljbiglaa.Rgn
open Go.Proofs.Ytbnglmeljbiglaa.X4 Go.Proofs.Ytbnglmeljbiglaa.Pt Go.Proofs.Ytbnglmeljbiglaa.Ptb Go Go.RowKit Go.ChangeMaps Go.Proofs.Ytbnglmeljbiglaa.Arr Go.Proofs.Ytbnglmeljbiglaa.Mp Go.Proofs.Ytbnglmeljbiglaa.Ow Go.Proofs.Ytbnglmeljbiglaa.Dk Go.Proofs.Ytbnglmeljbiglaa.Fr Go.Proofs.YtbnglmeljbiglaaW.PrintWords Go.Proofs.YtbnglmeljbiglaaW.PrintLast Go.Proofs.YtbnglmeljbiglaaW.PrintMore
set_option linter.unusedVariables false
set_option linter.unusedSimpArgs false
theorem set_blk_to {w : World} {g : Nat} {cs : Array Value} {t : TypeId} {fr : Nat × Nat} (h : w.heap[g]? = some (.cells cs t fr)) (i : Nat) (u : Value) (cs' : Array Value) (hc : cs.setIfInBounds i u = cs') : (w.setCell ⟨g, i, none⟩ u).heap[g]? = some (.cells cs' t fr) := by
  rw [set_blk h i u, hc]
/-- The record at a place, if there is one. -/
def findW (W : WS) (p : Int) : Option En_ := if 0 ≤ p then (entL (sctr p) (bdy W (sctr p))).find? (fun x => x.f0 == p) else none
def errW (W : WS) (p : Int) : Int := match findW W p with | some _ => 0 | none => 7
section
variable {w : World} {c : Nat → Nat} {gl m g N : Nat} {W : WS}
end
end Go.Proofs.Ytbnglmeljbiglaa.Wl
set_option maxRecDepth 8192
namespace Go.Proofs.Ytbnglmeljbiglaa.Wl
open Go.Proofs.Ytbnglmeljbiglaa.Rgn
open Go.Proofs.Ytbnglmeljbiglaa.X4 Go.Proofs.Ytbnglmeljbiglaa.Pt Go.Proofs.Ytbnglmeljbiglaa.Ptb Go Go.RowKit Go.ChangeMaps Go.Proofs.Ytbnglmeljbiglaa.Arr Go.Proofs.Ytbnglmeljbiglaa.Mp Go.Proofs.Ytbnglmeljbiglaa.Ow Go.Proofs.Ytbnglmeljbiglaa.Dk Go.Proofs.Ytbnglmeljbiglaa.Fr Go.Proofs.YtbnglmeljbiglaaW.PrintWords Go.Proofs.YtbnglmeljbiglaaW.PrintLast Go.Proofs.YtbnglmeljbiglaaW.PrintMore
set_option linter.unusedVariables false
set_option linter.unusedSimpArgs false
/-- 'delete' in a region that draws, its run known. -/
theorem del_ {P : Program} {ops : Array Oper} {Q : Exit → Act → World → Prop} {oi : Oper} {N : Option Tmp} {a : Act} {w w1 : World} {v : Value} {K : Act → World → Prop} (s x : Operand) (t t2 : TypeId) (hw : Region.wanted oi (yielded ops a.tmps) = true) (hN : oi.dst = N)
    (ho : oi.op = .call { callee := .builtin .delete, args := #[s, x], argTypes := #[t, t2] }) (v1 v2 : Value) (hs : a.eval s = v1) (hx : a.eval x = v2) (hr : (Builtin.delete_ #[t, t2] oi.type #[v1, v2]).run P w = .ok v w1)
    (h : K (a.put N v) w1) : if Region.wanted oi (yielded ops a.tmps) = true then Oper.wp P oi a w K Q else K (a.put N undef) w := by
  refine value_ hw hN ?_ h
  unfold execOp
  simp only [ho, resolve, invoke, builtin, Sem.run_bind, Sem.run_pure, Result.andThen_ok, List.map_toArray, List.map_cons, List.map_nil, hs, hx, hr]
def cutE (W : WS) (p : Int) : Int := if p < W.low ∨ W.first < p then 2 else 0
/-- The log with nothing kept ahead of a place. -/
def cutTo (W : WS) (p : Int) : WS := { W with low := p, f := fun j => if W.low ≤ j ∧ j < p then none else W.f j }
def cutW (W : WS) (p : Int) : WS := if cutE W p = 0 then cutTo W p else W
theorem cutTo_low (W : WS) : cutTo W W.low = W := by
  have : (fun j => if W.low ≤ j ∧ j < W.low then none else W.f j) = W.f := by funext j; rw [if_neg (by omega)]
  unfold cutTo
  rw [this]
theorem cutTo_step (W : WS) (k : Int) (h : W.low ≤ k) : (fun j => if j = k then none else (cutTo W k).f j) = (cutTo W (k + 1)).f := by
  funext j
  unfold cutTo
  show (if j = k then none else if W.low ≤ j ∧ j < k then none else W.f j) = if W.low ≤ j ∧ j < k + 1 then none else W.f j
  by_cases e : j = k
  · rw [if_pos e, if_pos (by omega)]
  · rw [if_neg e]
    by_cases h1 : W.low ≤ j ∧ j < k
    · rw [if_pos h1, if_pos (by omega)]
    · rw [if_neg h1, if_neg (by omega)]
section
variable {w : World} {c : Nat → Nat} {gl m g : Nat} {W : WS}
set_option maxHeartbeats 16000000 in
theorem cut_calls (h : LO w c gl m g W) (hft : Fit W) (p : Int) : Calls Try.prog 32 #[.pointer (some ⟨gl, 0, none⟩), .int .i64 p] w fun e w' => e = .returned (.int .i64 (cutE W p)) ∧ LO w' c gl m g (cutW W p) ∧ Fr [3] w c w' c := by
  have c3 := h.c3; have c4 := h.c4
  have HL := Aside0.mk h; have HF := Aside0.mk hft
  clear h hft
  go_enter Try.func32, Try.ntmps32
  by_cases h0 : p < W.low
  · have e1 : cutE W p = 2 := if_pos (.inl h0)
    go_wp2
    go_ret
    exact ⟨by first | rfl | (rw [e1]; rfl), by unfold cutW; rw [e1]; exact HL.out, Fr.refl _ _ _⟩
  by_cases h1 : W.first < p
  · have e1 : cutE W p = 2 := if_pos (.inr h1)
    go_wp2
    go_ret
    exact ⟨by first | rfl | (rw [e1]; rfl), by unfold cutW; rw [e1]; exact HL.out, Fr.refl _ _ _⟩
  have e1 : cutE W p = 0 := if_neg (by omega)
  have HC := Aside0.mk (show cutW W p = cutTo W p by unfold cutW; rw [e1]; rfl)
  have HE := Aside0.mk e1; have H01 := Aside0.mk (And.intro (Int.not_lt.1 h0) (Int.not_lt.1 h1))
  go_upto_region 5 with (fail)
  clear e1 h0 h1 c3 c4
  go_loopw [] (fun wr => ∃ k : Int, Aside0 (W.low ≤ k ∧ k ≤ p) ∧ Aside0 (LO wr c gl m g (cutTo W k)) ∧ Aside0 (Fr [3] w c wr c)) (fun wr => match wr.cell? ⟨gl, 3, none⟩ with | some v => (p - intOf v).toNat | none => 0)
  case atStart => exact ⟨W.low, ⟨Int.le_refl _, H01.out.1⟩, ⟨by rw [cutTo_low]; exact HL.out⟩, ⟨Fr.refl _ _ _⟩⟩
  case round =>
    clear HL
    obtain ⟨k, HK, HL, HR⟩ := hrel
    have k3 : wr.cell? ⟨gl, 3, none⟩ = some (.int .i64 k) := HL.out.c3
    have k7 : wr.cell? ⟨gl, 7, none⟩ = some (.map (some m)) := HL.out.c7
    by_cases hlt : k < p
    · go_upto_region 7 with (fail)
      have HL2 := Aside0.mk HL.out.drew
      have k3 : wr.drew.cell? ⟨gl, 3, none⟩ = some (.int .i64 k) := HL2.out.c3
      have k7 : wr.drew.cell? ⟨gl, 7, none⟩ = some (.map (some m)) := HL2.out.c7
      have HLT := Aside0.mk hlt; have K3 := Aside0.mk (show wr.cell? ⟨gl, 3, none⟩ = some (.int .i64 k) from HL.out.c3)
      clear hlt
      obtain ⟨ob, hrun, hmp⟩ := run_delete_mp (P := Try.prog) (t := 84) (k := 3) (e := 9) (by kernel_rfl) (by kernel_rfl) HL2.out.map k 0
      have HM := Aside0.mk hmp; clear hmp
      refine start_ (n := 9) (S := fun w' => w'.cell? ⟨gl, 3, none⟩ = some (.int .i64 k) ∧ w'.cell? ⟨gl, 7, none⟩ = some (.map (some m))) (ds := [8]) #[false, false, false, false, false, false, false, false, false] (by kernel_rfl) rfl rfl ⟨k3, k7⟩ (fun hHeld => ?_)
      refine rgp 0 36 ?_
      refine rgp 1 37 ?_
      refine rgp 2 38 ?_
      refine rgp 4 40 ?_
      refine rgp 5 41 ?_
      refine rgp 6 42 ?_
      refine rgt 3 39 hHeld ?_
      refine rgt 7 43 hHeld ?_
      refine last_ (i := 8) (N := none) #[true, true, true, true, true, true, true, true, true] rfl rfl (by kernel_rfl) (by decide) (fun K hK => ?_)
      refine del_ _ _ _ _ (by kernel_rfl) rfl rfl _ _ rfl rfl hrun ?_
      refine hK _ _ ?_
      clear hK K
      refine done_ (by kernel_rfl) ?_
      have HT := HL2.out.turn HM.out
      have HL3 := Aside0.mk HT.1; have HR3 := Aside0.mk ((HR.out.trans (Fr.of_below (M := [3]) ((Below.refl _ _).drew))).trans HT.2)
      clear HT HM hrun k3 k7 HL2 HL HR
      generalize setBlock wr.drew m ob = X at *
      have k3 : X.cell? ⟨gl, 3, none⟩ = some (.int .i64 k) := HL3.out.c3
      have f3 : X.frozen? ⟨gl, 3, none⟩ = false := HL3.out.fz 3
      have hw : wrap64 (k + 1) = k + 1 := by have := HK.out; have := HLT.out; have := H01.out; have := HF.out.low; have := HF.out.first; unfold wrap64; omega
      go_wp2
      go_roundw
      case rel =>
        have hs := HL3.out.set 3 (.int .i64 (k + 1)) (W' := cutTo W (k + 1)) rfl (cutTo_step W k HK.out.1).symm
        exact ⟨k + 1, ⟨by have := HK.out; have := HLT.out; omega⟩, ⟨hs.1⟩, ⟨HR3.out.trans hs.2⟩⟩
      case measure =>
        have hs := HL3.out.set 3 (.int .i64 (k + 1)) (W' := cutTo W (k + 1)) rfl (cutTo_step W k HK.out.1).symm
        have h3 := hs.1.c3
        have := HLT.out
        rw [h3, K3.out]
        simp only [intOf, cutTo]; omega
    · have hkp : k = p := by have := HK.out; omega
      subst hkp
      go_wp2
      go_ret
      exact ⟨by first | rfl | (rw [HE.out]; rfl), by rw [HC.out]; exact HL.out, HR.out⟩
end
end Go.Proofs.Ytbnglmeljbiglaa.Wl
set_option maxRecDepth 8192
namespace Go.Proofs.Ytbnglmeljbiglaa.Wl
open Go.Proofs.Ytbnglmeljbiglaa.X4 Go.Proofs.Ytbnglmeljbiglaa.Pt Go.Proofs.Ytbnglmeljbiglaa.Ptb Go.Proofs.Ytbnglmeljbiglaa.Rp Go Go.RowKit Go.ChangeMaps Go.Proofs.Ytbnglmeljbiglaa.Arr Go.Proofs.Ytbnglmeljbiglaa.Mp Go.Proofs.Ytbnglmeljbiglaa.Ow Go.Proofs.Ytbnglmeljbiglaa.Dk Go.Proofs.Ytbnglmeljbiglaa.Fr Go.Proofs.YtbnglmeljbiglaaW.PrintWords
set_option linter.unusedVariables false
set_option linter.unusedSimpArgs false
abbrev Rc_ := S37
theorem B_app (a b : List UInt8) : B a ++ B b = B (a ++ b) := B_append a b
theorem B_empty {l : List UInt8} : B l = ⟨#[]⟩ ↔ l = [] := by
  constructor
  · intro h
    have := congrArg (fun b : ByteArray => b.data.toList) h
    simpa [B_list] using this
  · rintro rfl; rfl
theorem prB_one {r : Rc_} (h : mayB r = true) : 1 ≤ (prB r).length ∧ printF r = (B (prB r), 0) := by
  rcases print_may (r := r) with ⟨bs, hb, ho, hp, hm⟩ | ⟨hp, hm⟩
  · rw [prB_may hb h]; exact ⟨(rec_len hb).2.2, hp⟩
  · rw [hm] at h; cases h
theorem print_not {r : Rc_} (h : mayB r = false) : (printF r).2 = 1 := by
  rcases print_may (r := r) with ⟨bs, hb, ho, hp, hm⟩ | ⟨hp, hm⟩
  · rw [hm] at h; cases h
  · rw [hp]
theorem append_not (W : WS) {r : Rc_} (h : mayB r = false) : appendW W r = (0, 1, W) := by
  unfold appendW
  rw [if_pos (by rw [print_not h]; decide)]
theorem append_may (W : WS) {r : Rc_} (h : mayB r = true) : appendW W r = appW W (B (prB r)) := by
  unfold appendW
  rw [(prB_one h).2]
  exact if_neg (by simp)
theorem bytes_nil {l : List Rc_} (h : ∀ r ∈ l, mayB r = true) : bytesW l = [] ↔ l = [] := by
  constructor
  · intro e
    cases l with
    | nil => rfl
    | cons x t =>
      have h1 := (prB_one (h x (List.mem_cons_self ..))).1
      have h2 := congrArg List.length e
      rw [bytesW, List.length_append] at h2
      have : ([] : List UInt8).length = 0 := rfl
      omega
  · rintro rfl; rfl
/-- A log's sectors hold these records. -/
structure Rows (W : WS) (R : Int → List Rc_) : Prop where
  body : ∀ i, bdy W i = B (bytesW (R i))
  may : ∀ i, ∀ r ∈ R i, mayB r = true
  lo : ∀ i, i < W.low → R i = []
  hi : ∀ i, W.op < i → R i = []
  full : ∀ i, W.low ≤ i → i < W.op → R i ≠ []
  len : ∀ i, (bytesW (R i)).length ≤ 112
  ord : 0 ≤ W.low ∧ W.low ≤ W.first ∧ W.first ≤ W.op
theorem rows_new (base n : Int) : Rows (newW base n) (fun _ => []) :=
  ⟨fun _ => rfl, fun _ _ h => (by cases h), fun _ _ => rfl, fun _ _ => rfl, fun i h1 h2 => by
    have h1 : (1 : Int) ≤ i := h1
    have h2 : i < (1 : Int) := h2
    omega, fun _ => Nat.zero_le _, by show (0 : Int) ≤ 1 ∧ (1 : Int) ≤ 1 ∧ (1 : Int) ≤ 1; omega⟩
variable {W : WS} {R : Int → List Rc_}
theorem Rows.empty (h : Rows W R) (i : Int) : bdy W i = ⟨#[]⟩ ↔ R i = [] := by
  rw [h.body, B_empty, bytes_nil (h.may i)]
theorem Rows.size (h : Rows W R) (i : Int) : (bdy W i).size = (bytesW (R i)).length := by rw [h.body, B_size]
theorem Rows.le (h : Rows W R) (i : Int) : (bdy W i).size ≤ 112 := by rw [h.size]; exact h.len i
/-- The next sector to be begun. -/
def nxW (W : WS) : Int := if bdy W W.op = ⟨#[]⟩ then W.op else W.op + 1
theorem room_nx (W : WS) : roomW W = W.low + W.n - nxW W := by
  unfold roomW nxW
  split <;> omega
/-- The records of a sector, with their places. -/
def secE (R : Int → List Rc_) (i : Int) : List En_ := (wantW 0 (R i)).map (shiftE i)
theorem allS_rows (l : List Rc_) : allS (B (bytesW l)) = wantW 0 l := by
  unfold allS
  rw [all_rows]
  rfl
theorem Rows.ent (h : Rows W R) (i : Int) : entL i (bdy W i) = secE R i := by
  unfold entL secE
  rw [h.body, allS_rows]
def allK (R : Int → List Rc_) (low : Int) (k : Nat) : List En_ := (List.range k).flatMap fun (q : Nat) => secE R (low + (q : Int))
theorem allK_succ (R : Int → List Rc_) (low : Int) (k : Nat) : allK R low (k + 1) = allK R low k ++ secE R (low + (k : Int)) := by
  unfold allK
  rw [List.range_succ, List.flatMap_append]
  simp
/-- All records that a log holds. -/
def allR (W : WS) (R : Int → List Rc_) : List En_ := allK R W.low (W.op + 1 - W.low).toNat
theorem Rows.scanK (h : Rows W R) (from_ : Int) (k : Nat) : scanK W from_ k = (allK R W.low k).filter fun x => decide (from_ ≤ x.f0) := by
  induction k with
  | zero => rfl
  | succ k ih => rw [scanK_succ, allK_succ, List.filter_append, ih, h.ent]
theorem secE_at (R : Int → List Rc_) (i : Int) : ∀ x ∈ secE R i, i * 128 ≤ x.f0 ∧ x.f0 < i * 128 + (bytesW (R i)).length := by
  intro x hx
  obtain ⟨y, hy, rfl⟩ := List.mem_map.1 hx
  have := allS_at (s := B (bytesW (R i))) y (by rw [allS_rows]; exact hy)
  rw [B_size] at this
  show i * 128 ≤ y.f0 + i * 128 ∧ y.f0 + i * 128 < _
  omega
/-- One more record in a sector. -/
def putR (R : Int → List Rc_) (i : Int) (r : Rc_) : Int → List Rc_ := fun j => if j = i then R i ++ [r] else R j
theorem putR_at (R : Int → List Rc_) (i : Int) (r : Rc_) : putR R i r i = R i ++ [r] := if_pos rfl
theorem putR_off (R : Int → List Rc_) {i j : Int} (r : Rc_) (h : j ≠ i) : putR R i r j = R j := if_neg h
theorem secE_put (R : Int → List Rc_) (i : Int) {r : Rc_} (hm : mayB r = true) : secE (putR R i r) i = secE R i ++ [⟨i * 128 + (bytesW (R i)).length, r⟩] := by
  unfold secE
  rw [putR_at, want_append, List.map_append]
  refine congrArg (fun t : List En_ => List.map (shiftE i) (wantW 0 (R i)) ++ t) ?_
  rw [wantW, wantW, if_pos hm]
  show [shiftE i ⟨((0 + (bytesW (R i)).length : Nat) : Int), r⟩] = _
  unfold shiftE
  refine congrArg (fun z => [(⟨z, r⟩ : En_)]) ?_
  show ((0 + (bytesW (R i)).length : Nat) : Int) + i * 128 = _
  omega
theorem allK_put (R : Int → List Rc_) (low i : Int) (r : Rc_) (k : Nat) (h : low + k ≤ i) : allK (putR R i r) low k = allK R low k := by
  induction k with
  | zero => rfl
  | succ k ih =>
    rw [allK_succ, allK_succ, ih (by omega)]
    unfold secE
    rw [putR_off R r (by omega)]
/-- Where a record goes. -/
structure Goes (W : WS) (R : Int → List Rc_) (r : Rc_) (i : Int) : Prop where
  sec : i = W.op ∨ (i = W.op + 1 ∧ R W.op ≠ [])
  fits : (bytesW (R i)).length + (prB r).length ≤ 112
  room : R i = [] → i < W.low + W.n
/-- The log behind an Append. -/
def putW (W : WS) (R : Int → List Rc_) (r : Rc_) (i : Int) : WS := { W with op := i, f := fill W.f i (B (bytesW (R i ++ [r]))) }
theorem append_cases (h : Rows W R) {r : Rc_} (hm : mayB r = true) : (appendW W r = (0, 5, W) ∧ W.low + W.n ≤ nxW W) ∨ ∃ i, Goes W R r i ∧ appendW W r = (i * 128 + (bytesW (R i)).length, 0, putW W R r i) := by
  rw [append_may W hm]
  obtain ⟨p1, p2⟩ := prB_one hm
  have p3 := prB_le r
  have hb : ∀ i : Int, B (bytesW (R i)) ++ B (prB r) = B (bytesW (R i ++ [r])) := fun i => by
    rw [B_app, bytes_append]
    simp [bytesW]
  by_cases e : R W.op = []
  · have eb : bdy W W.op = ⟨#[]⟩ := (h.empty _).2 e
    have eg : goesW W (B (prB r)).size = (W.op, ⟨#[]⟩) := by
      unfold goesW
      rw [if_neg (fun x => x.1 eb), eb]
    unfold appW
    rw [eg]
    by_cases hr : W.low + W.n ≤ W.op
    · left
      refine ⟨if_pos ⟨rfl, hr⟩, ?_⟩
      unfold nxW
      rw [if_pos eb]; exact hr
    · right
      refine ⟨W.op, ⟨.inl rfl, by rw [e]; show 0 + _ ≤ 112; omega, fun _ => by omega⟩, ?_⟩
      rw [if_neg (fun x => hr x.2)]
      unfold putW
      rw [← hb, e]
      rfl
  · have eb : ¬ bdy W W.op = ⟨#[]⟩ := fun x => e ((h.empty _).1 x)
    have en : nxW W = W.op + 1 := if_neg eb
    by_cases hf : 112 < (bdy W W.op).size + (B (prB r)).size
    · have eg : goesW W (B (prB r)).size = (W.op + 1, ⟨#[]⟩) := by
        unfold goesW
        rw [if_pos ⟨eb, hf⟩]
      have e1 : R (W.op + 1) = [] := h.hi _ (by omega)
      unfold appW
      rw [eg]
      by_cases hr : W.low + W.n ≤ W.op + 1
      · left
        exact ⟨if_pos ⟨rfl, hr⟩, by omega⟩
      · right
        refine ⟨W.op + 1, ⟨.inr ⟨rfl, e⟩, by rw [e1]; show 0 + _ ≤ 112; omega, fun _ => by omega⟩, ?_⟩
        rw [if_neg (fun x => hr x.2)]
        unfold putW
        rw [← hb, e1]
        rfl
    · have eg : goesW W (B (prB r)).size = (W.op, bdy W W.op) := by
        unfold goesW
        rw [if_neg (fun x => hf x.2)]
      right
      unfold appW
      rw [eg]
      refine ⟨W.op, ⟨.inl rfl, by rw [h.size, B_size] at hf; omega, fun x => absurd x e⟩, ?_⟩
      rw [if_neg (fun x => eb x.1)]
      unfold putW
      rw [← hb, h.body, B_size]
theorem Goes.ge {r : Rc_} {i : Int} (g : Goes W R r i) : W.op ≤ i := by rcases g.sec with e | ⟨e, _⟩ <;> omega
theorem put_rows (h : Rows W R) {r : Rc_} (hm : mayB r = true) {i : Int} (g : Goes W R r i) : Rows (putW W R r i) (putR R i r) := by
  have hge := g.ge
  have ho := h.ord
  refine ⟨fun j => ?_, fun j x hx => ?_, fun j hj => ?_, fun j hj => ?_, fun j h1 h2 => ?_, fun j => ?_, ?_⟩
  · show (fill W.f i (B (bytesW (R i ++ [r]))) j).getD _ = _
    unfold fill putR
    by_cases e : j = i
    · rw [if_pos e, if_pos e]; rfl
    · rw [if_neg e, if_neg e]; exact h.body j
  · unfold putR at hx
    by_cases e : j = i
    · rw [if_pos e] at hx
      rcases List.mem_append.1 hx with hx | hx
      · exact h.may i x hx
      · rw [List.mem_singleton.1 hx]; exact hm
    · rw [if_neg e] at hx; exact h.may j x hx
  · have hj : j < W.low := hj
    rw [putR_off R r (by omega)]
    exact h.lo j hj
  · have hj : i < j := hj
    rw [putR_off R r (by omega)]
    exact h.hi j (by omega)
  · have h1 : W.low ≤ j := h1
    have h2 : j < i := h2
    rw [putR_off R r (by omega)]
    by_cases e : j < W.op
    · exact h.full j h1 e
    · rcases g.sec with e2 | ⟨e2, e3⟩
      · omega
      · rw [show j = W.op by omega]; exact e3
  · unfold putR
    by_cases e : j = i
    · rw [if_pos e, bytes_append, List.length_append, bytesW, bytesW, List.append_nil]
      exact g.fits
    · rw [if_neg e]; exact h.len j
  · show 0 ≤ W.low ∧ W.low ≤ W.first ∧ W.first ≤ i
    omega
theorem put_all (h : Rows W R) {r : Rc_} (hm : mayB r = true) {i : Int} (g : Goes W R r i) : allR (putW W R r i) (putR R i r) = allR W R ++ [⟨i * 128 + (bytesW (R i)).length, r⟩] := by
  have hge := g.ge
  have ho := h.ord
  have e1 : allR (putW W R r i) (putR R i r) = allK (putR R i r) W.low ((i - W.low).toNat + 1) := by
    show allK _ W.low (i + 1 - W.low).toNat = _
    rw [show (i + 1 - W.low).toNat = (i - W.low).toNat + 1 by omega]
  have e2 : allK R W.low ((i - W.low).toNat + 1) = allR W R := by
    rcases g.sec with e | ⟨e, e3⟩
    · unfold allR
      rw [show (W.op + 1 - W.low).toNat = (i - W.low).toNat + 1 by omega]
    · rw [allK_succ, show W.low + (((i - W.low).toNat : Nat) : Int) = i by omega]
      have : secE R i = [] := by unfold secE; rw [h.hi i (by omega)]; rfl
      rw [this, List.append_nil]
      unfold allR
      rw [show (W.op + 1 - W.low).toNat = (i - W.low).toNat by omega]
  rw [e1, ← e2, allK_succ, allK_succ, show W.low + (((i - W.low).toNat : Nat) : Int) = i by omega, secE_put R i hm, allK_put R W.low i r _ (by omega), List.append_assoc]
theorem put_nx (h : Rows W R) {r : Rc_} (hm : mayB r = true) {i : Int} (g : Goes W R r i) : nxW (putW W R r i) = i + 1 ∧ nxW W ≤ i + 1 ∧ i ≤ nxW W ∧ W.op ≤ i := by
  have h1 := put_rows h hm g
  have h2 : ¬ bdy (putW W R r i) i = ⟨#[]⟩ := fun e => by
    have := (h1.empty i).1 e
    rw [putR_at] at this
    simp at this
  refine ⟨if_neg h2, ?_, ?_, g.ge⟩
  · have := g.ge
    unfold nxW
    split <;> omega
  · rcases g.sec with e | ⟨e, e3⟩
    · unfold nxW; split <;> omega
    · have : ¬ bdy W W.op = ⟨#[]⟩ := fun x => e3 ((h.empty _).1 x)
      unfold nxW; rw [if_neg this]; omega
theorem sctr_at {i : Int} {k : Nat} (hi : 0 ≤ i) (hk : k < 128) : sctr (i * 128 + (k : Int)) = i := by
  unfold sctr
  rw [Int.tdiv_eq_ediv_of_nonneg (by omega)]
  omega
theorem put_find (h : Rows W R) {r : Rc_} (hm : mayB r = true) {i : Int} (g : Goes W R r i) : findW (putW W R r i) (i * 128 + (bytesW (R i)).length) = some ⟨i * 128 + (bytesW (R i)).length, r⟩ := by
  have hge := g.ge
  have ho := h.ord
  have hl := h.len i
  unfold findW
  rw [if_pos (by omega), sctr_at (by omega) (by omega), (put_rows h hm g).ent, secE_put R i hm, List.find?_append]
  have : (secE R i).find? (fun x => x.f0 == i * 128 + (bytesW (R i)).length) = none := by
    rw [List.find?_eq_none]
    intro x hx
    have := (secE_at R i x hx).2
    simp only [beq_iff_eq]
    omega
  rw [this]
  simp
end Go.Proofs.Ytbnglmeljbiglaa.Wl
set_option maxRecDepth 8192
namespace Go.Proofs.Ytbnglmeljbiglaa.Wl
open Go.Proofs.Ytbnglmeljbiglaa.X4 Go.Proofs.Ytbnglmeljbiglaa.Pt Go.Proofs.Ytbnglmeljbiglaa.Ptb Go.Proofs.Ytbnglmeljbiglaa.Rp Go.Proofs.Ytbnglmeljbiglaa.Cr Go Go.RowKit Go.ChangeMaps Go.Proofs.Ytbnglmeljbiglaa.Arr Go.Proofs.Ytbnglmeljbiglaa.Mp Go.Proofs.Ytbnglmeljbiglaa.Ow Go.Proofs.Ytbnglmeljbiglaa.Dk Go.Proofs.Ytbnglmeljbiglaa.Fr Go.Proofs.YtbnglmeljbiglaaW.PrintWords
set_option linter.unusedVariables false
set_option linter.unusedSimpArgs false
def secB (e i : Int) (b : ByteArray) : ByteArray := (X12.packI e i b).1
theorem secB_size {e i : Int} {b : ByteArray} (he : 0 ≤ e ∧ e < 4294967296) (hi : 0 ≤ i ∧ i < 4294967296) (hb : b.size ≤ 112) : (secB e i b).size = 128 := by
  unfold secB
  rw [← X12.bl_len, (X12.packI_bl e i b he hi hb).1, Slab.secL_len _ _ _ (by rw [X12.bl_len]; exact hb)]
theorem secB_un {e i : Int} {b : ByteArray} (he : 0 ≤ e ∧ e < 4294967296) (hi : 0 ≤ i ∧ i < 4294967296) (hb : b.size ≤ 112) : X12.unpackF (secB e i b) = (e, i, b, 0) := X12.unpack_pack e i b he hi hb
def valS (s : ByteArray) : Prop := (X12.unpackF s).2.2.2 = 0
abbrev epS (s : ByteArray) : Int := (X12.unpackF s).1
theorem not_val : ¬ valS (noughts 128) := by unfold valS; decide +kernel
theorem secB_val {e i : Int} {b : ByteArray} (he : 0 ≤ e ∧ e < 4294967296) (hi : 0 ≤ i ∧ i < 4294967296) (hb : b.size ≤ 112) : valS (secB e i b) ∧ epS (secB e i b) = e := by
  unfold valS epS
  rw [secB_un he hi hb]
  exact ⟨rfl, rfl⟩
/-- What a sector says as the log's i-th one. -/
def whole1 (s : ByteArray) (i : Int) : Option (Int × ByteArray) := if (X12.unpackF s).2.2.2 = 0 ∧ (X12.unpackF s).2.1 = i ∧ (X12.unpackF s).2.2.1 ≠ ⟨#[]⟩ ∧ allE (X12.unpackF s).2.2.1 = 0 then some ((X12.unpackF s).1, (X12.unpackF s).2.2.1) else none
theorem whole1_val {s : ByteArray} {i : Int} {q : Int × ByteArray} (h : whole1 s i = some q) : valS s ∧ q.1 = epS s := by
  unfold whole1 at h
  split at h
  · rename_i c
    injection h with h
    subst h
    exact ⟨c.1, rfl⟩
  · cases h
theorem whole1_not {s : ByteArray} (i : Int) (h : ¬ valS s) : whole1 s i = none := by
  cases e : whole1 s i with
  | none => rfl
  | some q => exact absurd (whole1_val e).1 h
/-- It is refused behind an epoch. -/
def Ref (last : Int) (o : Option (Int × ByteArray)) : Prop := ∀ q, o = some q → q.1 < last
theorem ref_none (last : Int) : Ref last none := fun q h => by cases h
/-- The epoch ahead of a sector. -/
def lastE (e : Int → Int) (k : Int) : Int := if k = 1 then 0 else e (k - 1)
theorem tmod_small {i n : Int} (h0 : 0 ≤ i) (h1 : i < n) : i.tmod n = i := Int.tmod_eq_of_lt h0 h1
theorem tmod_in {i n : Int} (h0 : 0 ≤ i) (hn : 0 < n) : 0 ≤ i.tmod n ∧ i.tmod n < n := by
  rw [Int.tmod_eq_emod_of_nonneg h0]
  exact ⟨Int.emod_nonneg _ (by omega), Int.emod_lt_of_pos _ hn⟩
/-- What the disk has of a log: S is what is safe, e the sectors' epochs. -/
structure Keep (W : WS) (R : Int → List Rc_) (S : List ByteArray) (e : Int → Int) : Prop where
  rows : Rows W R
  low : W.low = 1
  n : 8 ≤ W.n ∧ W.n ≤ 64
  base : 0 ≤ W.base ∧ W.base + W.n ≤ S.length
  nx : nxW W ≤ W.n + 1
  ep : 1 ≤ W.ep
  safe : ∀ i, 1 ≤ i → i < W.first → cut S (placeW W i) = secB (e i) i (B (bytesW (R i)))
  eps : ∀ i, 1 ≤ i → i < W.first → 1 ≤ e i ∧ e i ≤ W.ep
  mono : ∀ i, 1 ≤ i → i + 1 < W.first → e i ≤ e (i + 1)
  stale : ∀ i, W.first ≤ i → i ≤ W.n → valS (cut S (placeW W i)) → epS (cut S (placeW W i)) < W.ep
  stop : W.first ≤ W.n → Ref (lastE e W.first) (whole1 (cut S (placeW W W.first)) W.first)
theorem cut_rep (L : Nat) (s : ByteArray) (p : Int) (h0 : 0 ≤ p) (h1 : p < L) : cut (List.replicate L s) p = s := by
  unfold cut
  rw [List.getElem?_replicate, if_pos (by omega)]
  rfl
theorem keep_new {L : Nat} {base n : Int} (hn : 8 ≤ n ∧ n ≤ 64) (hb : 0 ≤ base ∧ base + n ≤ L) : Keep (newW base n) (fun _ => []) (newD L).safe (fun _ => 0) := by
  have hc : ∀ i, 0 ≤ i → cut (newD L).safe (placeW (newW base n) i) = noughts 128 := fun i hi => by
    have := tmod_in hi (show 0 < n by omega)
    refine cut_rep L _ _ ?_ ?_
    · show 0 ≤ base + i.tmod n; omega
    · show base + i.tmod n < L; omega
  refine ⟨rows_new base n, rfl, hn, ⟨hb.1, ?_⟩, ?_, ?_, fun i h1 h2 => ?_, fun i h1 h2 => ?_, fun i h1 h2 => Int.le_refl _, fun i h1 h2 hv => ?_, fun h1 => ?_⟩
  · show base + n ≤ ((List.replicate L (noughts 128)).length : Int)
    rw [List.length_replicate]; exact hb.2
  · show nxW (newW base n) ≤ n + 1
    have : nxW (newW base n) = 1 := rfl
    omega
  · show (1 : Int) ≤ 1; omega
  · have h2 : i < (1 : Int) := h2
    omega
  · have h2 : i < (1 : Int) := h2
    omega
  · have h1 : (1 : Int) ≤ i := h1
    rw [hc i (by omega)] at hv
    exact absurd hv not_val
  · rw [hc _ (by show (0 : Int) ≤ 1; omega), whole1_not _ not_val]
    exact ref_none _
variable {W : WS} {R : Int → List Rc_} {S : List ByteArray} {e : Int → Int} {d : DS}
theorem Keep.pl (h : Keep W R S e) {i : Int} (hi : 0 ≤ i) : 0 ≤ placeW W i ∧ placeW W i < S.length := by
  have := tmod_in hi (show 0 < W.n by have := h.n; omega)
  have := h.base
  unfold placeW
  omega
theorem Keep.op_le (h : Keep W R S e) : W.op ≤ nxW W ∧ nxW W ≤ W.op + 1 := by unfold nxW; split <;> omega
theorem Keep.inj (h : Keep W R S e) {i j : Int} (i1 : 1 ≤ i) (i2 : i ≤ W.n) (j1 : 1 ≤ j) (j2 : j ≤ W.n) (hp : placeW W i = placeW W j) : i = j := by
  unfold placeW at hp
  by_cases a : i = W.n
  · by_cases b : j = W.n
    · omega
    · rw [a, Int.tmod_self, tmod_small (by omega) (by omega)] at hp; omega
  · by_cases b : j = W.n
    · rw [b, Int.tmod_self, tmod_small (i := i) (by omega) (by omega)] at hp; omega
    · rw [tmod_small (i := i) (by omega) (by omega), tmod_small (i := j) (by omega) (by omega)] at hp; omega
theorem keep_put (h : Keep W R S e) {r : Rc_} (hm : mayB r = true) {i : Int} (g : Goes W R r i) : Keep (putW W R r i) (putR R i r) S e := by
  have hge := g.ge
  have ho := h.rows.ord
  have hnx := put_nx h.rows hm g
  refine ⟨put_rows h.rows hm g, h.low, h.n, h.base, ?_, h.ep, fun j h1 h2 => ?_, h.eps, h.mono, h.stale, h.stop⟩
  · rw [hnx.1]
    show i + 1 ≤ W.n + 1
    by_cases e1 : R i = []
    · have := g.room e1
      have := h.low
      omega
    · have e2 : i = W.op := by
        rcases g.sec with x | ⟨x, _⟩
        · exact x
        · exact absurd (h.rows.hi i (by omega)) e1
      have : nxW W = W.op + 1 := by
        unfold nxW
        rw [if_neg (fun x => e1 (e2 ▸ (h.rows.empty _).1 x))]
      have := h.nx
      omega
  · have h2 : j < W.first := h2
    rw [putR_off R r (by omega)]
    exact h.safe j h1 h2
/-- The writes of a Flush. -/
def wrL (W : WS) (k : Nat) : WL := (List.range k).map fun (q : Nat) => (placeW W (W.first + q), secW W (W.first + q))
theorem wrL_succ (W : WS) (k : Nat) : wrL W (k + 1) = wrL W k ++ [(placeW W (W.first + k), secW W (W.first + k))] := by
  unfold wrL
  rw [List.range_succ, List.map_append]
  rfl
theorem wrL_mono (W : WS) {a b : Nat} (h : a ≤ b) : ∀ q ∈ wrL W a, q ∈ wrL W b := by
  intro q hq
  obtain ⟨k, hk, rfl⟩ := List.mem_map.1 hq
  exact List.mem_map.2 ⟨k, List.mem_range.2 (by have := List.mem_range.1 hk; omega), rfl⟩
theorem Keep.sec (h : Keep W R S e) (i : Int) : secW W i = secB W.ep i (B (bytesW (R i))) := by
  unfold secW secB
  rw [h.rows.body]
theorem flushL_keep (h : Keep W R S e) (hep : W.ep < 4294967296) : ∀ (k q : Nat) (d : DS), Mid S (wrL W q) d → W.first + q + k = W.op + 1 → W.first + q ≤ nxW W →
    (flushL W k (W.first + q) d).1 = 0 ∧ (flushL W k (W.first + q) d).2.1 = nxW W ∧ Mid S (wrL W (nxW W - W.first).toNat) (flushL W k (W.first + q) d).2.2 ∧ (d.fuse = -1 → (flushL W k (W.first + q) d).2.2.fuse = -1)
    ∨ (flushL W k (W.first + q) d).1 = 4 ∧ Ded S (wrL W (nxW W - W.first).toNat) (flushL W k (W.first + q) d).2.2 ∧ d.fuse ≠ -1 := by
  intro k
  have ho := h.rows.ord
  have hol := h.op_le
  have hlow := h.low
  have hnn := h.n
  have hnx := h.nx
  have hep1 := h.ep
  induction k with
  | zero =>
    intro q d hm hk hq
    unfold flushL
    left
    have e1 : nxW W = W.first + q := by omega
    refine ⟨rfl, e1.symm, ?_, fun x => x⟩
    rw [show (nxW W - W.first).toNat = q by omega]
    exact hm
  | succ k ih =>
    intro q d hm hk hq
    unfold flushL
    by_cases hb : W.first + q ≤ W.op ∧ bdy W (W.first + q) ≠ ⟨#[]⟩
    · have hb1 := hb.1
      have hlt : W.first + q < nxW W := by
        by_cases x : W.first + (q : Int) = W.op
        · have : ¬ bdy W W.op = ⟨#[]⟩ := fun y => hb.2 (by rw [x]; exact y)
          have : nxW W = W.op + 1 := if_neg this
          omega
        · omega
      have hpl := h.pl (i := W.first + q) (by omega)
      have hsz : (secW W (W.first + q)).size = 128 := by
        rw [h.sec]
        exact secB_size (by omega) (by omega) (by rw [B_size]; exact h.rows.len _)
      rw [if_pos hb]
      rcases mid_write hm hpl.1 hpl.2 hsz with ⟨e1, m1⟩ | ⟨e1, m1⟩
      · rw [if_neg (by rw [e1]; decide)]
        rw [← wrL_succ] at m1
        have := ih (q + 1) _ m1 (by push_cast; omega) (by push_cast; omega)
        rw [show W.first + ((q + 1 : Nat) : Int) = W.first + q + 1 by push_cast; omega] at this
        rcases this with ⟨a1, a2, a3, a4⟩ | ⟨a1, a2, a3⟩
        · exact .inl ⟨a1, a2, a3, fun x => a4 ((free_write hm.2.2 x _ _).2.2)⟩
        · exact .inr ⟨a1, a2, fun x => a3 ((free_write hm.2.2 x _ _).2.2)⟩
      · rw [if_pos (by rw [e1]; decide)]
        exact .inr ⟨e1, m1.mono (wrL_mono W (by omega)), fun x => (free_write hm.2.2 x _ _).1 e1⟩
    · rw [if_neg hb]
      have hz : bdy W (W.first + q) = ⟨#[]⟩ := by
        by_cases z : bdy W (W.first + q) = ⟨#[]⟩
        · exact z
        · exact absurd ⟨by omega, z⟩ hb
      have e1 : W.first + (q : Int) = W.op := by
        by_cases x : W.first + (q : Int) = W.op
        · exact x
        · exact absurd ((h.rows.empty _).1 hz) (h.rows.full _ (by omega) (by omega))
      have e2 : nxW W = W.op := if_pos (by rw [← e1]; exact hz)
      left
      refine ⟨rfl, by show W.first + (q : Int) = nxW W; omega, ?_, fun x => x⟩
      rw [show (nxW W - W.first).toNat = q by omega]
      exact hm
theorem last_wr (h : Keep W R S e) : ∀ k : Nat, W.first + k ≤ W.n + 1 → ∀ i, 1 ≤ i → i ≤ W.n → lastOf (wrL W k) (placeW W i) = if W.first ≤ i ∧ i < W.first + k then some (secW W i) else none := by
  intro k
  have ho := h.rows.ord
  have hlow := h.low
  induction k with
  | zero => intro _ i _ _; rw [if_neg (by omega)]; rfl
  | succ k ih =>
    intro hk i h1 h2
    rw [wrL_succ, last_push]
    simp only []
    by_cases x : i = W.first + k
    · rw [if_pos (by rw [x]), if_pos (by push_cast; omega), x]
    · rw [if_neg (fun y => x (h.inj h1 h2 (by omega) (by push_cast at hk; omega) y)), ih (by push_cast at hk; omega) i h1 h2]
      by_cases y : W.first ≤ i ∧ i < W.first + k
      · rw [if_pos y, if_pos (by push_cast; omega)]
      · rw [if_neg y, if_neg (by push_cast; omega)]
/-- The epochs behind a Flush. -/
def eN (W : WS) (e : Int → Int) : Int → Int := fun i => if i < W.first then e i else W.ep
theorem lastE_first (W : WS) (e : Int → Int) : lastE (eN W e) W.first = lastE e W.first := by
  unfold lastE eN
  split
  · rfl
  · rw [if_pos (by omega)]
theorem lastE_past (W : WS) (e : Int → Int) {k : Int} (h1 : 1 ≤ W.first) (h : W.first < k) : lastE (eN W e) k = W.ep := by
  unfold lastE eN
  rw [if_neg (by omega), if_neg (by omega)]
/-- The log behind a Flush. -/
def doneW (W : WS) : WS := { W with first := nxW W, op := nxW W }
theorem done_rows (h : Rows W R) : Rows (doneW W) R ∧ nxW (doneW W) = nxW W := by
  have ho := h.ord
  have hol : W.op ≤ nxW W ∧ nxW W ≤ W.op + 1 := by unfold nxW; split <;> omega
  have hz : bdy W (nxW W) = ⟨#[]⟩ := by
    by_cases z : bdy W W.op = ⟨#[]⟩
    · have : nxW W = W.op := if_pos z
      rw [this]; exact z
    · have : nxW W = W.op + 1 := if_neg z
      rw [this, h.empty, h.hi _ (by omega)]
  refine ⟨⟨h.body, h.may, h.lo, fun i hi => h.hi i (by have hi : nxW W < i := hi; omega), fun i h1 h2 => ?_, h.len, ?_⟩, if_pos hz⟩
  · have h2 : i < nxW W := h2
    by_cases x : i < W.op
    · exact h.full i h1 x
    · have e1 : i = W.op := by omega
      have e2 : ¬ bdy W W.op = ⟨#[]⟩ := fun z => by
        have : nxW W = W.op := if_pos z
        omega
      rw [e1]
      exact fun z => e2 ((h.empty _).2 z)
  · show 0 ≤ W.low ∧ W.low ≤ nxW W ∧ nxW W ≤ nxW W
    omega
/-- The row that is safe behind a Flush. -/
def newS (W : WS) (S : List ByteArray) : List ByteArray := overF (lastOf (wrL W (nxW W - W.first).toNat)) S
theorem newS_cut (h : Keep W R S e) {i : Int} (h1 : 1 ≤ i) (h2 : i ≤ W.n) : cut (newS W S) (placeW W i) = if W.first ≤ i ∧ i < nxW W then secW W i else cut S (placeW W i) := by
  have hp := h.pl (i := i) (by omega)
  have ho := h.rows.ord
  have hol := h.op_le
  have hnx := h.nx
  unfold newS
  rw [cut_over _ _ _ hp.1 hp.2, last_wr h _ (by omega) i h1 h2]
  by_cases x : W.first ≤ i ∧ i < nxW W
  · rw [if_pos (by omega), if_pos x]; rfl
  · rw [if_neg (by omega), if_neg x]; rfl
theorem ref_past (h : Keep W R S e) {k : Int} (h1 : W.first < k) (h2 : k ≤ W.n) {s : ByteArray} (hs : s = cut S (placeW W k)) : Ref (lastE (eN W e) k) (whole1 s k) := by
  have ho := h.rows.ord
  have hlow := h.low
  subst hs
  rw [lastE_past W e (by omega) h1]
  intro q hq
  obtain ⟨v1, v2⟩ := whole1_val hq
  rw [v2]
  exact h.stale k (by omega) h2 v1
theorem eN_mono (h : Keep W R S e) {i : Int} (h1 : 1 ≤ i) : eN W e i ≤ eN W e (i + 1) := by
  unfold eN
  by_cases x : i + 1 < W.first
  · rw [if_pos (by omega), if_pos x]; exact h.mono i h1 x
  · rw [if_neg x]
    by_cases y : i < W.first
    · rw [if_pos y]; exact (h.eps i h1 y).2
    · rw [if_neg y]; exact Int.le_refl _
theorem eN_in (h : Keep W R S e) {i : Int} (h1 : 1 ≤ i) : 1 ≤ eN W e i ∧ eN W e i ≤ W.ep := by
  unfold eN
  split
  · exact h.eps i h1 (by assumption)
  · exact ⟨h.ep, Int.le_refl _⟩
theorem keep_done (h : Keep W R S e) : Keep (doneW W) R (newS W S) (eN W e) := by
  have ho := h.rows.ord
  have hol := h.op_le
  have hlow := h.low
  have hnx := h.nx
  obtain ⟨r1, r2⟩ := done_rows h.rows
  have hc : ∀ i, 1 ≤ i → i ≤ W.n → cut (newS W S) (placeW (doneW W) i) = if W.first ≤ i ∧ i < nxW W then secW W i else cut S (placeW W i) := fun i a b => newS_cut h a b
  refine ⟨r1, hlow, h.n, ⟨h.base.1, ?_⟩, by rw [r2]; exact hnx, h.ep, fun i h1 h2 => ?_, fun i h1 h2 => ?_, fun i h1 h2 => eN_mono h h1, fun i h1 h2 hv => ?_, fun h1 => ?_⟩
  · show W.base + W.n ≤ ((newS W S).length : Int)
    unfold newS; rw [over_len]; exact h.base.2
  · have h2 : i < nxW W := h2
    rw [hc i h1 (by omega)]
    unfold eN
    by_cases x : i < W.first
    · rw [if_neg (by omega), if_pos x]; exact h.safe i h1 x
    · rw [if_pos (by omega), if_neg x, h.sec]
  · exact eN_in h h1
  · have h1 : nxW W ≤ i := h1
    have h2 : i ≤ W.n := h2
    rw [hc i (by omega) h2, if_neg (by omega)] at hv ⊢
    exact h.stale i (by omega) h2 hv
  · have h1 : nxW W ≤ W.n := h1
    show Ref (lastE (eN W e) (nxW W)) (whole1 (cut (newS W S) (placeW (doneW W) (nxW W))) (nxW W))
    rw [hc _ (by omega) h1, if_neg (by omega)]
    by_cases x : nxW W = W.first
    · rw [x, lastE_first]; exact h.stop (by omega)
    · exact ref_past h (by omega) h1 rfl
theorem done_same (h : Rows W R) (hn : nxW W = W.first) : doneW W = W := by
  have ho := h.ord
  have hol : W.op ≤ nxW W ∧ nxW W ≤ W.op + 1 := by unfold nxW; split <;> omega
  have e1 : W.op = W.first := by omega
  unfold doneW
  rw [hn]
  cases W with
  | mk a b c d e f g =>
    have e2 : e = d := e1
    subst e2
    rfl
theorem newS_same (W : WS) (S : List ByteArray) (hn : nxW W = W.first) : newS W S = S := by
  unfold newS
  rw [hn, Int.sub_self]
  show overF (lastOf []) S = S
  rw [last_nil, over_none]
/-- What a Flush does: all is safe, or the power goes. -/
theorem flush_keep (h : Keep W R S e) (hep : W.ep < 4294967296) (hm : Mid S [] d) :
    ((flushW W d).1 = 0 ∧ (flushW W d).2.1 = doneW W ∧ Mid (newS W S) [] (flushW W d).2.2 ∧ (d.fuse = -1 → (flushW W d).2.2.fuse = -1))
    ∨ ((flushW W d).1 = 4 ∧ (flushW W d).2.1 = W ∧ Ded S (wrL W (nxW W - W.first).toNat) (flushW W d).2.2 ∧ d.fuse ≠ -1) := by
  have ho := h.rows.ord
  have hol := h.op_le
  have hl := flushL_keep h hep (W.op + 1 - W.first).toNat 0 d hm (by omega) (by omega)
  rw [show W.first + ((0 : Nat) : Int) = W.first by omega] at hl
  unfold flushW
  unfold flushR
  generalize flushL W (W.op + 1 - W.first).toNat W.first d = x at *
  rcases hl with ⟨a1, a2, a3, a4⟩ | ⟨a1, a2, a3⟩
  · rw [if_neg (by rw [a1]; decide), a2]
    by_cases y : nxW W = W.first
    · rw [if_pos y, done_same h.rows y, newS_same W S y]
      left
      rw [y, Int.sub_self] at a3
      exact ⟨rfl, rfl, a3, a4⟩
    · rw [if_neg y]
      rcases mid_sync a3 with ⟨e1, m1⟩ | ⟨e1, m1⟩
      · rw [if_neg (by rw [e1]; decide)]
        exact .inl ⟨rfl, rfl, m1, fun z => (free_sync a3.2.2 (a4 z)).2.2⟩
      · rw [if_pos (by rw [e1]; decide)]
        refine .inr ⟨e1, rfl, m1, fun z => ?_⟩
        have := (free_sync a3.2.2 (a4 z)).1
        omega
  · rw [if_pos (by rw [a1]; decide)]
    exact .inr ⟨a1, rfl, a2, a3⟩
end Go.Proofs.Ytbnglmeljbiglaa.Wl
set_option maxRecDepth 8192
namespace Go.Proofs.Ytbnglmeljbiglaa.Wl
open Go.Proofs.Ytbnglmeljbiglaa.X4 Go.Proofs.Ytbnglmeljbiglaa.Pt Go.Proofs.Ytbnglmeljbiglaa.Ptb Go.Proofs.Ytbnglmeljbiglaa.Rp Go.Proofs.Ytbnglmeljbiglaa.Cr Go Go.RowKit Go.ChangeMaps Go.Proofs.Ytbnglmeljbiglaa.Arr Go.Proofs.Ytbnglmeljbiglaa.Mp Go.Proofs.Ytbnglmeljbiglaa.Ow Go.Proofs.Ytbnglmeljbiglaa.Dk Go.Proofs.Ytbnglmeljbiglaa.Fr Go.Proofs.YtbnglmeljbiglaaW.PrintWords
set_option linter.unusedVariables false
set_option linter.unusedSimpArgs false
/-- A quiet disk, whose sectors below k say the records. -/
structure Said (base n : Int) (R : Int → List Rc_) (T : List ByteArray) (e : Int → Int) (k : Int) : Prop where
  hn : 8 ≤ n ∧ n ≤ 64
  hb : 0 ≤ base ∧ base + n ≤ T.length
  hk : 1 ≤ k ∧ k ≤ n + 1
  sec : ∀ j, 1 ≤ j → j < k → cut T (base + j.tmod n) = secB (e j) j (B (bytesW (R j)))
  rows : ∀ j, 1 ≤ j → j < k → R j ≠ [] ∧ (∀ r ∈ R j, mayB r = true)
  len : ∀ j, (bytesW (R j)).length ≤ 112
  eps : ∀ j, 1 ≤ j → j < k → 1 ≤ e j ∧ e j < 4294967296
  mono : ∀ j, 1 ≤ j → j + 1 < k → e j ≤ e (j + 1)
  stop : k ≤ n → Ref (lastE e k) (whole1 (cut T (base + k.tmod n)) k)
section
variable {base n k : Int} {R : Int → List Rc_} {T : List ByteArray} {e : Int → Int} {d : DS}
theorem Said.pl (h : Said base n R T e k) {i : Int} (hi : 0 ≤ i) : 0 ≤ base + i.tmod n ∧ base + i.tmod n < T.length := by
  have := tmod_in hi (show 0 < n by have := h.hn; omega)
  have := h.hb
  omega
end
variable {W : WS} {R : Int → List Rc_} {S T : List ByteArray} {e : Int → Int} {d : DS}
/-- All sectors of a log have epochs that are no greater than its own. -/
theorem Keep.all_le (h : Keep W R S e) (hep : W.ep < 4294967296) {i : Int} (h1 : 1 ≤ i) (h2 : i ≤ W.n) (hv : valS (cut S (placeW W i))) : epS (cut S (placeW W i)) ≤ W.ep := by
  have hn := h.n
  by_cases x : i < W.first
  · have a := h.eps i h1 x
    rw [h.safe i h1 x, (secB_val (by omega) (by omega) (by rw [B_size]; exact h.rows.len i)).2]
    exact a.2
  · exact Int.le_of_lt (h.stale i (by omega) h2 hv)
/-- All records up to the next sector. -/
theorem allR_nx (h : Rows W R) (hl : W.low = 1) : allR W R = allK R 1 (nxW W - 1).toNat := by
  have ho := h.ord
  unfold allR
  rw [hl]
  by_cases x : bdy W W.op = ⟨#[]⟩
  · have e1 : nxW W = W.op := if_pos x
    rw [show (W.op + 1 - 1).toNat = (nxW W - 1).toNat + 1 by omega, allK_succ, show (1 : Int) + (((nxW W - 1).toNat : Nat) : Int) = W.op by omega]
    have : secE R W.op = [] := by unfold secE; rw [(h.empty _).1 x]; rfl
    rw [this, List.append_nil]
  · have e1 : nxW W = W.op + 1 := if_neg x
    rw [show (W.op + 1 - 1).toNat = (nxW W - 1).toNat by omega]
end Go.Proofs.Ytbnglmeljbiglaa.Wl
set_option maxRecDepth 8192
namespace Go.Proofs.Ytbnglmeljbiglaa.Wl
open Go.Proofs.Ytbnglmeljbiglaa.X4 Go.Proofs.Ytbnglmeljbiglaa.Pt Go.Proofs.Ytbnglmeljbiglaa.Ptb Go.Proofs.Ytbnglmeljbiglaa.Rp Go Go.RowKit Go.ChangeMaps Go.Proofs.Ytbnglmeljbiglaa.Arr Go.Proofs.Ytbnglmeljbiglaa.Mp Go.Proofs.Ytbnglmeljbiglaa.Ow Go.Proofs.Ytbnglmeljbiglaa.Dk Go.Proofs.Ytbnglmeljbiglaa.Fr Go.Proofs.YtbnglmeljbiglaaW.PrintWords Go.Proofs.YtbnglmeljbiglaaW.PrintLast Go.Proofs.YtbnglmeljbiglaaW.PrintMore
set_option linter.unusedVariables false
set_option linter.unusedSimpArgs false
theorem newdisk (L : Nat) (h1 : 1 ≤ L) (h2 : L ≤ 512) (w : World) (c : Nat → Nat) : Calls Try.prog 11 #[.int .i64 (L : Int)] w fun e w' => ∃ g, e = .returned (.tuple #[.pointer (some ⟨g, 0, none⟩), .int .i64 0]) ∧ DK w' (Col (Dk.paint c w.heap.size 1) 1) g (newD L) ∧ Fr [] w c w' (Dk.paint c w.heap.size 1) := by
  refine (new_calls L (by omega) (by omega) w).mono ?_
  rintro e w' ⟨g, hg, rfl, hk, hb⟩
  exact ⟨g, rfl, hk.fresh c 1, Fr.of_paint hb 1⟩
theorem newdiskG (L : Nat) (h1 : 1 ≤ L) (h2 : L ≤ 512) {w0 w : World} {c : Nat → Nat} (_ : Gr w0 w c) : Calls Try.prog 11 #[.int .i64 (L : Int)] w fun e w' => ∃ g, e = .returned (.tuple #[.pointer (some ⟨g, 0, none⟩), .int .i64 0]) ∧ DK w' (Col (Dk.paint c w.heap.size 1) 1) g (newD L) ∧ Fr [] w c w' (Dk.paint c w.heap.size 1) := newdisk L h1 h2 w c
theorem newdisk8 {w0 w : World} {c : Nat → Nat} (_ : Gr w0 w c) : Calls Try.prog 11 #[.int .i64 8] w fun e w' => ∃ g, e = .returned (.tuple #[.pointer (some ⟨g, 0, none⟩), .int .i64 0]) ∧ DK w' (Col (Dk.paint c w.heap.size 1) 1) g (newD 8) ∧ Fr [] w c w' (Dk.paint c w.heap.size 1) := newdisk 8 (by decide) (by decide) w c
def awR : Rc_ := ⟨5, 0, 0, 0, 0, 0, 0, ⟨#[]⟩, ⟨#[]⟩, [], []⟩
theorem c_nil {α : Type} (d : Kd α) (w : World) (A : Option Addr) : Kd.C d w A 0 ([] : List α) := ⟨rfl, by decide, fun h => absurd h (Nat.lt_irrefl 0)⟩
theorem append_aw {w : World} {c : Nat → Nat} {gl m g : Nat} {W : WS} (h : LO w c gl m g W) (F : Fit W) (hbd : (bdy W W.op).size ≤ 1000) (A9 : Option Addr) (c9 : Nat) (A10 : Option Addr) (c10 : Nat) : Calls Try.prog 15 #[.pointer (some ⟨gl, 0, none⟩), .agg #[.int .i64 5, .int .i64 0, .int .i64 0, .int .i64 0, .int .i64 0, .int .i64 0, .int .i64 0, .string ⟨#[]⟩, .string ⟨#[]⟩, .slice A9 0 c9, .slice A10 0 c10]] w fun e w' => e = .returned (.tuple #[.int .i64 (appendW W awR).1, .int .i64 (appendW W awR).2.1]) ∧ Fr [3] w c w' c ∧ LO w' c gl m g (appendW W awR).2.2 :=
  append_calls h F hbd awR A9 c9 A10 c10 (c_nil _ _ _) (Nat.zero_le _) (c_nil _ _ _) (Nat.zero_le _) (by decide)
end Go.Proofs.Ytbnglmeljbiglaa.Wl
set_option maxRecDepth 8192
namespace Go.Proofs.Ytbnglmeljbiglaa.Wl
open Go.Proofs.Ytbnglmeljbiglaa.X4 Go.Proofs.Ytbnglmeljbiglaa.Pt Go.Proofs.Ytbnglmeljbiglaa.Ptb Go.Proofs.Ytbnglmeljbiglaa.Rp Go.Proofs.Ytbnglmeljbiglaa.Cr Go Go.RowKit Go.ChangeMaps Go.Proofs.Ytbnglmeljbiglaa.Arr Go.Proofs.Ytbnglmeljbiglaa.Mp Go.Proofs.Ytbnglmeljbiglaa.Ow Go.Proofs.Ytbnglmeljbiglaa.Dk Go.Proofs.Ytbnglmeljbiglaa.Fr Go.Proofs.YtbnglmeljbiglaaW.PrintWords
set_option linter.unusedVariables false
set_option linter.unusedSimpArgs false
structure Qs (n E : Int) (W : WS) (R : Int → List Rc_) (d : DS) (e : Int → Int) : Prop where
  keep : Keep W R d.safe e
  mid : Mid d.safe [] d
  fuse : d.fuse = -1
  ep : W.ep ≤ E
  nn : W.n = n
  base : W.base = 0
  len : d.safe.length ≤ 512
section
variable {n E : Int} {W : WS} {R : Int → List Rc_} {d : DS} {e : Int → Int}
theorem Qs.ok (h : Qs n E W R d e) : OkN 0 d := by
  have hr : d.row = [] := h.mid.2.1
  refine ⟨⟨by rw [hr]; decide, by rw [h.fuse]; omega, by rw [h.fuse]; omega, h.len, fun p hp => ?_⟩, by rw [hr]; exact Nat.le_refl _⟩
  rw [hr] at hp; cases hp
theorem Qs.gone (h : Qs n E W R d e) : d.gone = false := h.mid.2.2
theorem Qs.bd (h : Qs n E W R d e) (i : Int) : (bdy W i).size ≤ 112 := h.keep.rows.le i
theorem Qs.ord (h : Qs n E W R d e) : (W.low = 1 ∧ 1 ≤ W.first ∧ W.first ≤ W.op ∧ W.op ≤ W.n + 1) ∧ (8 ≤ W.n ∧ W.n ≤ 64) ∧ 1 ≤ W.ep := by
  have h1 := h.keep.rows.ord
  have h2 := h.keep.op_le
  have h3 := h.keep.nx
  have h4 := h.keep.low
  have h5 := h.keep.n
  exact ⟨⟨h4, by omega, by omega, by omega⟩, h5, h.keep.ep⟩
theorem Qs.fit (h : Qs n E W R d e) (hE : E < 4294967290) : Fit W := by
  obtain ⟨h1, h2, h3⟩ := h.ord
  have hb := h.base
  have he := h.ep
  exact ⟨by omega, by omega, by omega, by omega, by omega, by omega⟩
theorem Qs.gap (h : Qs n E W R d e) : W.op ≤ 100000000 ∧ W.first ≤ W.op + 1 ∧ W.op - W.first ≤ 1000 := by
  obtain ⟨h1, h2, h3⟩ := h.ord
  omega
theorem Qs.sgap (h : Qs n E W R d e) : W.low ≤ W.op + 1 ∧ W.op - W.low ≤ 1000 := by
  obtain ⟨h1, h2, h3⟩ := h.ord
  omega
theorem Qs.bd1 (h : Qs n E W R d e) : (bdy W W.op).size ≤ 1000 := Nat.le_trans (h.bd _) (by decide)
theorem Qs.more (h : Qs n E W R d e) {E' : Int} (hE : E ≤ E') : Qs n E' W R d e := ⟨h.keep, h.mid, h.fuse, Int.le_trans h.ep hE, h.nn, h.base, h.len⟩
theorem qs_new {n : Int} {L : Nat} (hn : 8 ≤ n ∧ n ≤ 64) (hb : n ≤ L) (hL : L ≤ 512) : Qs n 1 (newW 0 n) (fun _ => []) (newD L) (fun _ => 0) :=
  ⟨keep_new hn ⟨Int.le_refl _, by omega⟩, ⟨rfl, rfl, rfl⟩, rfl, Int.le_refl _, rfl, rfl, by simp [newD]; exact hL⟩
theorem Qs.flush (h : Qs n E W R d e) (hE : E < 4294967290) : (flushW W d).1 = 0 ∧ (flushW W d).2.1 = doneW W ∧ Qs n E (doneW W) R (flushW W d).2.2 (eN W e) ∧ (flushW W d).2.2.row = [] := by
  have he := h.ep
  rcases flush_keep h.keep (by omega) h.mid with ⟨f1, f2, f3, f4⟩ | ⟨_, _, _, f4⟩
  · have hs : (flushW W d).2.2.safe = newS W d.safe := f3.1
    refine ⟨f1, f2, ⟨?_, ?_, f4 h.fuse, h.ep, h.nn, h.base, ?_⟩, f3.2.1⟩
    · rw [hs]; exact keep_done h.keep
    · rw [hs]; exact f3
    · rw [hs]; unfold newS; rw [over_len]; exact h.len
  · exact absurd h.fuse f4
theorem Qs.put (h : Qs n E W R d e) {r : Rc_} (hm : mayB r = true) {i : Int} (g : Goes W R r i) : Qs n E (putW W R r i) (putR R i r) d e :=
  ⟨keep_put h.keep hm g, h.mid, h.fuse, h.ep, h.nn, h.base, h.len⟩
theorem Qs.append (h : Qs n E W R d e) (r : Rc_) : ∃ R', Qs n E (appendW W r).2.2 R' d e := by
  cases hm : mayB r with
  | false => rw [append_not W hm]; exact ⟨R, h⟩
  | true =>
    rcases append_cases h.keep.rows hm with ⟨a, _⟩ | ⟨i, g, a⟩
    · rw [a]; exact ⟨R, h⟩
    · rw [a]; exact ⟨_, h.put hm g⟩
theorem Qs.lies (h : Qs n E W R d e) : liesE d 0 n = 0 := by
  have h1 := h.keep.base
  have h2 := h.keep.n
  have h3 := h.nn
  have h4 := h.base
  unfold liesE
  rw [if_neg (by omega)]
end
theorem allS_ok (s : ByteArray) : ∀ x ∈ allS s, okE x := by
  intro x hx
  unfold allS at hx
  cases h : allF s with
  | none => rw [h] at hx; cases hx
  | some l => rw [h] at hx; exact allL_ok _ 0 l h x hx
theorem scan_ok (W : WS) (from_ : Int) : ∀ x ∈ scanF W from_, okE x := by
  intro x hx
  unfold scanF scanK at hx
  obtain ⟨q, _, hx⟩ := List.mem_flatMap.1 hx
  obtain ⟨y, hy, rfl⟩ := List.mem_map.1 (List.mem_filter.1 hx).1
  exact allS_ok _ y hy
theorem scan_len (W : WS) (hbd : ∀ i, (bdy W i).size ≤ 112) (hg : W.op - W.low ≤ 1000) (from_ : Int) : (scanF W from_).length ≤ 1000000 := by
  have := scanK_le W hbd from_ (W.op + 1 - W.low).toNat
  show (scanK W from_ _).length ≤ _
  omega
end Go.Proofs.Ytbnglmeljbiglaa.Wl
set_option maxRecDepth 8192
namespace Go.Proofs.Ytbnglmeljbiglaa.Wl
open Go.Proofs.Ytbnglmeljbiglaa.X4 Go.Proofs.Ytbnglmeljbiglaa.Pt Go.Proofs.Ytbnglmeljbiglaa.Ptb Go.Proofs.Ytbnglmeljbiglaa.Rp Go.Proofs.Ytbnglmeljbiglaa.Cr Go Go.RowKit Go.ChangeMaps Go.Proofs.Ytbnglmeljbiglaa.Arr Go.Proofs.Ytbnglmeljbiglaa.Mp Go.Proofs.Ytbnglmeljbiglaa.Ow Go.Proofs.Ytbnglmeljbiglaa.Dk Go.Proofs.Ytbnglmeljbiglaa.Fr Go.Proofs.YtbnglmeljbiglaaW.PrintWords
set_option linter.unusedVariables false
set_option linter.unusedSimpArgs false
/-- The place behind the last record. -/
def endW (W : WS) : Int := W.op * 128 + ((bdy W W.op).size : Int)
/-- The records that are safe. -/
def safeL (W : WS) (R : Int → List Rc_) : List En_ := allK R 1 (W.first - 1).toNat
structure App (W : WS) (R : Int → List Rc_) (r : Rc_) (p er : Int) (W' : WS) (R' : Int → List Rc_) : Prop where
  first : W'.first = W.first
  nx : nxW W ≤ nxW W'
  may : er = 0 → mayB r = true
  find : er = 0 → findW W' p = some ⟨p, r⟩
  all : er = 0 → allR W' R' = allR W R ++ [⟨p, r⟩]
  sec : er = 0 → W.first ≤ sctr p ∧ sctr p < nxW W'
  ends : er = 0 → endW W ≤ p ∧ p < endW W'
  no : er ≠ 0 → W' = W ∧ R' = R
  old : W.low = 1 → safeL W' R' = safeL W R
  room : mayB r = true → (er = 0 ∨ er = 5) ∧ (er = 5 → roomW W ≤ 0) ∧ roomW W - 1 ≤ roomW W'
section
variable {n E : Int} {W : WS} {R : Int → List Rc_} {d : DS} {e : Int → Int}
theorem app_keep (h : Rows W R) (r : Rc_) : ∃ p er W' R', (appendW W r).1 = p ∧ (appendW W r).2.1 = er ∧ (appendW W r).2.2 = W' ∧ App W R r p er W' R' ∧ ((W' = W ∧ R' = R) ∨ (mayB r = true ∧ ∃ i, Goes W R r i ∧ W' = putW W R r i ∧ R' = putR R i r)) := by
  cases hm : mayB r with
  | false =>
    have ea := append_not W hm
    refine ⟨0, 1, W, R, by rw [ea], by rw [ea], by rw [ea], ⟨rfl, Int.le_refl _, fun x => by omega, fun x => by omega, fun x => by omega, fun x => by omega, fun x => by omega, fun _ => ⟨rfl, rfl⟩, fun _ => rfl, fun x => ?_⟩, .inl ⟨rfl, rfl⟩⟩
    rw [hm] at x; cases x
  | true =>
    rcases append_cases h hm with ⟨ea, hr⟩ | ⟨i, g, ea⟩
    · refine ⟨0, 5, W, R, by rw [ea], by rw [ea], by rw [ea], ⟨rfl, Int.le_refl _, fun x => by omega, fun x => by omega, fun x => by omega, fun x => by omega, fun x => by omega, fun _ => ⟨rfl, rfl⟩, fun _ => rfl, fun _ => ⟨.inr rfl, fun _ => ?_, by omega⟩⟩, .inl ⟨rfl, rfl⟩⟩
      rw [room_nx]; omega
    · have hnx := put_nx h hm g
      have ho := h.ord
      have hl := h.len i
      have hz : sctr (i * 128 + ((bytesW (R i)).length : Int)) = i := sctr_at (by omega) (by omega)
      have hput := put_rows h hm g
      have p1 := (prB_one hm).1
      refine ⟨i * 128 + ((bytesW (R i)).length : Int), 0, putW W R r i, putR R i r, by rw [ea], by rw [ea], by rw [ea], ⟨rfl, by omega, fun _ => hm, fun _ => put_find h hm g, fun _ => put_all h hm g, fun _ => by rw [hz]; omega, fun _ => ⟨?_, ?_⟩, fun x => absurd rfl x, fun hl1 => allK_put R 1 i r _ (by have := g.ge; have : (putW W R r i).first = W.first := rfl; omega), fun _ => ⟨.inl rfl, fun x => by omega, ?_⟩⟩, .inr ⟨rfl, i, g, rfl, rfl⟩⟩
      · unfold endW
        rw [h.size]
        rcases g.sec with x | ⟨x, _⟩
        · rw [x]; exact Int.le_refl _
        · have := h.len W.op
          omega
      · have e1 : endW (putW W R r i) = i * 128 + (((bytesW (putR R i r i)).length : Nat) : Int) := by
          unfold endW
          rw [hput.size]
          rfl
        rw [e1, putR_at, bytes_append, List.length_append, bytesW, bytesW, List.append_nil]
        push_cast
        omega
      · rw [room_nx, room_nx, hnx.1]
        show W.low + W.n - nxW W - 1 ≤ W.low + W.n - (i + 1)
        omega
theorem Qs.app (h : Qs n E W R d e) (r : Rc_) : ∃ p er W' R', (appendW W r).1 = p ∧ (appendW W r).2.1 = er ∧ (appendW W r).2.2 = W' ∧ App W R r p er W' R' ∧ Qs n E W' R' d e := by
  obtain ⟨p, er, W', R', e1, e2, e3, ha, hc⟩ := app_keep h.keep.rows r
  refine ⟨p, er, W', R', e1, e2, e3, ha, ?_⟩
  rcases hc with ⟨rfl, rfl⟩ | ⟨hm, i, g, rfl, rfl⟩
  · exact h
  · exact h.put hm g
theorem Qs.room (h : Qs n E W R d e) : 0 ≤ roomW W ∧ roomW W ≤ 65 := by
  obtain ⟨h1, h2, h3⟩ := h.ord
  have h4 := h.keep.nx
  have h5 := h.keep.op_le
  rw [room_nx]
  omega
theorem Qs.done (h : Qs n E W R d e) : roomW (doneW W) = roomW W ∧ nxW (doneW W) = nxW W ∧ allR (doneW W) R = allR W R ∧ endW W ≤ endW (doneW W) ∧ W.first ≤ nxW W := by
  have hd := done_rows h.keep.rows
  obtain ⟨h1, h2, h3⟩ := h.ord
  have h5 := h.keep.op_le
  refine ⟨?_, hd.2, ?_, ?_, by omega⟩
  · rw [room_nx, room_nx, hd.2]; rfl
  · rw [allR_nx hd.1 h1.1, allR_nx h.keep.rows h1.1, hd.2]
  · unfold endW
    have hb := h.bd W.op
    show W.op * 128 + ((bdy W W.op).size : Int) ≤ nxW W * 128 + ((bdy W (nxW W)).size : Int)
    by_cases z : bdy W W.op = ⟨#[]⟩
    · rw [show nxW W = W.op from if_pos z]; exact Int.le_refl _
    · rw [show nxW W = W.op + 1 from if_neg z]; omega
end
end Go.Proofs.Ytbnglmeljbiglaa.Wl
set_option maxRecDepth 8192
namespace Go.Proofs.Ytbnglmeljbiglaa.X4
open Go.Proofs.Ytbnglmeljbiglaa.Rgn
open Go.Proofs.Ytbnglmeljbiglaa.Pt Go.Proofs.Ytbnglmeljbiglaa.Ptb Go.Proofs.Ytbnglmeljbiglaa.Rp Go.Proofs.Ytbnglmeljbiglaa.Wl Go Go.RowKit Go.ChangeMaps Go.Proofs.Ytbnglmeljbiglaa.Arr Go.Proofs.Ytbnglmeljbiglaa.Mp Go.Proofs.Ytbnglmeljbiglaa.Ow Go.Proofs.Ytbnglmeljbiglaa.Dk Go.Proofs.Ytbnglmeljbiglaa.Fr Go.Proofs.YtbnglmeljbiglaaW.PrintWords Go.Proofs.YtbnglmeljbiglaaW.PrintLast Go.Proofs.YtbnglmeljbiglaaW.PrintMore
set_option linter.unusedVariables false
set_option linter.unusedSimpArgs false
theorem same_len (r : S37) (h1 : r.f9.length ≤ 1000000) (h2 : r.f10.length ≤ 1000000) (A9 : Option Addr) (c9 : Nat) (A10 : Option Addr) (c10 : Nat) (B9 : Option Addr) (d9 : Nat) (B10 : Option Addr) (d10 : Nat) (w : World) (h9 : Kd.C k107 w A9 r.f9.length r.f9) (l9 : r.f9.length ≤ c9) (h10 : Kd.C k109 w A10 r.f10.length r.f10) (l10 : r.f10.length ≤ c10) (g9 : Kd.C k107 w B9 r.f9.length r.f9) (m9 : r.f9.length ≤ d9) (g10 : Kd.C k109 w B10 r.f10.length r.f10) (m10 : r.f10.length ≤ d10) :
    Calls Try.prog 28 #[.agg #[.int .i64 r.f0, .int .i64 r.f1, .int .i64 r.f2, .int .i64 r.f3, .int .i64 r.f4, .int .i64 r.f5, .int .i64 r.f6, .string r.f7, .string r.f8, .slice A9 r.f9.length c9, .slice A10 r.f10.length c10], .agg #[.int .i64 r.f0, .int .i64 r.f1, .int .i64 r.f2, .int .i64 r.f3, .int .i64 r.f4, .int .i64 r.f5, .int .i64 r.f6, .string r.f7, .string r.f8, .slice B9 r.f9.length d9, .slice B10 r.f10.length d10]] w fun e w' => e = .returned (.bool true) ∧ Below w.heap.size w w' := by
  refine careenref04_Same.calls _ _ _ _ _ _ _ _ _ A9 c9 _ A10 c10 _ _ _ _ _ _ _ _ _ _ B9 d9 _ B10 d10 _ true w h9 l9 h10 l10 g9 m9 g10 m10 ?_
  rw [Pt.rsame_f h1 h2, decide_eq_true rfl]
theorem rde_mem {l : List S44} {k : Nat} (h : k < l.length) : rd_T44 l k ∈ l := by
  unfold rd_T44
  rw [Int.toNat_natCast, List.getD_eq_getElem?_getD, List.getElem?_eq_getElem h]
  exact List.getElem_mem h
set_option maxHeartbeats 16000000 in
theorem sameall_big (l : List S44) (A0 : Option Addr) (c0 : Nat) (A1 : Option Addr) (c1 : Nat) (w : World) (h0 : Kd.C k44 w A0 l.length l) (h1 : Kd.C k44 w A1 l.length l) (hok : ∀ x ∈ l, okE x) (hm : l.length ≤ 1000000000) :
    Calls Try.prog 21 #[.slice A0 l.length c0, .slice A1 l.length c1] w fun e w' => e = .returned (.bool true) ∧ Below w.heap.size w w' := by
  have H0 := Aside0.mk h0; have H1 := Aside0.mk h1; have HOK := Aside0.mk hok; have HM := Aside0.mk hm
  clear h0 h1 hok hm
  have HB := Aside0.mk (Below.refl w.heap.size w)
  have hne : ((l.length : Int) != (l.length : Int)) = false := by simp
  go_enter Try.func21, Try.ntmps21
  go_upto_region 4 with (fail)
  clear hne
  go_loopw [5] (fun v wr => ∃ r : Nat, v = .int .i64 r ∧ Aside0 (r ≤ l.length) ∧ Aside0 (Below w.heap.size w wr)) (fun v _ => l.length - (intOf v).toNat)
  case atStart => exact ⟨0, rfl, ⟨Nat.zero_le _⟩, HB⟩
  case round =>
    clear HB
    obtain ⟨r, rfl, HR, HB⟩ := hrel
    by_cases hlt : r < l.length
    · have hlt1 : (r : Int) < (l.length : Int) := by omega
      have hr0 : (0 : Int) ≤ (r : Int) := by omega
      have hwk : wrap64 ((r : Int) + 1) = ((r + 1 : Nat) : Int) := by have := HM.out; unfold wrap64; omega
      have HLT := Aside0.mk hlt
      have HRL := Aside0.mk (rows_le (show mayB (rd_T44 l (r : Nat)).f1 = true from HOK.out _ (rde_mem hlt)))
      obtain ⟨ad, A9, c9, A10, c10, hA, a0, a1, a2, a3, a4, a5, a6, a7, a8, a9, a10, a11, l9, g9, l10, g10⟩ := at_T44 H0.out (r : Int) (by omega) hlt1
      subst hA
      obtain ⟨bd, B9, d9, B10, d10, hB, b0, b1, b2, b3, b4, b5, b6, b7, b8, b9, b10, b11, m9, k9, m10, k10⟩ := at_T44 H1.out (r : Int) (by omega) hlt1
      subst hB
      rw [Int.toNat_natCast] at a0 a1 a2 a3 a4 a5 a6 a7 a8 a9 a10 a11 b0 b1 b2 b3 b4 b5 b6 b7 b8 b9 b10 b11
      have G9 := Aside0.mk g9; have G10 := Aside0.mk g10; have K9 := Aside0.mk k9; have K10 := Aside0.mk k10; have L9 := Aside0.mk l9; have L10 := Aside0.mk l10; have M9 := Aside0.mk m9; have M10 := Aside0.mk m10
      clear l9 g9 l10 g10 m9 k9 m10 k10
      generalize rd_T44 l (r : Nat) = x at *
      have HQA := Aside0.mk (show w.cell? (ad.add (r * 12)) = some (.int .i64 x.f0) ∧ w.cell? ⟨(ad.add (r * 12)).block, (ad.add (r * 12)).off + 1, none⟩ = some (.int .i64 x.f1.f0) ∧ w.cell? ⟨(ad.add (r * 12)).block, (ad.add (r * 12)).off + 2, none⟩ = some (.int .i64 x.f1.f1) ∧ w.cell? ⟨(ad.add (r * 12)).block, (ad.add (r * 12)).off + 3, none⟩ = some (.int .i64 x.f1.f2) ∧ w.cell? ⟨(ad.add (r * 12)).block, (ad.add (r * 12)).off + 4, none⟩ = some (.int .i64 x.f1.f3) ∧ w.cell? ⟨(ad.add (r * 12)).block, (ad.add (r * 12)).off + 5, none⟩ = some (.int .i64 x.f1.f4) ∧ w.cell? ⟨(ad.add (r * 12)).block, (ad.add (r * 12)).off + 6, none⟩ = some (.int .i64 x.f1.f5) ∧ w.cell? ⟨(ad.add (r * 12)).block, (ad.add (r * 12)).off + 7, none⟩ = some (.int .i64 x.f1.f6) ∧ w.cell? ⟨(ad.add (r * 12)).block, (ad.add (r * 12)).off + 8, none⟩ = some (.string x.f1.f7) ∧ w.cell? ⟨(ad.add (r * 12)).block, (ad.add (r * 12)).off + 9, none⟩ = some (.string x.f1.f8) ∧ w.cell? ⟨(ad.add (r * 12)).block, (ad.add (r * 12)).off + 10, none⟩ = some (.slice A9 x.f1.f9.length c9) ∧ w.cell? ⟨(ad.add (r * 12)).block, (ad.add (r * 12)).off + 11, none⟩ = some (.slice A10 x.f1.f10.length c10) ∧ w.cell? (bd.add (r * 12)) = some (.int .i64 x.f0) ∧ w.cell? ⟨(bd.add (r * 12)).block, (bd.add (r * 12)).off + 1, none⟩ = some (.int .i64 x.f1.f0) ∧ w.cell? ⟨(bd.add (r * 12)).block, (bd.add (r * 12)).off + 2, none⟩ = some (.int .i64 x.f1.f1) ∧ w.cell? ⟨(bd.add (r * 12)).block, (bd.add (r * 12)).off + 3, none⟩ = some (.int .i64 x.f1.f2) ∧ w.cell? ⟨(bd.add (r * 12)).block, (bd.add (r * 12)).off + 4, none⟩ = some (.int .i64 x.f1.f3) ∧ w.cell? ⟨(bd.add (r * 12)).block, (bd.add (r * 12)).off + 5, none⟩ = some (.int .i64 x.f1.f4) ∧ w.cell? ⟨(bd.add (r * 12)).block, (bd.add (r * 12)).off + 6, none⟩ = some (.int .i64 x.f1.f5) ∧ w.cell? ⟨(bd.add (r * 12)).block, (bd.add (r * 12)).off + 7, none⟩ = some (.int .i64 x.f1.f6) ∧ w.cell? ⟨(bd.add (r * 12)).block, (bd.add (r * 12)).off + 8, none⟩ = some (.string x.f1.f7) ∧ w.cell? ⟨(bd.add (r * 12)).block, (bd.add (r * 12)).off + 9, none⟩ = some (.string x.f1.f8) ∧ w.cell? ⟨(bd.add (r * 12)).block, (bd.add (r * 12)).off + 10, none⟩ = some (.slice B9 x.f1.f9.length d9) ∧ w.cell? ⟨(bd.add (r * 12)).block, (bd.add (r * 12)).off + 11, none⟩ = some (.slice B10 x.f1.f10.length d10) from ⟨a0, a1, a2, a3, a4, a5, a6, a7, a8, a9, a10, a11, b0, b1, b2, b3, b4, b5, b6, b7, b8, b9, b10, b11⟩)
      clear a0 a1 a2 a3 a4 a5 a6 a7 a8 a9 a10 a11 b0 b1 b2 b3 b4 b5 b6 b7 b8 b9 b10 b11
      go_upto_region 6 with (fail)
      have HB1 := Aside0.mk HB.out.drew
      clear HB
      obtain ⟨a0, a1, a2, a3, a4, a5, a6, a7, a8, a9, a10, a11, b0, b1, b2, b3, b4, b5, b6, b7, b8, b9, b10, b11⟩ := HQA.out
      replace a0 := pw_cell_below HB1.out a0
      replace a1 := pw_cell_below HB1.out a1
      replace a2 := pw_cell_below HB1.out a2
      replace a3 := pw_cell_below HB1.out a3
      replace a4 := pw_cell_below HB1.out a4
      replace a5 := pw_cell_below HB1.out a5
      replace a6 := pw_cell_below HB1.out a6
      replace a7 := pw_cell_below HB1.out a7
      replace a8 := pw_cell_below HB1.out a8
      replace a9 := pw_cell_below HB1.out a9
      replace a10 := pw_cell_below HB1.out a10
      replace a11 := pw_cell_below HB1.out a11
      replace b0 := pw_cell_below HB1.out b0
      replace b1 := pw_cell_below HB1.out b1
      replace b2 := pw_cell_below HB1.out b2
      replace b3 := pw_cell_below HB1.out b3
      replace b4 := pw_cell_below HB1.out b4
      replace b5 := pw_cell_below HB1.out b5
      replace b6 := pw_cell_below HB1.out b6
      replace b7 := pw_cell_below HB1.out b7
      replace b8 := pw_cell_below HB1.out b8
      replace b9 := pw_cell_below HB1.out b9
      replace b10 := pw_cell_below HB1.out b10
      replace b11 := pw_cell_below HB1.out b11
      refine start_ (n := 25) (S := fun w' => w'.cell? (ad.add (r * 12)) = some (.int .i64 x.f0) ∧ w'.cell? ⟨(ad.add (r * 12)).block, (ad.add (r * 12)).off + 1, none⟩ = some (.int .i64 x.f1.f0) ∧ w'.cell? ⟨(ad.add (r * 12)).block, (ad.add (r * 12)).off + 2, none⟩ = some (.int .i64 x.f1.f1) ∧ w'.cell? ⟨(ad.add (r * 12)).block, (ad.add (r * 12)).off + 3, none⟩ = some (.int .i64 x.f1.f2) ∧ w'.cell? ⟨(ad.add (r * 12)).block, (ad.add (r * 12)).off + 4, none⟩ = some (.int .i64 x.f1.f3) ∧ w'.cell? ⟨(ad.add (r * 12)).block, (ad.add (r * 12)).off + 5, none⟩ = some (.int .i64 x.f1.f4) ∧ w'.cell? ⟨(ad.add (r * 12)).block, (ad.add (r * 12)).off + 6, none⟩ = some (.int .i64 x.f1.f5) ∧ w'.cell? ⟨(ad.add (r * 12)).block, (ad.add (r * 12)).off + 7, none⟩ = some (.int .i64 x.f1.f6) ∧ w'.cell? ⟨(ad.add (r * 12)).block, (ad.add (r * 12)).off + 8, none⟩ = some (.string x.f1.f7) ∧ w'.cell? ⟨(ad.add (r * 12)).block, (ad.add (r * 12)).off + 9, none⟩ = some (.string x.f1.f8) ∧ w'.cell? ⟨(ad.add (r * 12)).block, (ad.add (r * 12)).off + 10, none⟩ = some (.slice A9 x.f1.f9.length c9) ∧ w'.cell? ⟨(ad.add (r * 12)).block, (ad.add (r * 12)).off + 11, none⟩ = some (.slice A10 x.f1.f10.length c10) ∧ w'.cell? (bd.add (r * 12)) = some (.int .i64 x.f0) ∧ w'.cell? ⟨(bd.add (r * 12)).block, (bd.add (r * 12)).off + 1, none⟩ = some (.int .i64 x.f1.f0) ∧ w'.cell? ⟨(bd.add (r * 12)).block, (bd.add (r * 12)).off + 2, none⟩ = some (.int .i64 x.f1.f1) ∧ w'.cell? ⟨(bd.add (r * 12)).block, (bd.add (r * 12)).off + 3, none⟩ = some (.int .i64 x.f1.f2) ∧ w'.cell? ⟨(bd.add (r * 12)).block, (bd.add (r * 12)).off + 4, none⟩ = some (.int .i64 x.f1.f3) ∧ w'.cell? ⟨(bd.add (r * 12)).block, (bd.add (r * 12)).off + 5, none⟩ = some (.int .i64 x.f1.f4) ∧ w'.cell? ⟨(bd.add (r * 12)).block, (bd.add (r * 12)).off + 6, none⟩ = some (.int .i64 x.f1.f5) ∧ w'.cell? ⟨(bd.add (r * 12)).block, (bd.add (r * 12)).off + 7, none⟩ = some (.int .i64 x.f1.f6) ∧ w'.cell? ⟨(bd.add (r * 12)).block, (bd.add (r * 12)).off + 8, none⟩ = some (.string x.f1.f7) ∧ w'.cell? ⟨(bd.add (r * 12)).block, (bd.add (r * 12)).off + 9, none⟩ = some (.string x.f1.f8) ∧ w'.cell? ⟨(bd.add (r * 12)).block, (bd.add (r * 12)).off + 10, none⟩ = some (.slice B9 x.f1.f9.length d9) ∧ w'.cell? ⟨(bd.add (r * 12)).block, (bd.add (r * 12)).off + 11, none⟩ = some (.slice B10 x.f1.f10.length d10)) (ds := []) #[false, false, false, false, false, false, false, false, false, false, false, false, false, false, false, false, false, false, false, false, false, false, false, false, false] (by kernel_rfl) rfl rfl ⟨a0, a1, a2, a3, a4, a5, a6, a7, a8, a9, a10, a11, b0, b1, b2, b3, b4, b5, b6, b7, b8, b9, b10, b11⟩ (fun hHeld => ?_)
      refine rgp 0 17 ?_
      refine rgp 1 18 ?_
      refine rgp 2 19 ?_
      refine rgp 3 20 ?_
      refine rgp 5 22 ?_
      refine rgp 6 23 ?_
      refine rgp 7 24 ?_
      refine rgp 8 25 ?_
      refine rgt 4 21 hHeld ?_
      refine rgt 9 26 hHeld ?_
      refine rgp 10 27 ?_
      refine rgp 11 28 ?_
      refine rgp 12 29 ?_
      refine rgp 13 30 ?_
      refine rgp 14 31 ?_
      refine rgp 15 32 ?_
      refine rgp 17 34 ?_
      refine rgp 18 35 ?_
      refine rgp 19 36 ?_
      refine rgp 20 37 ?_
      refine rgt 16 33 hHeld ?_
      refine rgt 21 38 hHeld ?_
      refine one_ (i := 22) (N := some 39) #[true, true, true, true, true, true, true, true, true, true, true, true, true, true, true, true, true, true, true, true, true, true, true, false, false] rfl rfl (by kernel_rfl) (by decide) (fun K hK => ?_)
      refine goes_ Try.func28 (by kernel_rfl) rfl #[.agg #[.int .i64 x.f1.f0, .int .i64 x.f1.f1, .int .i64 x.f1.f2, .int .i64 x.f1.f3, .int .i64 x.f1.f4, .int .i64 x.f1.f5, .int .i64 x.f1.f6, .string x.f1.f7, .string x.f1.f8, .slice A9 x.f1.f9.length c9, .slice A10 x.f1.f10.length c10], .agg #[.int .i64 x.f1.f0, .int .i64 x.f1.f1, .int .i64 x.f1.f2, .int .i64 x.f1.f3, .int .i64 x.f1.f4, .int .i64 x.f1.f5, .int .i64 x.f1.f6, .string x.f1.f7, .string x.f1.f8, .slice B9 x.f1.f9.length d9, .slice B10 x.f1.f10.length d10]] (by rfl) rfl rfl (by (try simp only [List.map_toArray, List.map_cons, List.map_nil]); first | done | rfl) ?_
      refine (same_len x.f1 (by have := HRL.out; omega) (by have := HRL.out; omega) A9 c9 A10 c10 B9 d9 B10 d10 _ (Kd.C_below G9.out HB1.out) L9.out (Kd.C_below G10.out HB1.out) L10.out (Kd.C_below K9.out HB1.out) M9.out (Kd.C_below K10.out HB1.out) M10.out).mono ?_
      rintro e v1_ ⟨rfl, hb1⟩
      skip
      refine ⟨_, rfl, ?_⟩
      have HB2 := Aside0.mk (Arr.below_trans HB1.out hb1)
      refine hK _ _ ⟨pw_cell_below hb1 a0, pw_cell_below hb1 a1, pw_cell_below hb1 a2, pw_cell_below hb1 a3, pw_cell_below hb1 a4, pw_cell_below hb1 a5, pw_cell_below hb1 a6, pw_cell_below hb1 a7, pw_cell_below hb1 a8, pw_cell_below hb1 a9, pw_cell_below hb1 a10, pw_cell_below hb1 a11, pw_cell_below hb1 b0, pw_cell_below hb1 b1, pw_cell_below hb1 b2, pw_cell_below hb1 b3, pw_cell_below hb1 b4, pw_cell_below hb1 b5, pw_cell_below hb1 b6, pw_cell_below hb1 b7, pw_cell_below hb1 b8, pw_cell_below hb1 b9, pw_cell_below hb1 b10, pw_cell_below hb1 b11⟩ (fun hHeld => ?_)
      clear hK K hb1
      refine norm_ (a' := ?_) ?_ ?_
      rotate_left
      · show Act.put _ (some 39) _ = _
        simp only [Act.put, List.setIfInBounds_toArray, List.set_cons_zero, List.set_cons_succ, i64_w, i32_w]
        rfl
      refine rgp 23 40 ?_
      refine rgp 24 41 ?_
      refine done_ (by kernel_rfl) ?_
      clear a0 a1 a2 a3 a4 a5 a6 a7 a8 a9 a10 a11 b0 b1 b2 b3 b4 b5 b6 b7 b8 b9 b10 b11 HB1
      go_wp2
      go_roundw
      case rel => exact ⟨r + 1, by first | rfl | (rw [hwk]) | go_num, ⟨by have := HLT.out; omega⟩, HB2⟩
      case measure =>
        have := HLT.out
        (try rw [hwk])
        show l.length - (intOf (.int .i64 ((r + 1 : Nat) : Int))).toNat < l.length - (intOf (.int .i64 (r : Int))).toNat
        simp only [intOf]; omega
    · obtain rfl : r = l.length := by have := HR.out; omega
      clear hlt
      go_wp2
      go_ret
      exact ⟨rfl, HB.out⟩
end Go.Proofs.Ytbnglmeljbiglaa.X4
set_option maxRecDepth 8192
namespace Go.Proofs.Ytbnglmeljbiglaa.X4
open Go.Proofs.Ytbnglmeljbiglaa.Pt Go.Proofs.Ytbnglmeljbiglaa.Ptb Go.Proofs.Ytbnglmeljbiglaa.Rp Go.Proofs.Ytbnglmeljbiglaa.Wl Go Go.RowKit Go.ChangeMaps Go.Proofs.Ytbnglmeljbiglaa.Arr Go.Proofs.Ytbnglmeljbiglaa.Mp Go.Proofs.Ytbnglmeljbiglaa.Ow Go.Proofs.Ytbnglmeljbiglaa.Dk Go.Proofs.Ytbnglmeljbiglaa.Fr Go.Proofs.YtbnglmeljbiglaaW.PrintWords Go.Proofs.YtbnglmeljbiglaaW.PrintLast Go.Proofs.YtbnglmeljbiglaaW.PrintMore
set_option linter.unusedVariables false
set_option linter.unusedSimpArgs false
def fewB (r : S37) : Bool := decide (r.f7.size ≤ 300 ∧ r.f8.size ≤ 300 ∧ r.f9.length ≤ 50 ∧ r.f10.length ≤ 50)
theorem few_f (r : S37) : careenref04_Few.f r.f0 r.f1 r.f2 r.f3 r.f4 r.f5 r.f6 r.f7 r.f8 r.f9 r.f10 = some (fewB r) := by
  unfold careenref04_Few.f fewB
  by_cases h1 : r.f7.size ≤ 300
  · by_cases h2 : r.f8.size ≤ 300
    · by_cases h3 : r.f9.length ≤ 50
      · rw [if_pos (by omega), if_pos (by omega), if_pos (by omega)]
        exact congrArg some (decide_eq_decide.2 ⟨fun h => ⟨h1, h2, h3, by omega⟩, fun h => by have := h.2.2.2; omega⟩)
      · rw [if_pos (by omega), if_pos (by omega), if_neg (by omega), decide_eq_false (fun h => h3 h.2.2.1)]
    · rw [if_pos (by omega), if_neg (by omega), decide_eq_false (fun h => h2 h.2.1)]
  · rw [if_neg (by omega), decide_eq_false (fun h => h1 h.1)]
theorem few_calls (r : S37) (A9 : Option Addr) (c9 : Nat) (A10 : Option Addr) (c10 : Nat) (w : World) (h9 : Kd.C k107 w A9 r.f9.length r.f9) (l9 : r.f9.length ≤ c9) (h10 : Kd.C k109 w A10 r.f10.length r.f10) (l10 : r.f10.length ≤ c10) :
    Calls Try.prog 22 #[.agg #[.int .i64 r.f0, .int .i64 r.f1, .int .i64 r.f2, .int .i64 r.f3, .int .i64 r.f4, .int .i64 r.f5, .int .i64 r.f6, .string r.f7, .string r.f8, .slice A9 r.f9.length c9, .slice A10 r.f10.length c10]] w fun e w' => e = .returned (.bool (fewB r)) ∧ Below w.heap.size w w' := careenref04_Few.calls _ _ _ _ _ _ _ _ _ A9 c9 _ A10 c10 _ (fewB r) w h9 l9 h10 l10 (few_f r)
def longF (l : List S40) : Bool := l.any (fun x => !fewB x.f2 || decide (200 < x.f3.length)) || decide (200 < l.length)
theorem rd_mem {l : List S40} {k : Nat} (h : k < l.length) : rd_T40 l k ∈ l := by
  unfold rd_T40
  rw [Int.toNat_natCast, List.getD_eq_getElem?_getD, List.getElem?_eq_getElem h]
  exact List.getElem_mem h
theorem long_yes {l : List S40} {x : S40} (hx : x ∈ l) (h : fewB x.f2 = false ∨ 200 < x.f3.length) : longF l = true := by
  unfold longF
  rw [Bool.or_eq_true, List.any_eq_true]
  refine .inl ⟨x, hx, ?_⟩
  rw [Bool.or_eq_true]
  rcases h with h | h
  · exact .inl (by rw [h]; rfl)
  · exact .inr (decide_eq_true h)
theorem long_len {l : List S40} (h : ∀ k, k < l.length → fewB (rd_T40 l (k : Nat)).f2 = true ∧ (rd_T40 l (k : Nat)).f3.length ≤ 200) : longF l = decide (200 < l.length) := by
  have h1 : (l.any fun x => !fewB x.f2 || decide (200 < x.f3.length)) = false := by
    rw [List.any_eq_false]
    intro x hx
    obtain ⟨k, hk, e⟩ := List.mem_iff_getElem.1 hx
    have e2 : rd_T40 l (k : Nat) = x := by
      unfold rd_T40
      rw [Int.toNat_natCast, List.getD_eq_getElem?_getD, List.getElem?_eq_getElem hk]
      exact e
    have := h k hk
    rw [e2] at this
    rw [this.1, decide_eq_false (by omega)]
    decide
  unfold longF
  rw [h1, Bool.false_or]
set_option maxHeartbeats 8000000 in
theorem long_calls (A0 : Option Addr) (c0 : Nat) (l : List S40) (w : World) (hr : Kd.C k40 w A0 l.length l) (hc : l.length ≤ c0) : Calls Try.prog 14 #[.slice A0 l.length c0] w fun e w' => e = .returned (.bool (longF l)) ∧ Below w.heap.size w w' := by
  have H0 := Aside0.mk hr; have HM := Aside0.mk (Kd.C_max hr)
  clear hr hc
  have HB := Aside0.mk (Below.refl w.heap.size w)
  go_enter Try.func14, Try.ntmps14
  go_upto_region 2 with (fail)
  go_loopw [7] (fun v wr => ∃ r : Nat, v = .int .i64 r ∧ Aside0 (r ≤ l.length) ∧ Aside0 (∀ k, k < r → fewB (rd_T40 l (k : Nat)).f2 = true ∧ (rd_T40 l (k : Nat)).f3.length ≤ 200) ∧ Aside0 (Below w.heap.size w wr)) (fun v _ => l.length - (intOf v).toNat)
  case atStart => exact ⟨0, rfl, ⟨Nat.zero_le _⟩, ⟨fun k hk => absurd hk (Nat.not_lt_zero _)⟩, HB⟩
  case round =>
    clear HB
    obtain ⟨r, rfl, HR, HF, HB⟩ := hrel
    by_cases hlt : r < l.length
    · have hlt1 : (r : Int) < (l.length : Int) := by omega
      have hwk : wrap64 ((r : Int) + 1) = ((r + 1 : Nat) : Int) := by have := HM.out; unfold wrap64; omega
      have HLT := Aside0.mk hlt
      obtain ⟨ad, A11, c11, A12, c12, A13, c13, hA, q0, q1, q2, q3, q4, q5, q6, q7, q8, q9, q10, q11, q12, q13, l11, g11, l12, g12, l13, g13⟩ := at_T40 H0.out (r : Int) (by omega) hlt1
      subst hA
      rw [Int.toNat_natCast] at q0 q1 q2 q3 q4 q5 q6 q7 q8 q9 q10 q11 q12 q13
      replace q0 := pw_cell_below HB.out q0
      replace q1 := pw_cell_below HB.out q1
      replace q2 := pw_cell_below HB.out q2
      replace q3 := pw_cell_below HB.out q3
      replace q4 := pw_cell_below HB.out q4
      replace q5 := pw_cell_below HB.out q5
      replace q6 := pw_cell_below HB.out q6
      replace q7 := pw_cell_below HB.out q7
      replace q8 := pw_cell_below HB.out q8
      replace q9 := pw_cell_below HB.out q9
      replace q10 := pw_cell_below HB.out q10
      replace q11 := pw_cell_below HB.out q11
      replace q12 := pw_cell_below HB.out q12
      replace q13 := pw_cell_below HB.out q13
      have G11 := Aside0.mk g11; have G12 := Aside0.mk g12; have L11 := Aside0.mk l11; have L12 := Aside0.mk l12; have HMEM := Aside0.mk (rd_mem hlt)
      clear l11 g11 l12 g12 l13 g13
      generalize ho : rd_T40 l (r : Nat) = o_ at *
      have HO := Aside0.mk ho
      clear ho
      go_upto_region 4 with (fail)
      have hba := (Below.refl wr.heap.size wr).alloc (Nat.le_refl _) (.cells #[.int .i64 o_.f0, .int .i64 o_.f1, .int .i64 o_.f2.f0, .int .i64 o_.f2.f1, .int .i64 o_.f2.f2, .int .i64 o_.f2.f3, .int .i64 o_.f2.f4, .int .i64 o_.f2.f5, .int .i64 o_.f2.f6, .string o_.f2.f7, .string o_.f2.f8, .slice A11 o_.f2.f9.length c11, .slice A12 o_.f2.f10.length c12, .slice A13 o_.f3.length c13] 40)
      have HT := Aside0.mk (heap_alloc_new wr (.cells #[.int .i64 o_.f0, .int .i64 o_.f1, .int .i64 o_.f2.f0, .int .i64 o_.f2.f1, .int .i64 o_.f2.f2, .int .i64 o_.f2.f3, .int .i64 o_.f2.f4, .int .i64 o_.f2.f5, .int .i64 o_.f2.f6, .string o_.f2.f7, .string o_.f2.f8, .slice A11 o_.f2.f9.length c11, .slice A12 o_.f2.f10.length c12, .slice A13 o_.f3.length c13] 40))
      have HB1 := Aside0.mk (Arr.below_trans HB.out hba)
      clear hba HB q0 q1 q2 q3 q4 q5 q6 q7 q8 q9 q10 q11 q12 q13
      generalize wr.alloc (.cells #[.int .i64 o_.f0, .int .i64 o_.f1, .int .i64 o_.f2.f0, .int .i64 o_.f2.f1, .int .i64 o_.f2.f2, .int .i64 o_.f2.f3, .int .i64 o_.f2.f4, .int .i64 o_.f2.f5, .int .i64 o_.f2.f6, .string o_.f2.f7, .string o_.f2.f8, .slice A11 o_.f2.f9.length c11, .slice A12 o_.f2.f10.length c12, .slice A13 o_.f3.length c13] 40) = W4 at *
      generalize wr.heap.size = ob at *
      have q0 : W4.cell? ⟨ob, 0, none⟩ = some (.int .i64 o_.f0) := blk_cell HT.out 0
      have q1 : W4.cell? ⟨ob, 1, none⟩ = some (.int .i64 o_.f1) := blk_cell HT.out 1
      have q2 : W4.cell? ⟨ob, 2, none⟩ = some (.int .i64 o_.f2.f0) := blk_cell HT.out 2
      have q3 : W4.cell? ⟨ob, 3, none⟩ = some (.int .i64 o_.f2.f1) := blk_cell HT.out 3
      have q4 : W4.cell? ⟨ob, 4, none⟩ = some (.int .i64 o_.f2.f2) := blk_cell HT.out 4
      have q5 : W4.cell? ⟨ob, 5, none⟩ = some (.int .i64 o_.f2.f3) := blk_cell HT.out 5
      have q6 : W4.cell? ⟨ob, 6, none⟩ = some (.int .i64 o_.f2.f4) := blk_cell HT.out 6
      have q7 : W4.cell? ⟨ob, 7, none⟩ = some (.int .i64 o_.f2.f5) := blk_cell HT.out 7
      have q8 : W4.cell? ⟨ob, 8, none⟩ = some (.int .i64 o_.f2.f6) := blk_cell HT.out 8
      have q9 : W4.cell? ⟨ob, 9, none⟩ = some (.string o_.f2.f7) := blk_cell HT.out 9
      have q10 : W4.cell? ⟨ob, 10, none⟩ = some (.string o_.f2.f8) := blk_cell HT.out 10
      have q11 : W4.cell? ⟨ob, 11, none⟩ = some (.slice A11 o_.f2.f9.length c11) := blk_cell HT.out 11
      have q12 : W4.cell? ⟨ob, 12, none⟩ = some (.slice A12 o_.f2.f10.length c12) := blk_cell HT.out 12
      have q13 : W4.cell? ⟨ob, 13, none⟩ = some (.slice A13 o_.f3.length c13) := blk_cell HT.out 13
      cases hf : fewB o_.f2 with
      | false =>
        have HFW := Aside0.mk hf
        have HY := Aside0.mk (long_yes HMEM.out (.inl hf))
        clear hf
        go_wp2_with (go_at_call 22; (with_reducible refine (few_calls o_.f2 A11 c11 A12 c12 _ (Kd.C_below G11.out HB1.out) L11.out (Kd.C_below G12.out HB1.out) L12.out).mono ?_); rintro e w1 ⟨rfl, hb1⟩; rw [HFW.out]; have HB2 := Aside0.mk (Arr.below_trans HB1.out hb1); clear hb1)
        go_ret
        exact ⟨by rw [HY.out]; rfl, HB2.out⟩
      | true =>
        have HFW := Aside0.mk hf
        clear hf
        by_cases hz : 200 < o_.f3.length
        · have HY := Aside0.mk (long_yes HMEM.out (.inr hz))
          have z1 : decide ((200 : Int) < (o_.f3.length : Int)) = true := decide_eq_true (by omega)
          have z2 : ((200 : Int) < (o_.f3.length : Int)) = True := eq_true (by omega)
          clear hz
          go_wp2_with (go_at_call 22; (with_reducible refine (few_calls o_.f2 A11 c11 A12 c12 _ (Kd.C_below G11.out HB1.out) L11.out (Kd.C_below G12.out HB1.out) L12.out).mono ?_); rintro e w1 ⟨rfl, hb1⟩; rw [HFW.out]; have HB2 := Aside0.mk (Arr.below_trans HB1.out hb1); have q13 : w1.cell? ⟨ob, 13, none⟩ = some (.slice A13 o_.f3.length c13) := pw_cell_below hb1 q13; clear hb1)
          go_ret
          exact ⟨by rw [HY.out]; rfl, HB2.out⟩
        · have z1 : decide ((200 : Int) < (o_.f3.length : Int)) = false := decide_eq_false (by omega)
          have z2 : ((200 : Int) < (o_.f3.length : Int)) = False := eq_false (by omega)
          have hfn : ∀ k, k < r + 1 → fewB (rd_T40 l (k : Nat)).f2 = true ∧ (rd_T40 l (k : Nat)).f3.length ≤ 200 := fun k hk => by
            by_cases e : k = r
            · rw [e, HO.out]; exact ⟨HFW.out, by omega⟩
            · exact HF.out k (by omega)
          have HF2 := Aside0.mk hfn
          clear hz hfn
          go_wp2_with (go_at_call 22; (with_reducible refine (few_calls o_.f2 A11 c11 A12 c12 _ (Kd.C_below G11.out HB1.out) L11.out (Kd.C_below G12.out HB1.out) L12.out).mono ?_); rintro e w1 ⟨rfl, hb1⟩; rw [HFW.out]; have HB2 := Aside0.mk (Arr.below_trans HB1.out hb1); have q13 : w1.cell? ⟨ob, 13, none⟩ = some (.slice A13 o_.f3.length c13) := pw_cell_below hb1 q13; clear hb1)
          go_roundw
          case rel => exact ⟨r + 1, by first | rfl | (rw [hwk]) | go_num, ⟨by have := HLT.out; omega⟩, HF2, HB2⟩
          case measure =>
            have := HLT.out
            (try rw [hwk])
            show l.length - (intOf (.int .i64 ((r + 1 : Nat) : Int))).toNat < l.length - (intOf (.int .i64 (r : Int))).toNat
            simp only [intOf]; omega
    · obtain rfl : r = l.length := by have := HR.out; omega
      have HY := Aside0.mk (long_len HF.out)
      clear hlt
      go_wp2
      go_ret
      refine ⟨?_, HB.out⟩
      rw [HY.out]
      first | rfl | (refine congrArg (fun b => Ending.returned (Value.bool b)) (decide_eq_decide.2 ⟨fun h => by omega, fun h => by omega⟩))
theorem long_no {l : List S40} (h : longF l = false) : l.length ≤ 200 ∧ ∀ x ∈ l, fewB x.f2 = true ∧ x.f3.length ≤ 200 := by
  unfold longF at h
  rw [Bool.or_eq_false_iff, List.any_eq_false, decide_eq_false_iff_not] at h
  refine ⟨by omega, fun x hx => ?_⟩
  have := h.1 x hx
  simp only [Bool.not_eq_true, Bool.or_eq_false_iff, Bool.not_eq_false', decide_eq_false_iff_not] at this
  exact ⟨this.1, by omega⟩
theorem few_le {r : S37} (h : fewB r = true) : r.f8.size ≤ 1000000 := by
  unfold fewB at h
  rw [decide_eq_true_iff] at h
  omega
end Go.Proofs.Ytbnglmeljbiglaa.X4
set_option maxRecDepth 8192
namespace Go.Proofs.Ytbnglmeljbiglaa.Wl
open Go.Proofs.Ytbnglmeljbiglaa.X4 Go Go.RowKit Go.ChangeMaps Go.Proofs.Ytbnglmeljbiglaa.Arr Go.Proofs.Ytbnglmeljbiglaa.Mp Go.Proofs.Ytbnglmeljbiglaa.Ow Go.Proofs.Ytbnglmeljbiglaa.Dk Go.Proofs.Ytbnglmeljbiglaa.Fr Go.Proofs.YtbnglmeljbiglaaW.PrintWords Go.Proofs.YtbnglmeljbiglaaW.PrintLast Go.Proofs.YtbnglmeljbiglaaW.PrintMore
set_option linter.unusedVariables false
set_option linter.unusedSimpArgs false
theorem fr_grown {W w1 : World} {c : Nat → Nat} {row : Option Nat} (hg : W.grownBy w1 row) (x : Nat) (hrow : ∀ k, row = some k → c k = x) : Fr [x] W c w1 (Dk.paint c W.heap.size x) :=
  ⟨hg.os, hg.tape, hg.output, hg.size, fun k hk => paint_old hk, fun k hk hn => hg.block k hk (fun e => hn (by rw [hrow k e.symm]; exact List.mem_singleton.2 rfl))⟩
def okC (n0 : Nat) (c : Nat → Nat) (x : Nat) : Nat → Prop := fun k => k < n0 ∨ c k = x
/-- A row of the law's own of colour x; what its elements lead to came in, or is of that colour. -/
def NL {α : Type} (K : Kd α) (e n0 : Nat) (w : World) (c : Nat → Nat) (x : Nat) (v : Value) (xs : List α) : Prop := Kd.N K e w n0 (okC n0 c x) v xs
section
variable {α : Type} {K : Kd α} {e x n0 : Nat} {w0 w w' : World} {c c' : Nat → Nat} {v : Value} {xs : List α} {M : List Nat}
theorem nl_nil (K : Kd α) (e n0 : Nat) (w : World) (c : Nat → Nat) (x : Nat) : NL K e n0 w c x (.slice none 0 0) [] := Kd.N_nil _ _ _ _ _
theorem NL.own (h : NL K e n0 w c x v xs) : ∀ k, v.ownBlock = some k → c k = x := fun k hk => by
  rcases h.1 k hk with h1 | h1
  · have := Kd.N_base h k hk
    omega
  · exact h1
theorem NL.recol (h : NL K e n0 w c x v xs) (hc : ∀ k, k < w.heap.size → c' k = c k) : NL K e n0 w c' x v xs := Kd.N_mono (Kd.N_bound h) (fun k hk => by
  rcases hk.1 with h1 | h1
  · exact .inl h1
  · exact .inr ((hc k hk.2).trans h1))
theorem NL.keep (h : NL K e w0.heap.size w c x v xs) (G : Gr w0 w c) (hf : Fr M w c w' c') (hx : x ∉ M) (h0 : 0 ∉ M) : NL K e w0.heap.size w' c' x v xs := by
  have h1 : NL K e w0.heap.size w c' x v xs := h.recol hf.col
  refine Kd.N_step h1 (fun k hk hlt => hf.blk k hlt ?_)
  rcases hk with h2 | h2
  · rw [G.olds k h2]; exact h0
  · rw [← hf.col k hlt, h2]; exact hx
theorem NL.below (h : NL K e n0 w c x v xs) (hb : Below w.heap.size w w') : NL K e n0 w' c x v xs := Kd.N_below h hb
theorem NL.drew (h : NL K e n0 w c x v xs) : NL K e n0 w.drew c x v xs := h.below ((Below.refl _ _).drew)
theorem NL.paint (h : NL K e n0 w c x v xs) (y : Nat) : NL K e n0 w (Dk.paint c w.heap.size y) x v xs := h.recol fun _ hk => paint_old hk
theorem NL.slice (h : NL K e n0 w c x v xs) : ∃ A cp, v = .slice A xs.length cp := Kd.N_slice h
theorem NL.reads {A : Option Addr} {n cp : Nat} (h : NL K e n0 w c x (.slice A n cp) xs) : n = xs.length ∧ n ≤ cp ∧ K.C w A xs.length xs := Kd.N_reads' h
theorem ok_new (n0 : Nat) (c : Nat → Nat) (x s : Nat) : ∀ k, s ≤ k → okC n0 (Dk.paint c s x) x k := fun _ hk => .inr (paint_new hk)
theorem NL.old (h : NL K e n0 w c x v xs) : ∀ k, k < n0 → okC n0 c' x k ∧ some k ≠ v.ownBlock := fun k hk => ⟨.inl hk, fun e1 => by
  have := Kd.N_base h k e1.symm
  omega⟩
theorem NL.apart {y s : Nat} (h : NL K e n0 w c x v xs) (hxy : x ≠ y) : ∀ k, okC n0 c y k → (okC n0 (Dk.paint c s x) x k ∨ okC n0 c y k) ∧ some k ≠ v.ownBlock := fun k hk => ⟨.inr hk, fun e1 => by
  have h1 := Kd.N_base h k e1.symm
  have h2 := h.own k e1.symm
  rcases hk with hk | hk
  · omega
  · exact hxy (h2.symm.trans hk)⟩
theorem NL.at_ (h : NL K e n0 w c x v xs) : ∀ k, v.ownBlock = some k → c k = x ∧ k < w.heap.size := fun k hk => ⟨h.own k hk, Kd.N_lt h k hk⟩
end
end Go.Proofs.Ytbnglmeljbiglaa.Wl
set_option maxRecDepth 8192
namespace Go.Proofs.Ytbnglmeljbiglaa.Wl
open Go.Proofs.Ytbnglmeljbiglaa.X4 Go Go.RowKit Go.ChangeMaps Go.Proofs.Ytbnglmeljbiglaa.Arr Go.Proofs.Ytbnglmeljbiglaa.Mp Go.Proofs.Ytbnglmeljbiglaa.Ow Go.Proofs.Ytbnglmeljbiglaa.Dk Go.Proofs.Ytbnglmeljbiglaa.Fr Go.Proofs.YtbnglmeljbiglaaW.PrintWords Go.Proofs.YtbnglmeljbiglaaW.PrintLast Go.Proofs.YtbnglmeljbiglaaW.PrintMore
set_option linter.unusedVariables false
set_option linter.unusedSimpArgs false
theorem run_copy_sz {P : Program} (W : World) (t t' ty e : TypeId) (g cap n : Nat) (A : Option Addr) (c sz : Nat) (cur : Array Value) (cs : List Value) (hu : P.underlying t = some (.slice e)) (hs : (P.info? e).map (·.size) = some sz) (hg : W.heap[g]? = some (.cells cur e (0, 0))) (hn : cs.length = n * sz)
    (hsrc : (n = 0 ∧ A = none) ∨ ∃ ad, A = some ad ∧ ∀ j v, cs[j]? = some v → W.cell? (ad.add j) = some v) (hfit : cs.length ≤ cur.size) (h1 : ∀ v ∈ cs, v.oneCell' = true) :
    (Builtin.copy_ #[t, t'] ty #[.slice (some ⟨g, 0, none⟩) n cap, .slice A n c]).run P W = .ok (goInt n) (W.setRow g (cs ++ cur.toList.drop cs.length).toArray) := by
  cases hq : P.info? e with
  | none => rw [hq] at hs; cases hs
  | some i =>
    have hi : i.size = sz := by rw [hq] at hs; simpa using hs
    rcases hsrc with ⟨h0, rfl⟩ | ⟨ad, rfl, hsrc⟩
    · subst h0
      have : cs = [] := List.eq_nil_of_length_eq_zero (by rw [hn, Nat.zero_mul])
      subst this
      simp only [List.nil_append, List.length_nil, List.drop_zero, Array.toArray_toList]
      rw [setRow_self W g cur e (0, 0) hg]
      simp [Builtin.copy_, run_underlying hu, Builtin.lenOf, Builtin.firstCells, sizeOf, typeInfo, hq, storeCells]
    · have hl := run_loadCells_list (P := P) W ad cs hsrc
      have hst := run_storeCells_at P g 0 e cs 0 cur W hg (by simpa using hfit) h1
      rw [hn] at hl
      simp only [Nat.add_zero, List.take_zero, List.nil_append, Nat.zero_add] at hst
      simp [Builtin.copy_, run_underlying hu, Builtin.lenOf, Builtin.firstCells, sizeOf, typeInfo, hq, hi, hl, hst]
section
variable {P : Program} {ops : Array Oper} {rest : List Oper} {o : Oper} {a : Act} {Q : Exit → Act → World → Prop} {α : Type}
theorem N_copy (d : Kd α) {w0 W : World} (base : Nat) (hgd : o.guard = none) (s x : Operand) (t t' e : TypeId)
    (ho : o.op = .call { callee := .builtin .copy, args := #[s, x], argTypes := #[t, t'] }) (ht : P.underlying t = some (.slice e)) (hinfo : (P.info? e).map (·.size) = some d.sz) (hs0 : 0 < d.sz)
    (v : Value) (n : Nat) (zs : List (List Value)) (okr : Nat → Prop) (hz : zs.length = n) (hb : ∃ b, v.ownBlock = some b) (ys : List α) (A : Option Addr) (c : Nat) (ok okp : Nat → Prop) (hs : a.eval s = v) (hx : a.eval x = .slice A n c)
    (HO : (Kd.raw d.sz).R e W base okr v zs) (HR : Kd.N d e W base okp (.slice A n c) ys) (hok : ∀ k, v.ownBlock = some k → ok k) (hokp : ∀ k, (okp k ∧ some k ≠ (Value.slice A n c).ownBlock) → ok k ∧ some k ≠ v.ownBlock) (HB : Below base w0 W)
    (h : ∀ w1, Kd.N d e w1 base ok v ys → Below base w0 w1 → W.grownBy w1 v.ownBlock → wpList P ops Q rest (a.put o.dst (.int .i64 (n : Int))) w1) :
    wpList P ops Q (o :: rest) a W := by
  obtain ⟨inner, hown⟩ := Kd.R_own HO
  obtain ⟨b, hb⟩ := hb
  rw [hz] at hown
  rcases hown.2 with ⟨hv, _⟩ | ⟨g, cap, cur, hv, hbg, hh, hnc, hcm, hcs, htk⟩
  · rw [hv] at hb; cases hb
  obtain ⟨_, rows, hlr, hRW, hfe⟩ := HR
  have hrd := Kd.R_reads' hRW
  have hyl : ys.length = n := by rw [← hlr]; exact hrd.1.symm
  have hRR : ReadsRow ((Kd.raw d.sz).K W) d.sz W A n rows := by
    have := hrd.2.2
    rw [← hrd.1] at this
    exact this
  have conv : ∀ news : List Value, Reps ((Kd.raw d.sz).K W) d.sz rows news → Reps (fun x c0 => Kd.FK d W (fun k => okp k ∧ some k ≠ (Value.slice A n c).ownBlock) x c0) d.sz ys news := fun news hn => by
    refine ⟨by rw [hn.1, hlr], fun j x hj => ?_⟩
    have hjl : j < rows.length := by rw [hlr]; exact (List.getElem?_eq_some_iff.1 hj).1
    have hp := hn.2 j _ (List.getElem?_eq_getElem hjl)
    have e1 : (news.drop (j * d.sz)).take d.sz = rows[j] := hp.1
    rw [e1]
    exact hfe j x _ hj (List.getElem?_eq_getElem hjl)
  have src : ∃ cs : List Value, Reps (fun x c0 => Kd.FK d W (fun k => okp k ∧ some k ≠ (Value.slice A n c).ownBlock) x c0) d.sz ys cs ∧ ((n = 0 ∧ A = none) ∨ ∃ ad, A = some ad ∧ ∀ j v, cs[j]? = some v → W.cell? (ad.add j) = some v) := by
    cases hA : A with
    | none =>
      have h0 : n = 0 := by
        rcases Nat.eq_zero_or_pos n with h0 | h0
        · exact h0
        · obtain ⟨ad, h, _⟩ := hRR.2.2 h0
          rw [hA] at h; cases h
      have hy0 : ys = [] := List.eq_nil_of_length_eq_zero (by omega)
      rw [hy0]
      exact ⟨[], Reps.none _ _, .inl ⟨h0, rfl⟩⟩
    | some ad =>
      rw [hA] at hRR conv
      obtain ⟨news, hnr, hnc2⟩ := ReadsRow.inner_ hRR
      exact ⟨news, conv news hnr, .inr ⟨ad, rfl, hnc2⟩⟩
  obtain ⟨cs, hrep, hsrc⟩ := src
  have hlen : cs.length = n * d.sz := by rw [hrep.1, hyl]
  have hone : ∀ u ∈ cs, u.oneCell' = true := by
    intro u hu
    obtain ⟨q, hq, rfl⟩ := List.mem_iff_getElem.1 hu
    have hql : q / d.sz < ys.length := by
      rw [Nat.div_lt_iff_lt_mul hs0, ← hrep.1]
      exact hq
    have hc := hrep.2 (q / d.sz) _ (List.getElem?_eq_getElem hql)
    refine d.K_one (Kd.FK_now hc) _ ?_
    rw [List.mem_iff_getElem?]
    refine ⟨q % d.sz, ?_⟩
    rw [List.getElem?_take, if_pos (Nat.mod_lt _ hs0), List.getElem?_drop, Nat.mul_comm, Nat.div_add_mod, List.getElem?_eq_getElem hq]
  have hcs : cur.size = cap * d.sz := hcs
  have hfit : cs.length ≤ cur.size := by rw [hlen, hcs]; exact Nat.mul_le_mul_right _ hnc
  have hrun := run_copy_sz (P := P) W t t' o.type e g cap n A c d.sz cur cs ht hinfo hh hlen hsrc hfit hone
  have hsz : (cs ++ cur.toList.drop cs.length).length = cur.size := by
    have e1 : cur.toList.length = cur.size := by simp
    rw [List.length_append, List.length_drop, e1]; omega
  obtain ⟨w1, hw1⟩ : ∃ w1, w1 = W.setRow g (cs ++ cur.toList.drop cs.length).toArray := ⟨_, rfl⟩
  rw [← hw1] at hrun
  have hh1 : w1.heap[g]? = some (.cells (cs ++ cur.toList.drop cs.length).toArray e (0, 0)) := by rw [hw1]; exact setRow_heap W g cur _ e (0, 0) hh
  have hgr : W.grownBy w1 v.ownBlock := by
    rw [hw1]
    exact ⟨rfl, rfl, rfl, by simp [World.setRow], fun k _ hk => setRow_other W g k _ (fun e1 => hk (by rw [e1, hv]; rfl))⟩
  have hown1 : w1.ownsRow base e d.sz v n cs := ⟨hlen, .inr ⟨g, cap, _, hv, hbg, hh1, hnc, hcm, by rw [List.size_toArray, hsz, hcs], by rw [← hlen]; exact List.take_left' rfl⟩⟩
  have hN : Kd.N d e w1 base ok v ys := by
    refine ⟨hok, Kd.chunks d.sz ys.length cs, by rw [Kd.chunks_length], ⟨fun k hk => hk.symm, cs, by rw [Kd.chunks_length, hyl]; exact hown1, Kd.reps_raw hrep (fun x c hp => ⟨d.K_len (Kd.FK_now hp), d.K_one (Kd.FK_now hp)⟩)⟩, fun j x c hx hc => ?_⟩
    rw [Kd.chunks_get hc]
    have hfk := hrep.2 j x hx
    exact Kd.FK_mono (Kd.FK_grown hfk hgr (fun k hk => (hokp k hk).2)) (fun k hk => hokp k hk)
  refine wpList_plain hgd fun K hK => ?_
  unfold Oper.wp execOp
  rw [hv] at hs
  simp only [ho, resolve, invoke, builtin, Sem.run_bind, Sem.run_pure, Result.andThen_ok, List.map_toArray, List.map_cons, List.map_nil, hs, hx, hrun]
  refine hK _ _ (h w1 hN (HB.grown hgr (by have := (Kd.R_own HO); exact Nat.le_trans hbg (Nat.le_of_lt (blk_lt' hh))) (fun k hk => ?_)) hgr)
  rw [hv] at hk
  injection hk with hk
  rw [← hk]; exact hbg
end
end Go.Proofs.Ytbnglmeljbiglaa.Wl
set_option maxRecDepth 8192
namespace Go.Proofs.Ytbnglmeljbiglaa.Wl
open Go.Proofs.Ytbnglmeljbiglaa.Rgn
open Go.Proofs.Ytbnglmeljbiglaa.X4 Go.Proofs.Ytbnglmeljbiglaa.Pt Go.Proofs.Ytbnglmeljbiglaa.Ptb Go Go.RowKit Go.ChangeMaps Go.Proofs.Ytbnglmeljbiglaa.Arr Go.Proofs.Ytbnglmeljbiglaa.Mp Go.Proofs.Ytbnglmeljbiglaa.Ow Go.Proofs.Ytbnglmeljbiglaa.Dk Go.Proofs.Ytbnglmeljbiglaa.Fr Go.Proofs.YtbnglmeljbiglaaW.PrintWords Go.Proofs.YtbnglmeljbiglaaW.PrintLast Go.Proofs.YtbnglmeljbiglaaW.PrintMore
set_option linter.unusedVariables false
set_option linter.unusedSimpArgs false
/-- A tape: its block is of colour 2, its row of colour 5. -/
structure TP (w0 w : World) (c : Nat → Nat) (gt : Nat) (E : Int) (v : Value) (xs : List En_) : Prop where
  blk : Fr.Loc w c gt 2 #[.int .i64 E, v] 111
  row : NL X4.k44 44 w0.heap.size w c 5 v xs
section
variable {M : List Nat} {w0 w w' : World} {c c' : Nat → Nat} {gt gl m g : Nat} {E : Int} {v : Value} {xs : List En_} {W : WS}
theorem TP.keep (h : TP w0 w c gt E v xs) (G : Gr w0 w c) (hf : Fr M w c w' c') (h2 : 2 ∉ M) (h5 : 5 ∉ M) (h0 : 0 ∉ M) : TP w0 w' c' gt E v xs := ⟨h.blk.keep hf h2, h.row.keep G hf h5 h0⟩
theorem TP.below (h : TP w0 w c gt E v xs) (hb : Below w.heap.size w w') : TP w0 w' c gt E v xs := ⟨h.blk.below hb, h.row.below hb⟩
theorem TP.drew (h : TP w0 w c gt E v xs) : TP w0 w.drew c gt E v xs := h.below ((Below.refl _ _).drew)
theorem TP.c0 (h : TP w0 w c gt E v xs) : w.cell? ⟨gt, 0, none⟩ = some (.int .i64 E) := blk_cell h.blk.blk 0
theorem TP.c1 (h : TP w0 w c gt E v xs) : w.cell? ⟨gt, 1, none⟩ = some v := blk_cell h.blk.blk 1
theorem TP.fz (h : TP w0 w c gt E v xs) (i : Nat) : w.frozen? ⟨gt, i, none⟩ = false := blk_frozen h.blk.blk i
theorem tnew_calls (G : Gr w0 w c) : Calls Try.prog 35 #[] w fun e w' => ∃ gt c', e = .returned (.pointer (some ⟨gt, 0, none⟩)) ∧ Fr [] w c w' c' ∧ TP w0 w' c' gt 1 (.slice none 0 0) [] := by
  have HL := Aside0.mk (loc_alloc w c 2 #[.int .i64 1, .slice none 0 0] 111)
  have HF := Aside0.mk (fr_alloc [] w c 2 (.cells #[.int .i64 1, .slice none 0 0] 111))
  go_enter Try.func35, Try.ntmps35
  go_wp2
  go_ret
  exact ⟨_, _, rfl, HF.out, HL.out, nl_nil _ _ _ _ _ _⟩
theorem upto_calls (h : TP w0 w c gt E v xs) : Calls Try.prog 37 #[.pointer (some ⟨gt, 0, none⟩)] w fun e w' => e = .returned (.int .i64 E) ∧ Below w.heap.size w w' := by
  have c0 := h.c0
  clear h
  go_enter Try.func37, Try.ntmps37
  go_wp2
  go_ret
  exact ⟨rfl, Below.refl _ _⟩
theorem upto_nil (w : World) : Calls Try.prog 37 #[.pointer none] w fun e w' => e = .returned (.int .i64 0) ∧ Below w.heap.size w w' := by
  go_enter Try.func37, Try.ntmps37
  go_wp2
  go_ret
  exact ⟨rfl, Below.refl _ _⟩
def joinE (W : WS) (E : Int) : Int := if E < W.low then 11 else 0
theorem joins_calls (h : TP w0 w c gt E v xs) (hl : LO w c gl m g W) : Calls Try.prog 58 #[.pointer (some ⟨gt, 0, none⟩), .pointer (some ⟨gl, 0, none⟩)] w fun e w' => e = .returned (.int .i64 (joinE W E)) ∧ Below w.heap.size w w' := by
  have HT := Aside0.mk h.drew; have HL := Aside0.mk hl.drew; have HB := Aside0.mk ((Below.refl w.heap.size w).drew)
  clear h hl
  go_enter Try.func58, Try.ntmps58
  go_upto_region 3 with (fail)
  have c0 := HT.out.c0
  refine start_ (n := 8) (S := fun w' => w'.cell? ⟨gt, 0, none⟩ = some (.int .i64 E)) (ds := []) #[false, false, false, false, false, false, false, false] (by kernel_rfl) rfl rfl c0 (fun hHeld => ?_)
  refine rgp 0 13 ?_
  refine rgp 2 15 ?_
  refine rgp 3 16 ?_
  refine rgp 4 17 ?_
  refine rgt 5 18 hHeld ?_
  refine one_ (i := 1) (N := some 14) #[true, true, true, true, true, true, false, false] rfl rfl (by kernel_rfl) (by decide) (fun K hK => ?_)
  refine goes_ Try.func31 (by kernel_rfl) rfl #[.pointer (some ⟨gl, 0, none⟩)] (by rfl) rfl rfl (by (try simp only [List.map_toArray, List.map_cons, List.map_nil]); first | done | rfl) ?_
  refine (low_calls HL.out).mono ?_
  rintro e v1_ ⟨rfl, hb1⟩
  skip
  refine ⟨_, rfl, ?_⟩
  have HB2 := Aside0.mk (Arr.below_trans HB.out hb1)
  refine hK _ _ (pw_cell_below hb1 c0) (fun hHeld => ?_)
  clear hK K hb1
  refine norm_ (a' := ?_) ?_ ?_
  rotate_left
  · show Act.put _ (some 14) _ = _
    simp only [Act.put, List.setIfInBounds_toArray, List.set_cons_zero, List.set_cons_succ, i64_w, i32_w]
    rfl
  refine rgp 6 19 ?_
  refine rgp 7 12 ?_
  refine done_ (by kernel_rfl) ?_
  by_cases hj : E < W.low
  · have z1 : decide (E < W.low) = true := decide_eq_true hj
    have z2 : (E < W.low) = True := eq_true hj
    have HJ := Aside0.mk (show joinE W E = 11 from if_pos hj)
    go_wp2
    (try rw [Exit.noGoto_ret])
    go_ret
    exact ⟨by rw [HJ.out]; first | rfl | skip, HB2.out⟩
  · have z1 : decide (E < W.low) = false := decide_eq_false hj
    have z2 : (E < W.low) = False := eq_false hj
    have HJ := Aside0.mk (show joinE W E = 0 from if_neg hj)
    go_wp2
    (try rw [Exit.noGoto_ret])
    go_ret
    exact ⟨by rw [HJ.out]; first | rfl | skip, HB2.out⟩
theorem joins_nil (q : Value) (hq : q = .pointer none ∨ ∃ p, q = .pointer (some p)) (w : World) : Calls Try.prog 58 #[.pointer none, q] w fun e w' => e = .returned (.int .i64 10) ∧ Below w.heap.size w w' := by
  rcases hq with rfl | ⟨p, rfl⟩
  · go_enter Try.func58, Try.ntmps58
    go_wp2
    (try rw [Exit.noGoto_ret])
    go_ret
    exact ⟨rfl, Below.refl _ _⟩
  · go_enter Try.func58, Try.ntmps58
    go_wp2
    (try rw [Exit.noGoto_ret])
    go_ret
    exact ⟨rfl, Below.refl _ _⟩
theorem joins_none (p : Addr) (w : World) : Calls Try.prog 58 #[.pointer (some p), .pointer none] w fun e w' => e = .returned (.int .i64 10) ∧ Below w.heap.size w w' := by
  go_enter Try.func58, Try.ntmps58
  go_wp2
  (try rw [Exit.noGoto_ret])
  go_ret
  exact ⟨rfl, Below.refl _ _⟩
theorem tlist_nil (w : World) : Calls Try.prog 36 #[.pointer none] w fun e w' => e = .returned (.slice none 0 0) ∧ Below w.heap.size w w' := by
  go_enter Try.func36, Try.ntmps36
  go_wp2
  go_ret
  exact ⟨rfl, Below.refl _ _⟩
theorem fr_grown_new {w W V : World} {c c3 : Nat → Nat} {row : Option Nat} (h : Fr [] w c W c3) (hg : W.grownBy V row) (x : Nat) (hrow : ∀ k, row = some k → w.heap.size ≤ k) : Fr [] w c V (Dk.paint c3 W.heap.size x) :=
  ⟨hg.os.trans h.os, hg.tape.trans h.tape, hg.output.trans h.output, Nat.le_trans h.size hg.size, fun k hk => (paint_old (Nat.lt_of_lt_of_le hk h.size)).trans (h.col k hk), fun k hk hn => (hg.block k (Nat.lt_of_lt_of_le hk h.size) (fun e => by have := hrow k e.symm; omega)).trans (h.blk k hk hn)⟩
theorem nl_of {n0 : Nat} {b : Option Nat} (h : Kd.N X4.k44 44 w n0 (fun k => okC n0 c 5 k ∧ some k ≠ b) v xs) : NL X4.k44 44 n0 w c 5 v xs := Kd.N_mono h (fun _ hk => hk.1)
def zE : Value := (.agg #[(.int .i64 0), (.int .i64 0), (.int .i64 0), (.int .i64 0), (.int .i64 0), (.int .i64 0), (.int .i64 0), (.int .i64 0), (.string ⟨#[]⟩), (.string ⟨#[]⟩), (.slice none 0 0), (.slice none 0 0)] : Value)
theorem zent (W : World) (base : Nat) (ok : Nat → Prop) : (Kd.raw 12).M W base ok zE.cells.toList zE.cells.toList := ⟨rfl, rfl, fun u hu => (List.all_eq_true.1 (show (zE.cells.toList.all fun u => u.oneCell') = true from rfl)) u hu⟩
theorem info_ent : (Try.prog.info? 44).map (fun i => (i.zero, i.size, i.bytes)) = some (some zE, 12, 144) := X4b.info44
theorem size_ent : (Try.prog.info? 44).map (·.size) = some 12 := by kernel_rfl
theorem below_grown {W W1 : World} (hg : W.grownBy W1 none) : Below W.heap.size W W1 := (Below.refl _ _).grown hg (Nat.le_refl _) (fun k hk => by cases hk)
set_option maxHeartbeats 4000000 in
theorem tlist_calls (h : TP w0 w c gt E v xs) (G : Gr w0 w c) (hx : xs.length ≤ 1000000000) : Calls Try.prog 36 #[.pointer (some ⟨gt, 0, none⟩)] w fun e w' => ∃ v' c', e = .returned v' ∧ Fr [] w c w' c' ∧ Kd.N X4.k44 44 w' w0.heap.size (fun k => okC w0.heap.size c' 5 k ∧ some k ≠ v.ownBlock) v' xs ∧ ∀ k, v'.ownBlock = some k → w.heap.size ≤ k := by
  obtain ⟨A, cp, hv⟩ := h.row.slice
  subst hv
  have HT := Aside0.mk h; have HG := Aside0.mk G; have HX := Aside0.mk hx
  have c1 := h.c1
  clear h G hx
  have HF := Aside0.mk (Kd.N_bound HT.out.row)
  have HVL := Aside0.mk (Kd.N_lt HT.out.row)
  go_enter Try.func36, Try.ntmps36
  go_upto_region 4 with ((with_reducible refine gate_dst (N := 11) rfl ?_); refine Kd.R_make (Kd.raw 12) (w0 := w0) w0.heap.size 44 rfl rfl 33 (.tmp 10) (.tmp 10) rfl (xs.length : Int) rfl rfl Try.underlying33 zE 144 info_ent rfl (by decide) (by decide) zE.cells.toList (ok := fun _ => True) (okp := fun _ => False) (zent _ _ _) (fun _ hk => hk.elim) trivial (Int.natCast_nonneg _) (by have := HX.out; omega) HG.out.bel HG.out.bel.size ?_; intro v1 w1 hr hb hg hat; have HB1 := Aside0.mk (below_grown hg); have HR := Aside0.mk hr; have HBB := Aside0.mk hb; have HAT := Aside0.mk hat; clear hr hb hg hat)
  have d1 : w1.cell? ⟨gt, 1, none⟩ = some (.slice A xs.length cp) := pw_cell_below HB1.out c1
  have HF1 := Aside0.mk (Kd.N_below HF.out HB1.out)
  have HNB := Aside0.mk (show ∀ k, v1.ownBlock = some k → w.heap.size ≤ k from fun k hk => by
    obtain ⟨b, e1, hb⟩ := HAT.out
    rw [e1] at hk
    injection hk with hk
    omega)
  have HZL := Aside0.mk (show (List.replicate (xs.length : Int).toNat zE.cells.toList).length = xs.length by rw [List.length_replicate]; omega)
  obtain ⟨b1, hb1, hb2⟩ := HAT.out
  have HOW := Aside0.mk (show ∃ b, v1.ownBlock = some b from ⟨b1, hb1⟩)
  clear hb1 hb2
  have HOKP := Aside0.mk (show ∀ k, ((okC w0.heap.size c 5 k ∧ k < w.heap.size) ∧ some k ≠ (Value.slice A xs.length cp).ownBlock) → (okC w0.heap.size (Dk.paint c w.heap.size 5) 5 k ∧ some k ≠ (Value.slice A xs.length cp).ownBlock) ∧ some k ≠ v1.ownBlock from fun k hk => ⟨⟨by
    rcases hk.1.1 with h1 | h1
    · exact .inl h1
    · exact .inr ((paint_old hk.1.2).trans h1), hk.2⟩, fun e1 => by have := HNB.out k e1.symm; have := hk.1.2; omega⟩)
  go_upto_region 5 with ((with_reducible refine gate_builtin (b := .copy) (xs := #[.tmp 12, .tmp 16]) rfl ?_); refine N_copy X4.k44 (w0 := w0) w0.heap.size rfl (.tmp 12) (.tmp 16) 33 33 44 rfl Try.underlying33 size_ent (by decide) v1 xs.length _ _ HZL.out HOW.out xs A cp (fun k => okC w0.heap.size (Dk.paint c w.heap.size 5) 5 k ∧ some k ≠ (Value.slice A xs.length cp).ownBlock) _ rfl rfl HR.out HF1.out (fun k hk => ⟨.inr (paint_new (HNB.out k hk)), fun e1 => by have := HVL.out k e1.symm; have := HNB.out k hk; omega⟩) HOKP.out HBB.out ?_; intro w5 hN hB5 hg; have HN := Aside0.mk hN; have HB5 := Aside0.mk (show Below w.heap.size w w5 from HB1.out.grown hg HB1.out.size (fun k hk => HNB.out k hk)); clear hN hB5 hg)
  go_wp2
  go_ret
  exact ⟨_, _, rfl, Fr.of_paint HB5.out 5, HN.out, HNB.out⟩
end
end Go.Proofs.Ytbnglmeljbiglaa.Wl
