import Derived.Test.YtbdfdfahpdilpaaX3x93
import Derived.Test.YtbdfdfahpdilpaaZB
/-! Layer 3: laws. -/
namespace Go.Proofs.Ytbdfdfahpdilpaa.X3
open Go Go.RowKit Go.ChangeMaps Go.Proofs.Ytbdfdfahpdilpaa.Arr Go.Proofs.Ytbdfdfahpdilpaa.Mp Go.Proofs.Ytbdfdfahpdilpaa.Ow Go.Proofs.Ytbdfdfahpdilpaa.Dk Go.Proofs.YtbdfdfahpdilpaaW.PrintWords Go.Proofs.YtbdfdfahpdilpaaW.PrintLast Go.Proofs.YtbdfdfahpdilpaaW.PrintMore
set_option linter.unusedVariables false
set_option linter.unusedSimpArgs false
theorem pk_in {l : List Int} {A : Option Addr} {w W : World} {c : Nat → Nat} {x : Nat} (h : Kd.C (Kd.int .u8) w A l.length l) (hb : ∀ y ∈ l, 0 ≤ y ∧ y < 256) (hw : Below w.heap.size w W) (hc : Olds c w.heap.size) (hx : x ≠ 0) : Pk W (Col c x) A l.length (fun j => (l.getD j 0).toNat) := fun hn => by
  obtain ⟨ad, cs, e, hl, hk, hcell⟩ := Kd.C_get h (0 : Int) 0 (by omega) (by omega)
  have h0 := hcell
  refine ⟨ad, e, fun j hj => ?_, .inl fun hcol => ?_⟩
  · obtain ⟨ad', cs', e', hl', hk', hcell'⟩ := Kd.C_get h (0 : Int) j (by omega) (by omega)
    rw [e] at e'
    injection e' with e'
    subst e'
    have hv : cs'[0]? = some (.int .u8 (l.getD j 0)) := by
      have : cs' = [.int .u8 (l.getD (j : Int).toNat 0)] := hk'
      rw [this]; rfl
    have := hcell' 0 _ hv
    have e1 : (j : Int).toNat * (Kd.int .u8).sz + 0 = j := by
      show (j : Int).toNat * 1 + 0 = j
      omega
    rw [e1] at this
    rw [show (((l.getD j 0).toNat : Nat) : Int) = l.getD j 0 by
      have hm : l.getD j 0 ∈ l := by
        rw [List.getD_eq_getElem?_getD, List.getElem?_eq_getElem hj]
        exact List.getElem_mem hj
      have := hb _ hm
      omega]
    exact (hw.cell (World.block_lt_of_cell? w _ this)).trans this
  · have hv : cs[0]? = some (.int .u8 (l.getD 0 0)) := by
      have : cs = [.int .u8 (l.getD (0 : Int).toNat 0)] := hk
      rw [this]; rfl
    have := World.block_lt_of_cell? w _ (hcell 0 _ hv)
    rw [Dk.add_block] at this
    exact hx (hcol.symm.trans (hc _ this))
theorem pk_lt {l : List Int} (hb : ∀ y ∈ l, 0 ≤ y ∧ y < 256) (i : Nat) : (fun j => (l.getD j 0).toNat) i < 256 := by
  show (l.getD i 0).toNat < 256
  rw [List.getD_eq_getElem?_getD]
  cases h : l[i]? with
  | none => simp
  | some x =>
    have := hb x (List.mem_of_getElem? h)
    simp only [Option.getD_some]
    omega
theorem full_noughts : fullI 0 = noughts 128 := by decide +kernel
/-- Behind a crash a sector is as it was safe, or one that was written there, or noughts. -/
theorem crash_may (n : Nat) (p : Nat → Nat) (row : List (Int × ByteArray)) (safe : List ByteArray) (xs : Nat → List ByteArray) (h : ∀ q ∈ row, 0 ≤ q.1 ∧ q.2 ∈ xs q.1.toNat ∧ noughts 128 ∈ xs q.1.toNat) (i : Nat) : ∀ k, (crashT n p row safe k)[i]? = safe[i]? ∨ ∃ s, (crashT n p row safe k)[i]? = some s ∧ s ∈ xs i := by
  intro k
  induction k with
  | zero => exact .inl rfl
  | succ k ih =>
    cases hq : row[k]? with
    | none =>
      have e : crashT n p row safe (k + 1) = crashT n p row safe k := by
        show (match row[k]? with | some q => _ | none => _) = _
        rw [hq]
      rw [e]; exact ih
    | some q =>
      rw [crashT_succ hq]
      obtain ⟨h0, h1, h2⟩ := h q (List.mem_of_getElem? hq)
      have step : ∀ s, s ∈ xs q.1.toNat → (((crashT n p row safe k).set q.1.toNat s)[i]? = safe[i]? ∨ ∃ s', ((crashT n p row safe k).set q.1.toNat s)[i]? = some s' ∧ s' ∈ xs i) := by
        intro s hs
        rw [List.getElem?_set]
        by_cases e : q.1.toNat = i
        · rw [if_pos e]
          by_cases hl : q.1.toNat < (crashT n p row safe k).length
          · rw [if_pos hl]
            exact .inr ⟨s, rfl, e ▸ hs⟩
          · rw [if_neg hl]
            rcases ih with ih | ⟨s', ih, _⟩
            · left
              rw [← ih, List.getElem?_eq_none (by omega)]
            · rw [List.getElem?_eq_none (by omega)] at ih
              cases ih
        · rw [if_neg e]; exact ih
      unfold crashStep
      split
      · exact step _ h1
      · split
        · exact step _ h2
        · exact ih
theorem safe_law {n m : Nat} {p : Nat → Nat} {d d1 : DS} (hl : Live n d) (hl1 : Live n d1) (hr : d1.row = []) (hs : d.safe = d1.safe) (xs : Nat → List ByteArray) (h : ∀ q ∈ d.row, 0 ≤ q.1 ∧ q.2 ∈ xs q.1.toNat ∧ noughts 128 ∈ xs q.1.toNat) (i : Nat) (hi : i < n) :
    readS (crashD m p d) i = readS d1 i ∨ readS (crashD m p d) i ∈ xs i := by
  rw [live_readS (live_crash hl) i (by omega) (by omega), clean_read hl1 hr i (by omega) (by omega), Int.toNat_natCast]
  simp only [crashD]
  show ((crashT m p d.row d.safe d.row.length)[i]?).getD ⟨#[]⟩ = _ ∨ ((crashT m p d.row d.safe d.row.length)[i]?).getD ⟨#[]⟩ ∈ _
  rcases crash_may m p d.row d.safe xs h i d.row.length with h1 | ⟨s, h1, h2⟩
  · left; rw [h1, hs]
  · right; rw [h1]; exact h2
theorem okop0 {x : S31} (h : OkOp x) : 0 ≤ x.f3 := h.2.2.2.1.1
theorem okop1 {x : S31} (h : OkOp x) : x.f3 < 256 := h.2.2.2.1.2
theorem rows_push {n k : Nat} {d : DS} {xs : Nat → List ByteArray} {ii : Nat} {s : ByteArray} (hl : Live n d) (hi : ii < n) (hs : s.size = 128) (h : ∀ q ∈ d.row, 0 ≤ q.1 ∧ q.2 ∈ xs q.1.toNat ∧ noughts 128 ∈ xs q.1.toNat) (hx : ∀ i, (xs i).length ≤ 2 * k) :
    (writeD d (ii : Int) s).safe = d.safe ∧ (∀ i, ((fun j => if j = ii then xs ii ++ [s, fullI 0] else xs j) i).length ≤ 2 * (k + 1)) ∧ ∀ q ∈ (writeD d (ii : Int) s).row, 0 ≤ q.1 ∧ q.2 ∈ (fun j => if j = ii then xs ii ++ [s, fullI 0] else xs j) q.1.toNat ∧ noughts 128 ∈ (fun j => if j = ii then xs ii ++ [s, fullI 0] else xs j) q.1.toNat := by
  rw [live_writeD hl (ii : Int) s hs (by omega) (by omega)]
  refine ⟨rfl, fun i => ?_, fun q hq => ?_⟩
  · show (if i = ii then xs ii ++ [s, fullI 0] else xs i).length ≤ _
    have := hx i
    have := hx ii
    split
    · rw [List.length_append]; simp only [List.length_cons, List.length_nil]; omega
    · omega
  · show 0 ≤ q.1 ∧ q.2 ∈ (if q.1.toNat = ii then xs ii ++ [s, fullI 0] else xs q.1.toNat) ∧ noughts 128 ∈ (if q.1.toNat = ii then xs ii ++ [s, fullI 0] else xs q.1.toNat)
    rcases List.mem_append.1 hq with hq | hq
    · obtain ⟨h0, h1, h2⟩ := h q hq
      refine ⟨h0, ?_⟩
      by_cases e : q.1.toNat = ii
      · rw [if_pos e]
        rw [e] at h1 h2
        exact ⟨List.mem_append_left _ h1, List.mem_append_left _ h2⟩
      · rw [if_neg e]; exact ⟨h1, h2⟩
    · have e : q = ((ii : Int), s) := by simpa using hq
      subst e
      refine ⟨by show (0 : Int) ≤ (ii : Int); omega, ?_⟩
      rw [if_pos (show ((ii : Int)).toNat = ii by omega), ← full_noughts]
      exact ⟨by simp, by simp⟩
def okF (s a : ByteArray) (l : List ByteArray) (j : Nat) : Bool := (s.toList == a.toList) || (l.take j).any (fun x => s.toList == x.toList)
theorem ok_succ (s a : ByteArray) (l : List ByteArray) (j : Nat) (h : j < l.length) : okF s a l (j + 1) = (okF s a l j || (s.toList == l[j].toList)) := by
  unfold okF
  rw [List.take_succ_eq_append_getElem h, List.any_append, Bool.or_assoc]
  simp
theorem ok_all {s a : ByteArray} {l : List ByteArray} (h : s = a ∨ s ∈ l) : okF s a l l.length = true := by
  unfold okF
  rcases h with rfl | h
  · simp
  · rw [List.take_length, show l.any (fun x => s.toList == x.toList) = true from List.any_eq_true.2 ⟨s, h, by simp⟩, Bool.or_true]
def wasV (d : DS) (k : Nat) : Nat → Value := fun i => .string (if i < k then readS d (i : Int) else ⟨#[]⟩)
theorem was_step (d : DS) (k : Nat) : (fun j => if j = k then Value.string (readS d (k : Int)) else wasV d k j) = wasV d (k + 1) := by
  funext j
  unfold wasV
  by_cases e : j = k
  · subst e; simp
  · by_cases h : j < k
    · simp [e, h, show j < k + 1 by omega]
    · simp [e, h, show ¬ j < k + 1 by omega]
set_option maxHeartbeats 16000000 in
set_option maxRecDepth 20000 in
theorem safe_walk (A0 : Option Addr) (c0 : Nat) (l : List S31) (B0 : Option Addr) (e0 : Nat) (l2 : List S31) (P0 : Option Addr) (p0 : Nat) (ps : List Int) (w : World) (hr : Kd.C k31 w A0 l.length l) (ho : OkOps l) (hr2 : Kd.C k31 w B0 l2.length l2) (ho2 : OkOps l2) (hr3 : Kd.C (Kd.int .u8) w P0 ps.length ps) (ho3 : ∀ y ∈ ps, 0 ≤ y ∧ y < 256) : Calls Try.prog 3 #[.slice A0 l.length c0, .slice B0 l2.length e0, .slice P0 ps.length p0] w fun e w' => e = .returned (.bool true) ∧ Below w.heap.size w w' := by
  have hnew : ∀ w, Calls Try.prog 13 #[.int .i64 8] w fun e w' => ∃ g, w.heap.size ≤ g ∧ e = .returned (.tuple #[.pointer (some ⟨g, 0, none⟩), .int .i64 0]) ∧ DK w' (fun k => w.heap.size ≤ k) g (newD 8) ∧ Below w.heap.size w w' := fun w => new_calls 8 (by decide) (by decide) w
  have hfz : ∀ w, Calls Try.prog 17 #[.int .u8 0] w fun e w' => e = .returned (.string (fullI 0)) ∧ Below w.heap.size w w' := fun w => full_int 0 (by decide) (by decide) w
  have hm := Kd.C_max hr
  have hm2 := Kd.C_max hr2
  have hm3 := Kd.C_max hr3
  have HR := Aside0.mk hr; have HR2 := Aside0.mk hr2; have HR3 := Aside0.mk hr3; clear hr hr2 hr3
  have HOPS := Aside0.mk ho; have HOPS2 := Aside0.mk ho2; have HO3 := Aside0.mk ho3; clear ho ho2 ho3
  go_enter Try.func3, Try.ntmps3
  go_upto_region 2 with (go_at_call 13; (with_reducible refine (hnew _).mono ?_); rintro e w1 ⟨ga, hge, rfl, hk1, hb1⟩; have HKa := Aside0.mk (hk1.fresh (fun _ => 0) 1); have C := Aside0.mk (olds_paint0 w.heap.size w.heap.size 1 (Nat.le_refl _)); have F := Aside0.mk (FS.of_below hb1); clear hk1 hb1 hge)
  generalize Dk.paint (fun _ => 0) w.heap.size 1 = cl at *
  cases hlg : longF l with
  | true =>
    go_wp2_with (first | (go_at_call 14; (with_reducible refine (awake_calls _).mono ?_); rintro e w1 ⟨rfl, hb1⟩; have HKa_n := Aside0.mk (HKa.out.below hb1); have F_n := Aside0.mk (F.out.below hb1); clear HKa F; have HKa := HKa_n; have F := F_n; clear HKa_n F_n; clear hb1) | (go_at_call 15; (with_reducible refine (long_calls _ _ l _ (Kd.C_below HR.out (FS.up F.out (Nat.le_refl _)))).mono ?_); rintro e w1 ⟨rfl, hb1⟩; have HKa_n := Aside0.mk (HKa.out.below hb1); have F_n := Aside0.mk (F.out.below hb1); clear HKa F; have HKa := HKa_n; have F := F_n; clear HKa_n F_n; clear hb1) | (go_at_call 15; (with_reducible refine (long_calls _ _ l2 _ (Kd.C_below HR2.out (FS.up F.out (Nat.le_refl _)))).mono ?_); rintro e w1 ⟨rfl, hb1⟩; have HKa_n := Aside0.mk (HKa.out.below hb1); have F_n := Aside0.mk (F.out.below hb1); clear HKa F; have HKa := HKa_n; have F := F_n; clear HKa_n F_n; clear hb1))
    go_ret
    exact ⟨rfl, FS.up F.out (Nat.le_refl _)⟩
  | false =>
  cases hlg2 : longF l2 with
  | true =>
    go_wp2_with (first | (go_at_call 14; (with_reducible refine (awake_calls _).mono ?_); rintro e w1 ⟨rfl, hb1⟩; have HKa_n := Aside0.mk (HKa.out.below hb1); have F_n := Aside0.mk (F.out.below hb1); clear HKa F; have HKa := HKa_n; have F := F_n; clear HKa_n F_n; clear hb1) | (go_at_call 15; (with_reducible refine (long_calls _ _ l _ (Kd.C_below HR.out (FS.up F.out (Nat.le_refl _)))).mono ?_); rintro e w1 ⟨rfl, hb1⟩; have HKa_n := Aside0.mk (HKa.out.below hb1); have F_n := Aside0.mk (F.out.below hb1); clear HKa F; have HKa := HKa_n; have F := F_n; clear HKa_n F_n; clear hb1) | (go_at_call 15; (with_reducible refine (long_calls _ _ l2 _ (Kd.C_below HR2.out (FS.up F.out (Nat.le_refl _)))).mono ?_); rintro e w1 ⟨rfl, hb1⟩; have HKa_n := Aside0.mk (HKa.out.below hb1); have F_n := Aside0.mk (F.out.below hb1); clear HKa F; have HKa := HKa_n; have F := F_n; clear HKa_n F_n; clear hb1))
    go_ret
    exact ⟨rfl, FS.up F.out (Nat.le_refl _)⟩
  | false =>
  by_cases hps : (200 : Int) < (ps.length : Int)
  · go_wp2_with (first | (go_at_call 14; (with_reducible refine (awake_calls _).mono ?_); rintro e w1 ⟨rfl, hb1⟩; have HKa_n := Aside0.mk (HKa.out.below hb1); have F_n := Aside0.mk (F.out.below hb1); clear HKa F; have HKa := HKa_n; have F := F_n; clear HKa_n F_n; clear hb1) | (go_at_call 15; (with_reducible refine (long_calls _ _ l _ (Kd.C_below HR.out (FS.up F.out (Nat.le_refl _)))).mono ?_); rintro e w1 ⟨rfl, hb1⟩; have HKa_n := Aside0.mk (HKa.out.below hb1); have F_n := Aside0.mk (F.out.below hb1); clear HKa F; have HKa := HKa_n; have F := F_n; clear HKa_n F_n; clear hb1) | (go_at_call 15; (with_reducible refine (long_calls _ _ l2 _ (Kd.C_below HR2.out (FS.up F.out (Nat.le_refl _)))).mono ?_); rintro e w1 ⟨rfl, hb1⟩; have HKa_n := Aside0.mk (HKa.out.below hb1); have F_n := Aside0.mk (F.out.below hb1); clear HKa F; have HKa := HKa_n; have F := F_n; clear HKa_n F_n; clear hb1))
    go_ret
    exact ⟨rfl, FS.up F.out (Nat.le_refl _)⟩
  · have h300 := Aside0.mk (show l.length ≤ 300 ∧ l2.length ≤ 300 from by
      have := hlg
      have := hlg2
      unfold longF at *
      simp only [Bool.or_eq_false_iff, decide_eq_false_iff_not] at *
      omega)
    go_upto_region 5 with (first | (go_at_call 14; (with_reducible refine (awake_calls _).mono ?_); rintro e w1 ⟨rfl, hb1⟩; have HKa_n := Aside0.mk (HKa.out.below hb1); have F_n := Aside0.mk (F.out.below hb1); clear HKa F; have HKa := HKa_n; have F := F_n; clear HKa_n F_n; clear hb1) | (go_at_call 15; (with_reducible refine (long_calls _ _ l _ (Kd.C_below HR.out (FS.up F.out (Nat.le_refl _)))).mono ?_); rintro e w1 ⟨rfl, hb1⟩; have HKa_n := Aside0.mk (HKa.out.below hb1); have F_n := Aside0.mk (F.out.below hb1); clear HKa F; have HKa := HKa_n; have F := F_n; clear HKa_n F_n; clear hb1) | (go_at_call 15; (with_reducible refine (long_calls _ _ l2 _ (Kd.C_below HR2.out (FS.up F.out (Nat.le_refl _)))).mono ?_); rintro e w1 ⟨rfl, hb1⟩; have HKa_n := Aside0.mk (HKa.out.below hb1); have F_n := Aside0.mk (F.out.below hb1); clear HKa F; have HKa := HKa_n; have F := F_n; clear HKa_n F_n; clear hb1))
    clear hlg hlg2 hps
    go_loopw [53] (fun v wr => ∃ (k : Nat) (d : DS) (cl : Nat → Nat), v = .int .i64 k ∧ Aside0 (k ≤ l.length) ∧ Aside0 (DK wr (Col cl 1) ga d) ∧ Aside0 (Olds cl w.heap.size) ∧ Aside0 (FS (fun x => w.heap.size ≤ x) w wr) ∧ Aside0 (OkN k d) ∧ Aside0 (Live 8 d)) (fun v _ => l.length - (intOf v).toNat)
    case atStart => exact ⟨0, newD 8, cl, rfl, ⟨by omega⟩, HKa, C, F, ⟨ok_new 8 (by decide)⟩, ⟨live_new 8⟩⟩
    case round =>
      clear HKa F C
      obtain ⟨k, d, cl, rfl, K, HKa, C, F, HOa, HL⟩ := hrel
      by_cases hlt : k < l.length
      · have h1 : (k : Int) < (l.length : Int) := by omega
        have hwk : wrap64 ((k : Int) + 1) = ((k + 1 : Nat) : Int) := by unfold wrap64; omega
        have HLT := Aside0.mk hlt
        obtain ⟨ad, A4, c4, rfl, q0, q1, q2, q3, q4, hl4, hC4⟩ := at_T31 (Kd.C_below HR.out (FS.up F.out (Nat.le_refl _))) (k : Int) (by omega) h1
        rw [Int.toNat_natCast] at q0 q1 q2 q3 q4
        have HOP := Aside0.mk (HOPS.out _ (rd_mem hlt))
        clear hl4 hC4
        generalize rd_T31 l (k : Nat) = o_ at *
        go_upto_region 7 with (fail)
        have hta := heap_alloc_new wr (.cells #[.int .i64 o_.f0, .int .i64 o_.f1, .int .i64 o_.f2, .int .u8 o_.f3, .slice A4 o_.f4.length c4] 31)
        have HKa_n := Aside0.mk (HKa.out.below ((Below.refl wr.heap.size wr).alloc (Nat.le_refl _) (.cells #[.int .i64 o_.f0, .int .i64 o_.f1, .int .i64 o_.f2, .int .u8 o_.f3, .slice A4 o_.f4.length c4] 31)))
        have F_n := Aside0.mk (F.out.alloc (.cells #[.int .i64 o_.f0, .int .i64 o_.f1, .int .i64 o_.f2, .int .u8 o_.f3, .slice A4 o_.f4.length c4] 31))
        clear F q0 q1 q2 q3 q4 HKa
        generalize wr.alloc (.cells #[.int .i64 o_.f0, .int .i64 o_.f1, .int .i64 o_.f2, .int .u8 o_.f3, .slice A4 o_.f4.length c4] 31) = W at *
        generalize wr.heap.size = ob at *
        have HTA := Aside0.mk hta; have F := F_n; have HKa := HKa_n
        clear hta F_n HKa_n
        have q1 : W.drew.cell? ⟨ob, 1, none⟩ = some (.int .i64 o_.f1) := blk_cell (w := W.drew) HTA.out 1
        have q3 : W.drew.cell? ⟨ob, 3, none⟩ = some (.int .u8 o_.f3) := blk_cell (w := W.drew) HTA.out 3
        have HKa2 := Aside0.mk HKa.out.drew; have F2 := Aside0.mk F.out.drew
        clear HKa F
        refine start_ (n := 10) (S := fun w' => w'.cell? ⟨ob, 1, none⟩ = some (.int .i64 o_.f1) ∧ w'.cell? ⟨ob, 3, none⟩ = some (.int .u8 o_.f3)) (ds := [9]) #[false, false, false, false, false, false, false, false, false, false] (by kernel_rfl) rfl rfl ⟨q1, q3⟩ (fun hHeld => ?_)
        refine pure_ (i := 0) (N := some 57) (v := ?_) (a' := ?_) #[true, false, false, false, false, false, false, false, false, false] rfl rfl (by kernel_rfl) (fun _ _ _ h => h) (Or.inl ⟨by kernel_rfl, ?_⟩) ?_ ?_
        rotate_left
        · intro w'
          go_simp
          with_reducible rfl
        rotate_left
        · simp only [Act.put, List.setIfInBounds_toArray, List.set_cons_zero, List.set_cons_succ, i64_w, i32_w]
          rfl
        refine pure_ (i := 1) (N := some 58) (v := ?_) (a' := ?_) #[true, true, false, false, false, false, false, false, false, false] rfl rfl (by kernel_rfl) (fun _ _ _ h => h) (Or.inl ⟨by kernel_rfl, ?_⟩) ?_ ?_
        rotate_left
        · intro w'
          go_simp
          with_reducible rfl
        rotate_left
        · simp only [Act.put, List.setIfInBounds_toArray, List.set_cons_zero, List.set_cons_succ, i64_w, i32_w]
          rfl
        refine pure_ (i := 6) (N := some 63) (v := ?_) (a' := ?_) #[true, true, false, false, false, false, true, false, false, false] rfl rfl (by kernel_rfl) (fun _ _ _ h => h) (Or.inl ⟨by kernel_rfl, ?_⟩) ?_ ?_
        rotate_left
        · intro w'
          go_simp
          with_reducible rfl
        rotate_left
        · simp only [Act.put, List.setIfInBounds_toArray, List.set_cons_zero, List.set_cons_succ, i64_w, i32_w]
          rfl
        refine take_ (i := 2) (N := some 59) (v := ?_) (a' := ?_) #[true, true, true, false, false, false, true, false, false, false] rfl rfl (by kernel_rfl) (fun _ _ _ h => h) (Or.inl ⟨by kernel_rfl, ?_⟩) hHeld ?_ ?_
        rotate_left
        · rintro w' ⟨s0_, s1_⟩
          go_simp
          with_reducible rfl
        rotate_left
        · simp only [Act.put, List.setIfInBounds_toArray, List.set_cons_zero, List.set_cons_succ, i64_w, i32_w]
          rfl
        refine pure_ (i := 3) (N := some 60) (v := ?_) (a' := ?_) #[true, true, true, true, false, false, true, false, false, false] rfl rfl (by kernel_rfl) (fun _ _ _ h => h) (Or.inl ⟨by kernel_rfl, ?_⟩) ?_ ?_
        rotate_left
        · intro w'
          go_simp
          with_reducible rfl
        rotate_left
        · simp only [Act.put, List.setIfInBounds_toArray, List.set_cons_zero, List.set_cons_succ, i64_w, i32_w]
          rfl
        refine pure_ (i := 4) (N := some 61) (v := ?_) (a' := ?_) #[true, true, true, true, true, false, true, false, false, false] rfl rfl (by kernel_rfl) (fun _ _ _ h => h) (Or.inl ⟨by kernel_rfl, ?_⟩) ?_ ?_
        rotate_left
        · intro w'
          go_simp
          with_reducible rfl
        rotate_left
        · simp only [Act.put, List.setIfInBounds_toArray, List.set_cons_zero, List.set_cons_succ, i64_w, i32_w]
          rfl
        refine pure_ (i := 5) (N := some 62) (v := ?_) (a' := ?_) #[true, true, true, true, true, true, true, false, false, false] rfl rfl (by kernel_rfl) (fun _ _ _ h => h) (Or.inl ⟨by kernel_rfl, ?_⟩) ?_ ?_
        rotate_left
        · intro w'
          go_simp
          with_reducible rfl
        rotate_left
        · simp only [Act.put, List.setIfInBounds_toArray, List.set_cons_zero, List.set_cons_succ, i64_w, i32_w]
          rfl
        refine take_ (i := 7) (N := some 64) (v := ?_) (a' := ?_) #[true, true, true, true, true, true, true, true, false, false] rfl rfl (by kernel_rfl) (fun _ _ _ h => h) (Or.inl ⟨by kernel_rfl, ?_⟩) hHeld ?_ ?_
        rotate_left
        · rintro w' ⟨s0_, s1_⟩
          go_simp
          with_reducible rfl
        rotate_left
        · simp only [Act.put, List.setIfInBounds_toArray, List.set_cons_zero, List.set_cons_succ, i64_w, i32_w]
          rfl
        refine one_ (i := 8) (N := some 65) #[true, true, true, true, true, true, true, true, true, false] rfl rfl (by kernel_rfl) (by decide) (fun K hK => ?_)
        refine goes_ Try.func17 (by kernel_rfl) rfl #[.int .u8 o_.f3] (by rfl) rfl rfl (by (try simp only [List.map_toArray, List.map_cons, List.map_nil]); first | done | rfl) ?_
        refine (full_int _ HOP.out.2.2.2.1.1 HOP.out.2.2.2.1.2 _).mono ?_
        rintro e v1_ ⟨rfl, hb1⟩
        refine ⟨_, rfl, ?_⟩
        have HKa3 := Aside0.mk (HKa2.out.below hb1)
        have F3 := Aside0.mk (F2.out.below hb1)
        refine hK _ _ ⟨pw_cell_below hb1 hHeld.1, pw_cell_below hb1 hHeld.2⟩ (fun hHeld => ?_)
        clear hK K hb1 F2 HKa2
        refine norm_ (a' := ?_) ?_ ?_
        rotate_left
        · show Act.put _ (some 65) _ = _
          simp only [Act.put, List.setIfInBounds_toArray, List.set_cons_zero, List.set_cons_succ, i64_w, i32_w]
          rfl
        refine last_ (i := 9) (N := some 66) #[true, true, true, true, true, true, true, true, true, true] rfl rfl (by kernel_rfl) (by decide) (fun K hK => ?_)
        refine goes_ Try.func16 (by kernel_rfl) rfl #[.pointer (some ⟨ga, 0, none⟩), .int .i64 (wrap64 ((IntKind.u64.wrap o_.f1).tmod 8)), .string (fullI o_.f3)] (by rfl) rfl rfl (by (try simp only [List.map_toArray, List.map_cons, List.map_nil]); first | done | rfl) ?_
        refine (write_calls _ _ _ _ _ _ (top_paint _ _ 1) (HKa3.out.paint 1) HOa.out.ok).mono ?_
        rintro e v2_ ⟨rfl, hk1, hf1⟩
        refine ⟨_, rfl, ?_⟩
        have HKa := Aside0.mk hk1; have F := Aside0.mk (F3.out.trans (FS.base hf1 C.out (by decide)))
        skip
        have C_n := Aside0.mk (C.out.paint 1 F3.out.size); clear C; have C := C_n; clear C_n
        refine hK _ _ ?_
        clear hK K hk1 hf1 F3 HKa3
        refine norm_ (a' := ?_) ?_ ?_
        rotate_left
        · show Act.put _ (some 66) _ = _
          simp only [Act.put, List.setIfInBounds_toArray, List.set_cons_zero, List.set_cons_succ, i64_w, i32_w]
          rfl
        refine done_ (by kernel_rfl) ?_
        simp only [Exit.inBlock, Exit.then]
        go_wp2
        (try simp only [hwk])
        go_roundw
        case rel => exact ⟨k + 1, _, _, by first | rfl | go_num, ⟨by have := HLT.out; omega⟩, HKa, C, F, ⟨ok_write HOa.out (by have := HLT.out; have := h300.out; omega)⟩, ⟨live_write _ _ HL.out⟩⟩
        case measure =>
          have := HLT.out
          show l.length - (intOf (.int .i64 ((k + 1 : Nat) : Int))).toNat < l.length - (intOf (.int .i64 (k : Int))).toNat
          simp only [intOf]; omega
      · obtain rfl : k = l.length := by have := K.out; omega
        clear hlt
        have HO2 := Aside0.mk (HOa.out.mono (n' := 1000) (by have := h300.out; omega)); clear HOa; have HOa := HO2; clear HO2
        go_upto_region 10 with (go_at_call 18; (with_reducible refine (sync_calls _ _ _ _ (top_paint _ _ 1) (HKa.out.paint 1) HOa.out.ok).mono ?_); rintro e w1 ⟨rfl, hk1, hf1⟩; have HKa_n := Aside0.mk (hk1); have F_n := Aside0.mk (F.out.trans (FS.base hf1 C.out (by decide))); have C_n := Aside0.mk (C.out.paint 1 F.out.size); have HOa_n := Aside0.mk (okOf hk1 (ok_sync HOa.out)); clear HKa F C HOa; have HKa := HKa_n; have F := F_n; have C := C_n; have HOa := HOa_n; clear HKa_n F_n C_n HOa_n; clear hk1 hf1)
        have hls := live_sync HL.out
        have hrw : (syncD d).row = [] := by rw [live_syncD HL.out]; rfl
        clear HL
        generalize syncD d = d1 at *
        have HL := Aside0.mk hls; have HRW := Aside0.mk hrw
        clear hls hrw
        generalize Dk.paint cl wr.heap.size 1 = cl at *
        go_upto_region 12 with (fail)
        have hB1 := (Below.refl w1.heap.size w1).alloc (Nat.le_refl _) (.cells #[.string ⟨#[]⟩, .string ⟨#[]⟩, .string ⟨#[]⟩, .string ⟨#[]⟩, .string ⟨#[]⟩, .string ⟨#[]⟩, .string ⟨#[]⟩, .string ⟨#[]⟩] 36)
        have hB2 := Arr.below_trans hB1 ((Below.refl (w1.alloc (.cells #[.string ⟨#[]⟩, .string ⟨#[]⟩, .string ⟨#[]⟩, .string ⟨#[]⟩, .string ⟨#[]⟩, .string ⟨#[]⟩, .string ⟨#[]⟩, .string ⟨#[]⟩] 36)).heap.size (w1.alloc (.cells #[.string ⟨#[]⟩, .string ⟨#[]⟩, .string ⟨#[]⟩, .string ⟨#[]⟩, .string ⟨#[]⟩, .string ⟨#[]⟩, .string ⟨#[]⟩, .string ⟨#[]⟩] 36))).alloc (Nat.le_refl _) (.cells #[.slice none 0 0, .slice none 0 0, .slice none 0 0, .slice none 0 0, .slice none 0 0, .slice none 0 0, .slice none 0 0, .slice none 0 0] 38))
        have hw0 : ((w1.alloc (.cells #[.string ⟨#[]⟩, .string ⟨#[]⟩, .string ⟨#[]⟩, .string ⟨#[]⟩, .string ⟨#[]⟩, .string ⟨#[]⟩, .string ⟨#[]⟩, .string ⟨#[]⟩] 36)).alloc (.cells #[.slice none 0 0, .slice none 0 0, .slice none 0 0, .slice none 0 0, .slice none 0 0, .slice none 0 0, .slice none 0 0, .slice none 0 0] 38)).heap[w1.heap.size]? = some (.cells (arrN 8 (wasV d1 0)) 36 (0, 0)) := blk_below (heap_alloc_new w1 (.cells #[.string ⟨#[]⟩, .string ⟨#[]⟩, .string ⟨#[]⟩, .string ⟨#[]⟩, .string ⟨#[]⟩, .string ⟨#[]⟩, .string ⟨#[]⟩, .string ⟨#[]⟩] 36)) ((Below.refl (w1.alloc (.cells #[.string ⟨#[]⟩, .string ⟨#[]⟩, .string ⟨#[]⟩, .string ⟨#[]⟩, .string ⟨#[]⟩, .string ⟨#[]⟩, .string ⟨#[]⟩, .string ⟨#[]⟩] 36)).heap.size (w1.alloc (.cells #[.string ⟨#[]⟩, .string ⟨#[]⟩, .string ⟨#[]⟩, .string ⟨#[]⟩, .string ⟨#[]⟩, .string ⟨#[]⟩, .string ⟨#[]⟩, .string ⟨#[]⟩] 36))).alloc (Nat.le_refl _) (.cells #[.slice none 0 0, .slice none 0 0, .slice none 0 0, .slice none 0 0, .slice none 0 0, .slice none 0 0, .slice none 0 0, .slice none 0 0] 38))
        have hm0 : ((w1.alloc (.cells #[.string ⟨#[]⟩, .string ⟨#[]⟩, .string ⟨#[]⟩, .string ⟨#[]⟩, .string ⟨#[]⟩, .string ⟨#[]⟩, .string ⟨#[]⟩, .string ⟨#[]⟩] 36)).alloc (.cells #[.slice none 0 0, .slice none 0 0, .slice none 0 0, .slice none 0 0, .slice none 0 0, .slice none 0 0, .slice none 0 0, .slice none 0 0] 38)).heap[w1.heap.size + 1]? = some (.cells (arrN 8 (fun _ => .slice none 0 0)) 38 (0, 0)) := by
          have := heap_alloc_new (w1.alloc (.cells #[.string ⟨#[]⟩, .string ⟨#[]⟩, .string ⟨#[]⟩, .string ⟨#[]⟩, .string ⟨#[]⟩, .string ⟨#[]⟩, .string ⟨#[]⟩, .string ⟨#[]⟩] 36)) (.cells #[.slice none 0 0, .slice none 0 0, .slice none 0 0, .slice none 0 0, .slice none 0 0, .slice none 0 0, .slice none 0 0, .slice none 0 0] 38)
          have e : (w1.alloc (.cells #[.string ⟨#[]⟩, .string ⟨#[]⟩, .string ⟨#[]⟩, .string ⟨#[]⟩, .string ⟨#[]⟩, .string ⟨#[]⟩, .string ⟨#[]⟩, .string ⟨#[]⟩] 36)).heap.size = w1.heap.size + 1 := by simp
          rw [e] at this
          exact this
        have HKa_n := Aside0.mk ((HKa.out.paint 2).below hB2); have F_n := Aside0.mk (F.out.below hB2); have C_n := Aside0.mk (C.out.paint 2 F.out.size)
        have HGW := Aside0.mk F.out.size
        clear HKa F C hB1 hB2
        have HKa := HKa_n; have F := F_n; have C := C_n; clear HKa_n F_n C_n
        generalize ((w1.alloc (.cells #[.string ⟨#[]⟩, .string ⟨#[]⟩, .string ⟨#[]⟩, .string ⟨#[]⟩, .string ⟨#[]⟩, .string ⟨#[]⟩, .string ⟨#[]⟩, .string ⟨#[]⟩] 36)).alloc (.cells #[.slice none 0 0, .slice none 0 0, .slice none 0 0, .slice none 0 0, .slice none 0 0, .slice none 0 0, .slice none 0 0, .slice none 0 0] 38)) = W at *
        have HM := Aside0.mk (show Rows8 W (Dk.paint cl w1.heap.size 2) 38 8 (w1.heap.size + 1) (fun _ => .slice none 0 0) (fun _ => []) from ⟨hm0, paint_new (by omega), fun i hi => Ow.nil _ _ _ _⟩)
        have HW := Aside0.mk (show W.heap[w1.heap.size]? = some (.cells (arrN 8 (wasV d1 0)) 36 (0, 0)) ∧ Dk.paint cl w1.heap.size 2 w1.heap.size = 2 from ⟨hw0, paint_new (Nat.le_refl _)⟩)
        clear hm0 hw0
        have HWM := Aside0.mk (show w1.heap.size ≠ w1.heap.size + 1 by omega)
        generalize hmb : w1.heap.size + 1 = mb at *
        generalize Dk.paint cl w1.heap.size 2 = cl at *
        generalize hwb : w1.heap.size = wb at *
        have HGM := Aside0.mk (show w.heap.size ≤ mb by have := HGW.out; omega)
        clear hmb hwb
        go_upto_region 13 with (fail)
        go_loopw [70] (fun v wr => ∃ (k : Nat), v = .int .i64 k ∧ Aside0 (k ≤ 8) ∧ Aside0 (DK wr (Col cl 1) ga d1) ∧ Aside0 (wr.heap[wb]? = some (.cells (arrN 8 (wasV d1 k)) 36 (0, 0)) ∧ cl wb = 2) ∧ Aside0 (Rows8 wr cl 38 8 mb (fun _ => .slice none 0 0) (fun _ => [])) ∧ Aside0 (FS (fun x => w.heap.size ≤ x) w wr)) (fun v _ => 8 - (intOf v).toNat)
        case atStart => exact ⟨0, rfl, ⟨by omega⟩, HKa, HW, HM, F⟩
        case round =>
          clear HKa HW HM F
          obtain ⟨k, rfl, K, HKa, HW, HM, F⟩ := hrel
          by_cases hlt : k < 8
          · have h1 : (k : Int) < 8 := by omega
            have hwk : wrap64 ((k : Int) + 1) = ((k + 1 : Nat) : Int) := by unfold wrap64; omega
            have HLT := Aside0.mk hlt
            clear hlt
            go_wp2_with ((go_at_call 19; (with_reducible refine (read_calls _ _ _ _ _ HKa.out HOa.out.ok).mono ?_); rintro e w1 ⟨rfl, hb1⟩; have HKa_n := Aside0.mk (HKa.out.below hb1); have F_n := Aside0.mk (F.out.below hb1); have HW_n := Aside0.mk (And.intro (blk_below HW.out.1 hb1) HW.out.2); have HM_n := Aside0.mk (HM.out.below hb1); clear HKa F HW HM; have HKa := HKa_n; have F := F_n; have HW := HW_n; have HM := HM_n; clear HKa_n F_n HW_n HM_n; clear hb1; have cz : w1.cell? ⟨wb, k, none⟩ = some (wasV d1 k k) := (blk_cell HW.out.1 k).trans (arrN_get HLT.out); have fz : w1.frozen? ⟨wb, k, none⟩ = false := blk_frozen HW.out.1 k))
            go_roundw
            case rel =>
              refine ⟨k + 1, by first | rw [hwk] | go_num, ⟨by have := HLT.out; omega⟩, ⟨HKa.out.stored HW.out.2 (by decide) k _⟩, ⟨?_, HW.out.2⟩, ⟨HM.out.stored HW.out.2 HWM.out k _⟩, ⟨F.out.setCell (p := ⟨wb, k, none⟩) (.inl HGW.out) _⟩⟩
              rw [← was_step]
              exact set_arr HW.out.1 k _
            case measure =>
              try rw [hwk]
              have := HLT.out
              simp [intOf]; omega
          · obtain rfl : k = 8 := by have := K.out; omega
            clear hlt
            go_upto_region 18 with (fail)
            go_loopw [84] (fun v wr => ∃ (k : Nat) (d : DS) (cl : Nat → Nat) (vs : Nat → Value) (xs : Nat → List ByteArray), v = .int .i64 k ∧ Aside0 (k ≤ l2.length) ∧ Aside0 (DK wr (Col cl 1) ga d) ∧ Aside0 (wr.heap[wb]? = some (.cells (arrN 8 (wasV d1 8)) 36 (0, 0)) ∧ cl wb = 2) ∧ Aside0 (Rows8 wr cl 38 8 mb vs xs) ∧ Aside0 (Olds cl w.heap.size) ∧ Aside0 (FS (fun x => w.heap.size ≤ x) w wr) ∧ Aside0 (OkN (1000 + k) d) ∧ Aside0 (Live 8 d) ∧ Aside0 (d.safe = d1.safe) ∧ Aside0 (∀ i, (xs i).length ≤ 2 * k) ∧ Aside0 (∀ q ∈ d.row, 0 ≤ q.1 ∧ q.2 ∈ xs q.1.toNat ∧ noughts 128 ∈ xs q.1.toNat)) (fun v _ => l2.length - (intOf v).toNat)
            case atStart => exact ⟨0, d1, cl, _, _, rfl, ⟨by omega⟩, HKa, HW, HM, C, F, HOa, HL, ⟨rfl⟩, ⟨fun i => Nat.le_refl _⟩, ⟨fun q hq => by rw [HRW.out] at hq; cases hq⟩⟩
            case round =>
              have HL0 := HL
              clear HKa HW HM F C HOa HL
              obtain ⟨k, d, cl, vs, xs, rfl, K, HKa, HW, HM, C, F, HOa, HL, HSF, HXL, HXS⟩ := hrel
              by_cases hlt : k < l2.length
              · have h1 : (k : Int) < (l2.length : Int) := by omega
                have hwk : wrap64 ((k : Int) + 1) = ((k + 1 : Nat) : Int) := by unfold wrap64; omega
                have HLT := Aside0.mk hlt
                obtain ⟨ad, A4, c4, rfl, q0, q1, q2, q3, q4, hl4, hC4⟩ := at_T31 (Kd.C_below HR2.out (FS.up F.out (Nat.le_refl _))) (k : Int) (by omega) h1
                rw [Int.toNat_natCast] at q0 q1 q2 q3 q4
                have HOP := Aside0.mk (HOPS2.out _ (rd_mem hlt))
                clear hl4 hC4
                generalize rd_T31 l2 (k : Nat) = o_ at *
                go_upto_region 20 with (fail)
                have HTA := Aside0.mk (And.intro (heap_alloc_new wr (.cells #[.int .i64 o_.f0, .int .i64 o_.f1, .int .i64 o_.f2, .int .u8 o_.f3, .slice A4 o_.f4.length c4] 31)) (paint_new (c := cl) (x := 2) (Nat.le_refl wr.heap.size)))
                have hbb := (Below.refl wr.heap.size wr).alloc (Nat.le_refl _) (.cells #[.int .i64 o_.f0, .int .i64 o_.f1, .int .i64 o_.f2, .int .u8 o_.f3, .slice A4 o_.f4.length c4] 31)
                have HKa_n := Aside0.mk ((HKa.out.paint 2).below hbb); have F_n := Aside0.mk (F.out.below hbb); have C_n := Aside0.mk (C.out.paint 2 F.out.size); have HM_n := Aside0.mk ((HM.out.paint 2).below hbb); have HW_n := Aside0.mk (And.intro (blk_below HW.out.1 hbb) ((paint_old (x := 2) (blk_lt HW.out.1)).trans HW.out.2))
                clear HKa F C HM HW q0 q1 q2 q3 q4 hbb
                have HKa := HKa_n; have F := F_n; have C := C_n; have HM := HM_n; have HW := HW_n
                clear HKa_n F_n C_n HM_n HW_n
                generalize wr.alloc (.cells #[.int .i64 o_.f0, .int .i64 o_.f1, .int .i64 o_.f2, .int .u8 o_.f3, .slice A4 o_.f4.length c4] 31) = W at *
                generalize Dk.paint cl wr.heap.size 2 = cl at *
                generalize wr.heap.size = ob at *
                have q1 : W.cell? ⟨ob, 1, none⟩ = some (.int .i64 o_.f1) := blk_cell HTA.out.1 1
                have q3 : W.cell? ⟨ob, 3, none⟩ = some (.int .u8 o_.f3) := blk_cell HTA.out.1 3
                go_upto_region 21 with (fail)
                have hii := mod_ok 8 o_.f1 (by decide) (by decide)
                generalize wrap64 ((IntKind.u64.wrap o_.f1).tmod 8) = i' at *
                obtain ⟨ii, rfl⟩ : ∃ ii : Nat, i' = (ii : Int) := ⟨i'.toNat, by omega⟩
                have hi8 : (ii : Int) < 8 := hii.2
                have HI := Aside0.mk (show ii < 8 by omega)
                clear hii
                go_upto_region 22 with (first | (go_at_call 17; ((with_reducible refine (full_int _ (okop0 HOP.out) (okop1 HOP.out) _).mono ?_); rintro e w1 ⟨rfl, hb1⟩; have HKa_n := Aside0.mk (HKa.out.below hb1); have F_n := Aside0.mk (F.out.below hb1); have HW_n := Aside0.mk (And.intro (blk_below HW.out.1 hb1) HW.out.2); have HM_n := Aside0.mk (HM.out.below hb1); have HTA_n := Aside0.mk (And.intro (blk_below HTA.out.1 hb1) HTA.out.2); clear HKa F HW HM HTA; have HKa := HKa_n; have F := F_n; have HW := HW_n; have HM := HM_n; have HTA := HTA_n; clear HKa_n F_n HW_n HM_n HTA_n; clear hb1)) | (go_at_call 16; (with_reducible refine (write_calls _ _ _ _ _ _ (top_paint _ _ 1) (HKa.out.paint 1) HOa.out.ok).mono ?_); rintro e w1 ⟨rfl, hk1, hf1⟩; have HKa_n := Aside0.mk (hk1); have F_n := Aside0.mk (F.out.trans (FS.base hf1 C.out (by decide))); have C_n := Aside0.mk (C.out.paint 1 F.out.size); have HOa_n := Aside0.mk (okOf hk1 (ok_write HOa.out (by show 1000 + k < 1000000; have := HLT.out; have := h300.out; omega))); have HW_n := Aside0.mk (blk_apart HW.out.1 HW.out.2 hf1 (by decide)); have HM_n := Aside0.mk (HM.out.apart hf1 (by decide)); have HTA_n := Aside0.mk (blk_apart HTA.out.1 HTA.out.2 hf1 (by decide)); clear HKa F C HOa HW HM HTA; have HKa := HKa_n; have F := F_n; have C := C_n; have HOa := HOa_n; have HW := HW_n; have HM := HM_n; have HTA := HTA_n; clear HKa_n F_n C_n HOa_n HW_n HM_n HTA_n; clear hk1 hf1))
                obtain ⟨Av, cv, hvs, -⟩ := (HM.out.row ii HI.out).shape
                have z0 : w1.drew.cell? ⟨mb, ii, none⟩ = some (.slice Av (xs ii).length cv) := by rw [← hvs]; exact (blk_cell (w := w1.drew) HM.out.blk ii).trans (arrN_get HI.out)
                have z3 : w1.drew.cell? ⟨ob, 3, none⟩ = some (.int .u8 o_.f3) := blk_cell (w := w1.drew) HTA.out.1 3
                have hbb := (Below.refl w1.heap.size w1).drew
                have HKa2 := Aside0.mk (HKa.out.below hbb); have F2 := Aside0.mk (F.out.below hbb); have HM2 := Aside0.mk (HM.out.below hbb); have HW2 := Aside0.mk (And.intro (blk_below HW.out.1 hbb) HW.out.2)
                have HVS := Aside0.mk hvs
                clear HKa F HM HW HTA hbb hvs
                refine start_ (n := 12) (S := fun w' => w'.cell? ⟨mb, ii, none⟩ = some (.slice Av (xs ii).length cv) ∧ w'.cell? ⟨ob, 3, none⟩ = some (.int .u8 o_.f3)) (ds := [9, 11]) #[false, false, false, false, false, false, false, false, false, false, false, false] (by kernel_rfl) rfl rfl ⟨z0, z3⟩ (fun hHeld => ?_)
                refine pure_ (i := 0) (N := some 99) (v := ?_) (a' := ?_) #[true, false, false, false, false, false, false, false, false, false, false, false] rfl rfl (by kernel_rfl) (fun _ _ _ h => h) (Or.inl ⟨by kernel_rfl, ?_⟩) ?_ ?_
                rotate_left
                · intro w'
                  go_simp
                  with_reducible rfl
                rotate_left
                · simp only [Act.put, List.setIfInBounds_toArray, List.set_cons_zero, List.set_cons_succ, i64_w, i32_w]
                  rfl
                refine pure_ (i := 1) (N := some 100) (v := ?_) (a' := ?_) #[true, true, false, false, false, false, false, false, false, false, false, false] rfl rfl (by kernel_rfl) (fun _ _ _ h => h) (Or.inl ⟨by kernel_rfl, ?_⟩) ?_ ?_
                rotate_left
                · intro w'
                  go_simp
                  with_reducible rfl
                rotate_left
                · simp only [Act.put, List.setIfInBounds_toArray, List.set_cons_zero, List.set_cons_succ, i64_w, i32_w]
                  rfl
                refine pure_ (i := 2) (N := some 101) (v := ?_) (a' := ?_) #[true, true, true, false, false, false, false, false, false, false, false, false] rfl rfl (by kernel_rfl) (fun _ _ _ h => h) (Or.inl ⟨by kernel_rfl, ?_⟩) ?_ ?_
                rotate_left
                · intro w'
                  go_simp
                  with_reducible rfl
                rotate_left
                · simp only [Act.put, List.setIfInBounds_toArray, List.set_cons_zero, List.set_cons_succ, i64_w, i32_w]
                  rfl
                refine pure_ (i := 4) (N := some 103) (v := ?_) (a' := ?_) #[true, true, true, false, true, false, false, false, false, false, false, false] rfl rfl (by kernel_rfl) (fun _ _ _ h => h) (Or.inl ⟨by kernel_rfl, ?_⟩) ?_ ?_
                rotate_left
                · intro w'
                  go_simp
                  with_reducible rfl
                rotate_left
                · simp only [Act.put, List.setIfInBounds_toArray, List.set_cons_zero, List.set_cons_succ, i64_w, i32_w]
                  rfl
                refine take_ (i := 3) (N := some 102) (v := ?_) (a' := ?_) #[true, true, true, true, true, false, false, false, false, false, false, false] rfl rfl (by kernel_rfl) (fun _ _ _ h => h) (Or.inl ⟨by kernel_rfl, ?_⟩) hHeld ?_ ?_
                rotate_left
                · rintro w' ⟨s0_, s1_⟩
                  go_simp
                  with_reducible rfl
                rotate_left
                · simp only [Act.put, List.setIfInBounds_toArray, List.set_cons_zero, List.set_cons_succ, i64_w, i32_w]
                  rfl
                refine take_ (i := 5) (N := some 104) (v := ?_) (a' := ?_) #[true, true, true, true, true, true, false, false, false, false, false, false] rfl rfl (by kernel_rfl) (fun _ _ _ h => h) (Or.inl ⟨by kernel_rfl, ?_⟩) hHeld ?_ ?_
                rotate_left
                · rintro w' ⟨s0_, s1_⟩
                  go_simp
                  with_reducible rfl
                rotate_left
                · simp only [Act.put, List.setIfInBounds_toArray, List.set_cons_zero, List.set_cons_succ, i64_w, i32_w]
                  rfl
                refine one_ (i := 6) (N := some 105) #[true, true, true, true, true, true, true, false, false, false, false, false] rfl rfl (by kernel_rfl) (by decide) (fun K hK => ?_)
                refine goes_ Try.func17 (by kernel_rfl) rfl #[.int .u8 o_.f3] (by rfl) rfl rfl (by (try simp only [List.map_toArray, List.map_cons, List.map_nil]); first | done | rfl) ?_
                refine (full_int _ HOP.out.2.2.2.1.1 HOP.out.2.2.2.1.2 _).mono ?_
                rintro e v1_ ⟨rfl, hb1⟩
                refine ⟨_, rfl, ?_⟩
                have HKa3 := Aside0.mk (HKa2.out.below hb1); have F3 := Aside0.mk (F2.out.below hb1); have HM3 := Aside0.mk (HM2.out.below hb1); have HW3 := Aside0.mk (And.intro (blk_below HW2.out.1 hb1) HW2.out.2)
                refine hK _ _ ⟨pw_cell_below hb1 hHeld.1, pw_cell_below hb1 hHeld.2⟩ (fun hHeld => ?_)
                clear hK K hb1 HKa2 F2 HM2 HW2
                refine norm_ (a' := ?_) ?_ ?_
                rotate_left
                · show Act.put _ (some 105) _ = _
                  simp only [Act.put, List.setIfInBounds_toArray, List.set_cons_zero, List.set_cons_succ, i64_w, i32_w]
                  rfl
                refine one_ (i := 7) (N := some 106) #[true, true, true, true, true, true, true, true, false, false, false, false] rfl rfl (by kernel_rfl) (by decide) (fun K hK => ?_)
                refine goes_ Try.func17 (by kernel_rfl) rfl #[.int .u8 0] (by rfl) rfl rfl (by (try simp only [List.map_toArray, List.map_cons, List.map_nil]); first | done | rfl) ?_
                refine (hfz _).mono ?_
                rintro e v2_ ⟨rfl, hb1⟩
                refine ⟨_, rfl, ?_⟩
                have HKa4 := Aside0.mk (HKa3.out.below hb1); have F4 := Aside0.mk (F3.out.below hb1); have HM4 := Aside0.mk (HM3.out.below hb1); have HW4 := Aside0.mk (And.intro (blk_below HW3.out.1 hb1) HW3.out.2)
                refine hK _ _ ⟨pw_cell_below hb1 hHeld.1, pw_cell_below hb1 hHeld.2⟩ (fun hHeld => ?_)
                clear hK K hb1 HKa3 F3 HM3 HW3
                refine norm_ (a' := ?_) ?_ ?_
                rotate_left
                · show Act.put _ (some 106) _ = _
                  simp only [Act.put, List.setIfInBounds_toArray, List.set_cons_zero, List.set_cons_succ, i64_w, i32_w]
                  rfl
                refine one_ (i := 8) (N := some 107) #[true, true, true, true, true, true, true, true, true, false, false, false] rfl rfl (by kernel_rfl) (by decide) (fun K hK => ?_)
                refine value_ (v := .slice (some ⟨v2_.heap.size, 0, none⟩) 2 2) (w1 := v2_.alloc (.cells #[.string (fullI o_.f3), .string (fullI 0)] TS)) (by kernel_rfl) rfl (by first | (go_simp; done) | (go_simp; rfl)) ?_
                have hb1 := (Below.refl v2_.heap.size v2_).alloc (Nat.le_refl _) (.cells #[.string (fullI o_.f3), .string (fullI 0)] TS)
                have HNB := Aside0.mk (heap_alloc_new v2_ (.cells #[.string (fullI o_.f3), .string (fullI 0)] TS))
                obtain ⟨nb, hnb⟩ : ∃ nb, nb = v2_.heap.size := ⟨_, rfl⟩
                obtain ⟨v3_, hV⟩ : ∃ X, X = v2_.alloc (.cells #[.string (fullI o_.f3), .string (fullI 0)] TS) := ⟨_, rfl⟩
                rw [← hV] at hb1 HNB
                rw [← hV, ← hnb]
                rw [← hnb] at HNB
                clear hV
                have HKa5 := Aside0.mk (HKa4.out.below hb1); have F5 := Aside0.mk (F4.out.below hb1); have HM5 := Aside0.mk (HM4.out.below hb1); have HW5 := Aside0.mk (And.intro (blk_below HW4.out.1 hb1) HW4.out.2)
                refine hK _ _ ⟨pw_cell_below hb1 hHeld.1, pw_cell_below hb1 hHeld.2⟩ (fun hHeld => ?_)
                clear hK K hb1 HKa4 F4 HM4 HW4 hnb
                refine norm_ (a' := ?_) ?_ ?_
                rotate_left
                · show Act.put _ (some 107) _ = _
                  simp only [Act.put, List.setIfInBounds_toArray, List.set_cons_zero, List.set_cons_succ, i64_w, i32_w]
                  rfl
                refine last_ (i := 9) (N := some 108) #[true, true, true, true, true, true, true, true, true, true, false, false] rfl rfl (by kernel_rfl) (by decide) (fun K hK => ?_)
                obtain ⟨v_, v4_, hr, hf, ⟨g', n', c', rfl⟩, hmb, hm6⟩ := HM5.out.push ii HI.out (by have := HXL.out ii; have := h300.out; have := HLT.out; omega) (fullI o_.f3) (fullI 0) HNB.out 37
                rw [HVS.out] at hr
                refine ap_ _ _ _ (by kernel_rfl) rfl rfl _ _ rfl rfl hr ?_
                have HKa6 := Aside0.mk (HKa5.out.apart hf (by omega)); have F6 := Aside0.mk (F5.out.trans (FS.base hf C.out (by omega))); have C6 := Aside0.mk (C.out.paint (3 + ii) F5.out.size); have HW6 := Aside0.mk (blk_apart HW5.out.1 HW5.out.2 hf (by omega)); have HB6 := Aside0.mk hmb; have HM6 := Aside0.mk hm6
                refine hK _ _ ?_
                clear hK K hr hf hmb hm6 HKa5 F5 HM5 HW5 C hHeld
                refine norm_ (a' := ?_) ?_ ?_
                rotate_left
                · show Act.put _ (some 108) _ = _
                  simp only [Act.put, List.setIfInBounds_toArray, List.set_cons_zero, List.set_cons_succ, i64_w, i32_w]
                  rfl
                refine pure_ (i := 10) (N := some 109) (v := ?_) (a' := ?_) #[true, true, true, true, true, true, true, true, true, true, true, false] rfl rfl (by kernel_rfl) (fun _ _ _ h => h) (Or.inl ⟨by kernel_rfl, ?_⟩) ?_ ?_
                rotate_left
                · intro w'
                  go_simp
                  with_reducible rfl
                rotate_left
                · simp only [Act.put, List.setIfInBounds_toArray, List.set_cons_zero, List.set_cons_succ, i64_w, i32_w]
                  rfl
                refine last_ (i := 11) (N := none) #[true, true, true, true, true, true, true, true, true, true, true, true] rfl rfl (by kernel_rfl) (by decide) (fun K hK => ?_)
                have cz : v4_.cell? ⟨mb, ii, none⟩ = some (vs ii) := (blk_cell (w := v4_) HB6.out ii).trans (arrN_get HI.out)
                have fz : v4_.frozen? ⟨mb, ii, none⟩ = false := blk_frozen (w := v4_) HB6.out _
                refine skip_ (w1 := ?_) (by kernel_rfl) rfl ?_ ?_
                rotate_left
                · go_simp
                  rfl
                refine hK _ _ ?_
                clear hK K cz fz
                have HKa := Aside0.mk (HKa6.out.stored HM6.out.col (by decide) ii (.slice (some ⟨g', 0, none⟩) n' c')); have F := Aside0.mk (F6.out.setCell (p := ⟨mb, ii, none⟩) (.inl HGM.out) (.slice (some ⟨g', 0, none⟩) n' c')); have HW := Aside0.mk (And.intro (blk_stored HW6.out.1 HWM.out ii (.slice (some ⟨g', 0, none⟩) n' c')) HW6.out.2)
                clear HKa6 F6 HW6 HB6
                refine done_ (by kernel_rfl) ?_
                simp only [Exit.inBlock, Exit.then]
                go_wp2
                (try simp only [hwk])
                go_roundw
                case rel =>
                  have hp := rows_push (s := fullI o_.f3) HL.out HI.out (fullI_size _) HXS.out HXL.out
                  exact ⟨_, _, _, _, _, _, _, _, _, _, _, _, _, _, _, _, _, _, _, _, _, _, _, _, _, _, _, _, _, ⟨k + 1, _, _, _, _, by first | rfl | go_num, ⟨by have := HLT.out; omega⟩, HKa, HW, HM6, C6, F, HOa, ⟨live_write _ _ HL.out⟩, ⟨hp.1.trans HSF.out⟩, ⟨hp.2.1⟩, ⟨hp.2.2⟩⟩, rfl⟩
                case measure =>
                  have := HLT.out
                  show l2.length - (intOf (.int .i64 ((k + 1 : Nat) : Int))).toNat < l2.length - (intOf (.int .i64 (k : Int))).toNat
                  simp only [intOf]; omega
              · obtain rfl : k = l2.length := by have := K.out; omega
                clear hlt
                have hsl := fun i (hi : i < 8) => safe_law (m := ps.length) (p := fun j => (ps.getD j 0).toNat) HL.out HL0.out HRW.out HSF.out xs HXS.out i hi
                have hl4 : Live 8 (crashD ps.length (fun j => (ps.getD j 0).toNat) d) := live_crash HL.out
                have hr4 : (crashD ps.length (fun j => (ps.getD j 0).toNat) d).row = [] := rfl
                have HSL := Aside0.mk hsl; have HL4 := Aside0.mk hl4; have HR4 := Aside0.mk hr4
                clear hsl hl4 hr4
                have HPK : Aside0 (Pk wr (Col (Dk.paint cl wr.heap.size 1) 1) P0 ps.length (fun j => (ps.getD j 0).toNat)) := ⟨pk_in HR3.out HO3.out (FS.up F.out (Nat.le_refl _)) (C.out.paint 1 F.out.size) Nat.one_ne_zero⟩
                have HPB : Aside0 (∀ i, (fun j => (ps.getD j 0).toNat) i < 256) := ⟨pk_lt HO3.out⟩
                go_upto_region 26 with (go_at_call 20; go_loud ((with_reducible refine (crash_calls _ _ _ ps.length _ (fun j => (ps.getD j 0).toNat) _ _ (top_paint _ _ 1) (HKa.out.paint 1) HOa.out.ok HPK.out HPB.out).mono ?_); rintro e w1 ⟨rfl, hk1, hf1⟩; have HKa_n := Aside0.mk (hk1); have F_n := Aside0.mk (F.out.trans (FS.base hf1 C.out (by decide))); have C_n := Aside0.mk (C.out.paint 1 F.out.size); have HOa_n := Aside0.mk (okOf hk1 (ok_crash HOa.out)); have HW_n := Aside0.mk (blk_apart HW.out.1 HW.out.2 hf1 (by decide)); have HM_n := Aside0.mk (HM.out.apart hf1 (by decide)); clear HKa F C HOa HW HM; have HKa := HKa_n; have F := F_n; have C := C_n; have HOa := HOa_n; have HW := HW_n; have HM := HM_n; clear HKa_n F_n C_n HOa_n HW_n HM_n; clear hk1 hf1))
                generalize crashD ps.length (fun j => (ps.getD j 0).toNat) d = d4 at *
                generalize Dk.paint cl wr.heap.size 1 = cl at *
                go_loopw [114] (fun v wr => ∃ (k : Nat), v = .int .i64 k ∧ Aside0 (k ≤ 8) ∧ Aside0 (DK wr (Col cl 1) ga d4) ∧ Aside0 (wr.heap[wb]? = some (.cells (arrN 8 (wasV d1 8)) 36 (0, 0)) ∧ cl wb = 2) ∧ Aside0 (Rows8 wr cl 38 8 mb vs xs) ∧ Aside0 (FS (fun x => w.heap.size ≤ x) w wr)) (fun v _ => 8 - (intOf v).toNat)
                case atStart => exact ⟨0, rfl, ⟨by omega⟩, HKa, HW, HM, F⟩
                case round =>
                  clear HKa HW HM F C
                  obtain ⟨k, rfl, K, HKa, HW, HM, F⟩ := hrel
                  by_cases hlt : k < 8
                  · have h1 : (k : Int) < 8 := by omega
                    have hwk : wrap64 ((k : Int) + 1) = ((k + 1 : Nat) : Int) := by unfold wrap64; omega
                    have HLT := Aside0.mk hlt
                    have ER := live_readE HL4.out (k : Int) (by omega) h1
                    have hwv : wasV d1 8 k = .string (readS d1 (k : Int)) := by unfold wasV; rw [if_pos hlt]
                    have HWV := Aside0.mk hwv
                    obtain ⟨Av, cv, hvs, -⟩ := (HM.out.row k hlt).shape
                    have HVS := Aside0.mk hvs
                    clear hlt hwv hvs
                    go_upto_region 31 with (go_at_call 19; (with_reducible refine (read_calls _ _ _ _ _ HKa.out HOa.out.ok).mono ?_); rintro e w1 ⟨rfl, hb1⟩; have HKa_n := Aside0.mk (HKa.out.below hb1); have F_n := Aside0.mk (F.out.below hb1); have HW_n := Aside0.mk (And.intro (blk_below HW.out.1 hb1) HW.out.2); have HM_n := Aside0.mk (HM.out.below hb1); clear HKa F HW HM; have HKa := HKa_n; have F := F_n; have HW := HW_n; have HM := HM_n; clear HKa_n F_n HW_n HM_n; clear hb1; have cw : w1.cell? ⟨wb, k, none⟩ = some (.string (readS d1 (k : Int))) := HWV.out ▸ (blk_cell HW.out.1 k).trans (arrN_get HLT.out); have cm : w1.cell? ⟨mb, k, none⟩ = some (.slice Av (xs k).length cv) := HVS.out ▸ (blk_cell HM.out.blk k).trans (arrN_get HLT.out))
                    have HS1 := Aside0.mk (HSL.out k HLT.out)
                    generalize readS d4 (k : Int) = s0 at *
                    generalize readS d1 (k : Int) = a0 at *
                    have hn63 : (xs k).length ≤ 700 := by have := HXL.out k; have := h300.out; omega
                    have HN := Aside0.mk hn63; clear hn63
                    go_loopw [20, 132] (fun ov v wr => ∃ (j : Nat), v = .int .i64 j ∧ ov = .bool (okF s0 a0 (xs k) j) ∧ Aside0 (j ≤ (xs k).length) ∧ wr = w1) (fun _ v _ => (xs k).length - (intOf v).toNat)
                    case atStart => exact ⟨0, rfl, by unfold okF; simp, ⟨Nat.zero_le _⟩, rfl⟩
                    case round =>
                      obtain ⟨j, rfl, rfl, J, rfl⟩ := hrel
                      by_cases hj : j < (xs k).length
                      · have h2 : (j : Int) < ((xs k).length : Int) := by omega
                        have hwj : wrap64 ((j : Int) + 1) = ((j + 1 : Nat) : Int) := by have := HN.out; unfold wrap64; omega
                        obtain ⟨gb, cb, cur, hv3, -, hgb, -, -, -, htk⟩ := (HM.out.row k HLT.out).open (Nat.lt_of_le_of_lt (Nat.zero_le j) hj)
                        rw [HVS.out] at hv3
                        injection hv3 with hA1 hA2 hA3
                        subst hA1
                        clear hA2 hA3
                        have hx : wr.cell? ⟨gb, j, none⟩ = some (.string (xs k)[j]) := cell_of hgb htk (by rw [List.getElem?_map, List.getElem?_eq_getElem hj]; rfl)
                        have HJ := Aside0.mk hj
                        have HOK := Aside0.mk (ok_succ s0 a0 (xs k) j hj)
                        clear hgb htk
                        generalize (xs k)[j] = x at *
                        clear hj
                        cases hb : okF s0 a0 (xs k) j with
                        | true =>
                          rw [hb] at HOK
                          clear hb
                          go_wp2
                          go_roundw
                          case rel => exact ⟨j + 1, by first | rw [hwj] | go_num, by rw [HOK.out]; rfl, ⟨HJ.out⟩, by first | rfl | trivial⟩
                          case measure =>
                            try rw [hwj]
                            have := HJ.out
                            simp [intOf]; omega
                        | false =>
                          rw [hb] at HOK
                          clear hb
                          go_wp2
                          go_roundw
                          case rel => exact ⟨j + 1, by first | rw [hwj] | go_num, by rw [HOK.out]; rfl, ⟨HJ.out⟩, by first | rfl | trivial⟩
                          case measure =>
                            try rw [hwj]
                            have := HJ.out
                            simp [intOf]; omega
                      · obtain rfl : j = (xs k).length := by have := J.out; omega
                        clear hj
                        have hok : okF s0 a0 (xs k) (xs k).length = true := ok_all HS1.out
                        rw [hok]
                        clear hok
                        go_wp2
                        go_roundw
                        case rel => exact ⟨k + 1, by first | rw [hwk] | go_num, ⟨by have := HLT.out; omega⟩, HKa, HW, HM, F⟩
                        case measure =>
                          try rw [hwk]
                          have := HLT.out
                          simp [intOf]; omega
                  · obtain rfl : k = 8 := by have := K.out; omega
                    have hwl : (d4.row.length : Int) = 0 := by rw [HR4.out]; rfl
                    have hdg : d4.gone = false := HL4.out.1
                    clear hlt
                    go_wp2_with (first | (go_at_call 21; (with_reducible refine (waiting_calls _ _ _ _ HKa.out).mono ?_); rintro e w1 ⟨rfl, hb1⟩; have HKa_n := Aside0.mk (HKa.out.below hb1); have F_n := Aside0.mk (F.out.below hb1); have HW_n := Aside0.mk (And.intro (blk_below HW.out.1 hb1) HW.out.2); have HM_n := Aside0.mk (HM.out.below hb1); clear HKa F HW HM; have HKa := HKa_n; have F := F_n; have HW := HW_n; have HM := HM_n; clear HKa_n F_n HW_n HM_n; clear hb1) | (go_at_call 22; (with_reducible refine (dead_calls _ _ _ _ HKa.out).mono ?_); rintro e w1 ⟨rfl, hb1⟩; have HKa_n := Aside0.mk (HKa.out.below hb1); have F_n := Aside0.mk (F.out.below hb1); have HW_n := Aside0.mk (And.intro (blk_below HW.out.1 hb1) HW.out.2); have HM_n := Aside0.mk (HM.out.below hb1); clear HKa F HW HM; have HKa := HKa_n; have F := F_n; have HW := HW_n; have HM := HM_n; clear HKa_n F_n HW_n HM_n; clear hb1))
                    go_ret
                    exact ⟨rfl, FS.up F.out (Nat.le_refl _)⟩
open Classical in
noncomputable def careenlaw03_DiskSafe.f (l0 l1 : List S31) (l2 : List Int) : Option Bool := if OkOps l0 ∧ OkOps l1 ∧ (∀ y ∈ l2, 0 ≤ y ∧ y < 256) then some true else none
theorem careenlaw03_DiskSafe.calls (A0 : Option Addr) (c0 : Nat) (l0 : List (S31)) (A1 : Option Addr) (c1 : Nat) (l1 : List (S31)) (A2 : Option Addr) (c2 : Nat) (l2 : List Int) (r : Bool) (w : World) (hr0 : Kd.C k31 w A0 l0.length l0) (hc0 : l0.length ≤ c0) (hr1 : Kd.C k31 w A1 l1.length l1) (hc1 : l1.length ≤ c1) (hr2 : Kd.C (Kd.int .u8) w A2 l2.length l2) (hc2 : l2.length ≤ c2) (h : careenlaw03_DiskSafe.f l0 l1 l2 = some r) :
    Calls Try.prog 3 #[.slice A0 l0.length c0, .slice A1 l1.length c1, .slice A2 l2.length c2] w fun e w' => e = .returned (.bool r) ∧ Below w.heap.size w w' := by
  unfold careenlaw03_DiskSafe.f at h
  by_cases ho : OkOps l0 ∧ OkOps l1 ∧ (∀ y ∈ l2, 0 ≤ y ∧ y < 256)
  · rw [if_pos ho] at h
    obtain rfl := Option.some.inj h
    exact safe_walk A0 c0 l0 A1 c1 l1 A2 c2 l2 w hr0 ho.1 hr1 ho.2.1 hr2 ho.2.2
  · rw [if_neg ho] at h
    cases h
end Go.Proofs.Ytbdfdfahpdilpaa.X3
