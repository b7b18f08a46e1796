import Derived.Test.YtbdfdfahpdilpaaZA
import Derived.Laws.Externs
import Derived.Laws.Cover3
import Derived.Shelf.Abstract
import Derived.Laws.IdiomCopy
/-! Layer 3: Crash. -/
namespace Go.Proofs.Ytbdfdfahpdilpaa.Dk
open Go Go.RowKit Go.ChangeMaps Go.Proofs.Ytbdfdfahpdilpaa.Arr Go.Proofs.Ytbdfdfahpdilpaa.Mp Go.Proofs.Ytbdfdfahpdilpaa.Ow Go.Proofs.YtbdfdfahpdilpaaW.PrintWords Go.Proofs.YtbdfdfahpdilpaaW.PrintLast Go.Proofs.YtbdfdfahpdilpaaW.PrintMore
set_option linter.unusedVariables false
set_option linter.unusedSimpArgs false
def fateN (n : Nat) (p : Nat → Nat) (j : Nat) : Nat := if n = 0 then 0 else p (j % n) % 3
def crashStep (f : Nat) (safe : List ByteArray) (q : Int × ByteArray) : List ByteArray := if f = 1 then safe.set q.1.toNat q.2 else if f = 2 then safe.set q.1.toNat (noughts 128) else safe
def crashT (n : Nat) (p : Nat → Nat) (row : List (Int × ByteArray)) (safe : List ByteArray) : Nat → List ByteArray
  | 0 => safe
  | k + 1 => match row[k]? with
    | some q => crashStep (fateN n p k) (crashT n p row safe k) q
    | none => crashT n p row safe k
def crashD (n : Nat) (p : Nat → Nat) (d : DS) : DS := { safe := crashT n p d.row d.safe d.row.length, row := [], gone := false, fuse := -1 }
theorem step_length (f : Nat) (safe : List ByteArray) (q : Int × ByteArray) : (crashStep f safe q).length = safe.length := by
  unfold crashStep
  split
  · simp
  · split <;> simp
theorem crashT_length (n : Nat) (p : Nat → Nat) (row : List (Int × ByteArray)) (safe : List ByteArray) (k : Nat) : (crashT n p row safe k).length = safe.length := by
  induction k with
  | zero => rfl
  | succ k ih =>
    unfold crashT
    split
    · rw [step_length, ih]
    · exact ih
theorem crashT_succ {n : Nat} {p : Nat → Nat} {row : List (Int × ByteArray)} {safe : List ByteArray} {k : Nat} {q : Int × ByteArray} (h : row[k]? = some q) : crashT n p row safe (k + 1) = crashStep (fateN n p k) (crashT n p row safe k) q := by
  conv => lhs; unfold crashT
  rw [h]
/-- The picks: n numbers, in a block that is none of the disk's. -/
def Pk (w : World) (S : Nat → Prop) (A : Option Addr) (n : Nat) (p : Nat → Nat) : Prop := 0 < n → ∃ ad, A = some ad ∧ (∀ j, j < n → w.cell? (ad.add j) = some (.int .u8 (p j : Int))) ∧ (¬ S ad.block ∨ ∃ cs fr, w.heap[ad.block]? = some (.cells cs TB fr))
theorem add_block (a : Addr) (j : Nat) : (a.add j).block = a.block := by
  unfold Addr.add
  split <;> rfl
theorem Pk.lt {w : World} {n : Nat} {p : Nat → Nat} {ad : Addr} (h0 : 0 < n) (h : ∀ j, j < n → w.cell? (ad.add j) = some (.int .u8 (p j : Int))) : ad.block < w.heap.size := by
  have h1 := h 0 h0
  rcases Nat.lt_or_ge ad.block w.heap.size with h2 | h2
  · exact h2
  · simp only [World.cell?, add_block, Array.getElem?_eq_none h2] at h1
    cases h1
set_option maxHeartbeats 8000000 in
set_option maxRecDepth 20000 in
theorem crash_calls (d : DS) (g : Nat) (A : Option Addr) (n cp : Nat) (p : Nat → Nat) (S : Nat → Prop) (w : World) (hS : Top S w) (h : DK w S g d) (ho : OkD d) (hp : Pk w S A n p) (hb : ∀ i, p i < 256) : Calls Try.prog 20 #[.pointer (some ⟨g, 0, none⟩), .slice A n cp] w fun e w' => e = .returned (.tuple #[]) ∧ DK w' S g (crashD n p d) ∧ FS S w w' := by
  obtain ⟨sv, rv, m, hv⟩ := h
  obtain ⟨A1, c1', rfl, _, _, _⟩ := hv.row.shape
  have HV := Aside0.mk hv; have HO := Aside0.mk ho; have HS := Aside0.mk hS; have HP := Aside0.mk hp; clear hv ho hS hp
  obtain ⟨⟨c0, c1, c2, c3, c4⟩, fr_⟩ := HV.out.cells; have f0 := fr_ 0; have f1 := fr_ 1; have f2 := fr_ 2; have f3 := fr_ 3; have f4 := fr_ 4; clear fr_
  go_enter Try.func20, Try.ntmps20
  go_upto_region 2 with (fail)
  clear c0 c1 c2 c3 c4 f0 f1 f2 f3 f4
  go_loopw [14] (fun i wr => ∃ j : Nat, i = .int .i64 (j : Int) ∧ Aside0 (j ≤ d.row.length) ∧ Aside0 (DV wr S g { d with safe := crashT n p d.row d.safe j } (lastOf d.row) sv (.slice A1 d.row.length c1') m) ∧ Aside0 (FS S w wr) ∧ Aside0 (∀ ad, A = some ad → 0 < n → wr.heap[ad.block]? = w.heap[ad.block]?)) (fun i _ => d.row.length - (intOf i).toNat)
  case atStart => exact ⟨0, rfl, ⟨by omega⟩, HV, ⟨FS.refl _ _⟩, ⟨fun _ _ _ => rfl⟩⟩
  case round =>
    clear HV
    obtain ⟨j, rfl, J, HV, F, HE⟩ := hrel
    have HSW := Aside0.mk (HS.out.next F.out.size)
    by_cases hlt : (j : Int) < (d.row.length : Int)
    · have hj0 : (0 : Int) ≤ (j : Int) := by omega
      have hjl : j < d.row.length := by omega
      have hwj : wrap64 ((j : Int) + 1) = ((j + 1 : Nat) : Int) := by have := HO.out.1; unfold wrap64; omega
      obtain ⟨q, hq⟩ : ∃ q, d.row[j]? = some q := ⟨_, List.getElem?_eq_getElem hjl⟩
      obtain ⟨k, s⟩ := q
      have hrange := HO.out.2.2.2.2 _ (List.mem_of_getElem? hq)
      have hk0 : 0 ≤ k := hrange.1
      have hk1 : k < d.safe.length := hrange.2
      obtain ⟨rb, rc, rcur, hrv, hrS, hrb, _, _, _, hrt⟩ := HV.out.row.open (by simp only; omega)
      injection hrv with hA1 _ _
      subst hA1
      have hw2 := wc_get d.row j k s hq
      have r0 : wr.cell? ⟨rb, j * 2, none⟩ = some (.int .i64 k) := cell_of hrb hrt hw2.1
      have r1 : wr.cell? ⟨rb, j * 2 + 1, none⟩ = some (.string s) := cell_of hrb hrt hw2.2
      have HQ := Aside0.mk hq
      clear hrange hq hrb hrt hw2 hrS
      go_upto_region 4 with (fail)
      have hta := heap_alloc_new wr (.cells #[.int .i64 k, .string s] TW)
      have hv1 := HV.out.below ((Below.refl wr.heap.size wr).alloc (Nat.le_refl _) (.cells #[.int .i64 k, .string s] TW))
      have hf1 := F.out.alloc (.cells #[.int .i64 k, .string s] TW)
      have he1 : ∀ ad, A = some ad → 0 < n → (wr.alloc (.cells #[.int .i64 k, .string s] TW)).heap[ad.block]? = w.heap[ad.block]? := fun ad ha hn => by
        obtain ⟨ad', ha', hcl, _⟩ := HP.out hn
        rw [ha] at ha'
        injection ha' with ha'
        subst ha'
        have hlt := Pk.lt hn hcl
        rw [heap_alloc_old wr _ (Nat.lt_of_lt_of_le hlt F.out.size)]
        exact HE.out ad ha hn
      clear HV F HE r0 r1
      generalize wr.alloc (.cells #[.int .i64 k, .string s] TW) = W at *
      generalize wr.heap.size = tb at *
      have HTA := Aside0.mk hta; have HV := Aside0.mk hv1; have F := Aside0.mk hf1; have HE := Aside0.mk he1
      clear hta hv1 hf1 he1
      obtain ⟨fq, hfq⟩ : ∃ fq, fq = fateN n p j := ⟨_, rfl⟩
      have HS1 := Aside0.mk (crashT_succ (n := n) (p := p) (safe := d.safe) HQ.out)
      have HFQ := Aside0.mk hfq; clear hfq
      have pre : fq = 0 ∨ fq = 1 ∨ fq = 2 := by have := HFQ.out; unfold fateN at this; split at this <;> omega
      by_cases n0 : 0 < n
      · have t0 : decide ((0 : Int) < (n : Int)) = true := decide_eq_true (by omega)
        have t0' : decide (0 < n) = true := decide_eq_true n0
        obtain ⟨ad, rfl, hcl, hap⟩ := HP.out n0
        have hjn : j % n < n := Nat.mod_lt _ n0
        have cp_ : W.cell? (ad.add (j % n)) = some (.int .u8 (p (j % n) : Int)) := by
          rw [← hcl _ hjn]
          exact World.cell?_of_block (w := w) (by rw [add_block]; exact HE.out ad rfl n0)
        have hf3 : p (j % n) % 3 = fq := by have := HFQ.out; unfold fateN at this; rw [if_neg (by omega)] at this; exact this.symm
        have HAP := Aside0.mk hap; have HF3 := Aside0.mk hf3; clear hf3; have HPRE := Aside0.mk pre; have HN0 := Aside0.mk n0
        have hz : ((n : Int) == 0) = false := by simp; omega
        have hmod : (j : Int) % (n : Int) = ((j % n : Nat) : Int) := by simp
        have hmn : (j : Int) % (n : Int) < (n : Int) := by rw [hmod]; omega
        have hm0 : (0 : Int) ≤ (j : Int) % (n : Int) := by rw [hmod]; omega
        have hmt : ((j : Int) % (n : Int)).toNat = j % n := by rw [hmod]; omega
        have hfv : (wrap64 ((p (j % n) : Nat) : Int)).tmod 3 = (fq : Int) := by
          have h1 := hb (j % n)
          rw [show wrap64 ((p (j % n) : Nat) : Int) = ((p (j % n) : Nat) : Int) by unfold wrap64; omega, Int.tmod_eq_emod_of_nonneg (by omega), ← HF3.out]
          simp
        clear hmod
        clear hcl hap pre n0 hjn
        go_upto_region 7 with (fail)
        (try simp only [hfv])
        have hs1 := HS1.out
        rw [← HFQ.out] at hs1
        clear HS1 HFQ HF3 hfv t0 t0' cp_ hz hmn hm0 hmt
        rcases HPRE.out with rfl | rfl | rfl
        · have HS2 := Aside0.mk (show crashT n p d.row d.safe (j + 1) = crashT n p d.row d.safe j from hs1)
          clear hs1
          go_wp2
          simp only [hwj]
          go_roundw
          case measure => simp only [intOf]; omega
          case rel => exact ⟨j + 1, rfl, ⟨by omega⟩, ⟨by rw [HS2.out]; exact HV.out⟩, F, HE⟩
        · have HS2 := Aside0.mk (show crashT n p d.row d.safe (j + 1) = (crashT n p d.row d.safe j).set k.toNat s from hs1)
          clear hs1
          have hl1 := crashT_length n p d.row d.safe j
          obtain ⟨bs, cc, cur, hsv, hSb, hbs, _, _, _, htk⟩ := HV.out.safe.open (by simp only [hl1]; omega)
          simp only [hl1] at hsv
          subst hsv
          obtain ⟨ux, hx⟩ : ∃ u, ((crashT n p d.row d.safe j).map Value.string)[k.toNat]? = some u := ⟨_, List.getElem?_eq_getElem (by simp only [List.length_map, hl1]; omega)⟩
          have HB := Aside0.mk hbs
          have HNE := Aside0.mk (show ad.block ≠ bs from fun e => by
            rcases HAP.out with h | ⟨cs, fr, h⟩
            · exact h (e ▸ hSb)
            · have h2 := (HE.out ad rfl HN0.out).trans h
              exact blk_ne h2 hbs (by decide) e)
          go_upto_region 9 with (fail)
          have q0 : W.drew.cell? ⟨tb, 0, none⟩ = some (.int .i64 k) := blk_cell (w := W.drew) HTA.out 0
          have q1 : W.drew.cell? ⟨tb, 1, none⟩ = some (.string s) := blk_cell (w := W.drew) HTA.out 1
          have z0 : W.drew.cell? ⟨g, 0, none⟩ = some (.slice (some ⟨bs, 0, none⟩) d.safe.length cc) := HV.out.drew.cells.1.1
          have HX := Aside0.mk hx; have HTK := Aside0.mk htk
          clear hbs
          refine start_ (n := 10) (S := fun w' => w'.cell? ⟨g, 0, none⟩ = some (.slice (some ⟨bs, 0, none⟩) d.safe.length cc) ∧ w'.cell? ⟨tb, 0, none⟩ = some (.int .i64 k) ∧ w'.cell? ⟨tb, 1, none⟩ = some (.string s)) (ds := [9]) #[false, false, false, false, false, false, false, false, false, false] (by kernel_rfl) rfl rfl ⟨z0, q0, q1⟩ (fun hHeld => ?_)
          refine pure_ (i := 0) (N := some 34) (v := ?_) (a' := ?_) #[true, false, false, false, false, false, false, false, false, false] rfl rfl (by kernel_rfl) (fun _ _ _ h => h) (Or.inl ⟨by kernel_rfl, ?_⟩) ?_ ?_
          rotate_left
          · intro w'
            go_simp
            with_reducible rfl
          rotate_left
          · simp only [Act.put, List.setIfInBounds_toArray, List.set_cons_zero, List.set_cons_succ, i64_w, i32_w]
            rfl
          refine pure_ (i := 1) (N := some 35) (v := ?_) (a' := ?_) #[true, true, false, false, false, false, false, false, false, false] rfl rfl (by kernel_rfl) (fun _ _ _ h => h) (Or.inl ⟨by kernel_rfl, ?_⟩) ?_ ?_
          rotate_left
          · intro w'
            go_simp
            with_reducible rfl
          rotate_left
          · simp only [Act.put, List.setIfInBounds_toArray, List.set_cons_zero, List.set_cons_succ, i64_w, i32_w]
            rfl
          refine pure_ (i := 2) (N := some 36) (v := ?_) (a' := ?_) #[true, true, true, false, false, false, false, false, false, false] rfl rfl (by kernel_rfl) (fun _ _ _ h => h) (Or.inl ⟨by kernel_rfl, ?_⟩) ?_ ?_
          rotate_left
          · intro w'
            go_simp
            with_reducible rfl
          rotate_left
          · simp only [Act.put, List.setIfInBounds_toArray, List.set_cons_zero, List.set_cons_succ, i64_w, i32_w]
            rfl
          refine pure_ (i := 4) (N := some 38) (v := ?_) (a' := ?_) #[true, true, true, false, true, false, false, false, false, false] rfl rfl (by kernel_rfl) (fun _ _ _ h => h) (Or.inl ⟨by kernel_rfl, ?_⟩) ?_ ?_
          rotate_left
          · intro w'
            go_simp
            with_reducible rfl
          rotate_left
          · simp only [Act.put, List.setIfInBounds_toArray, List.set_cons_zero, List.set_cons_succ, i64_w, i32_w]
            rfl
          refine pure_ (i := 6) (N := some 40) (v := ?_) (a' := ?_) #[true, true, true, false, true, false, true, false, false, false] rfl rfl (by kernel_rfl) (fun _ _ _ h => h) (Or.inl ⟨by kernel_rfl, ?_⟩) ?_ ?_
          rotate_left
          · intro w'
            go_simp
            with_reducible rfl
          rotate_left
          · simp only [Act.put, List.setIfInBounds_toArray, List.set_cons_zero, List.set_cons_succ, i64_w, i32_w]
            rfl
          refine take_ (i := 3) (N := some 37) (v := ?_) (a' := ?_) #[true, true, true, true, true, false, true, false, false, false] rfl rfl (by kernel_rfl) (fun _ _ _ h => h) (Or.inl ⟨by kernel_rfl, ?_⟩) hHeld ?_ ?_
          rotate_left
          · rintro w' ⟨s0_, s1_, s2_⟩
            go_simp
            with_reducible rfl
          rotate_left
          · simp only [Act.put, List.setIfInBounds_toArray, List.set_cons_zero, List.set_cons_succ, i64_w, i32_w]
            rfl
          refine take_ (i := 5) (N := some 39) (v := ?_) (a' := ?_) #[true, true, true, true, true, true, true, false, false, false] rfl rfl (by kernel_rfl) (fun _ _ _ h => h) (Or.inl ⟨by kernel_rfl, ?_⟩) hHeld ?_ ?_
          rotate_left
          · rintro w' ⟨s0_, s1_, s2_⟩
            go_simp
            with_reducible rfl
          rotate_left
          · simp only [Act.put, List.setIfInBounds_toArray, List.set_cons_zero, List.set_cons_succ, i64_w, i32_w]
            rfl
          refine take_ (i := 7) (N := some 41) (v := ?_) (a' := ?_) #[true, true, true, true, true, true, true, true, false, false] rfl rfl (by kernel_rfl) (fun _ _ _ h => h) (Or.inl ⟨by kernel_rfl, ?_⟩) hHeld ?_ ?_
          rotate_left
          · rintro w' ⟨s0_, s1_, s2_⟩
            go_simp
            with_reducible rfl
          rotate_left
          · simp only [Act.put, List.setIfInBounds_toArray, List.set_cons_zero, List.set_cons_succ, i64_w, i32_w]
            rfl
          refine pure_ (i := 8) (N := some 42) (v := ?_) (a' := ?_) #[true, true, true, true, true, true, true, true, true, false] rfl rfl (by kernel_rfl) (fun _ _ _ h => h) (Or.inl ⟨by kernel_rfl, ?_⟩) ?_ ?_
          rotate_left
          · intro w'
            go_simp
            with_reducible rfl
          rotate_left
          · simp only [Act.put, List.setIfInBounds_toArray, List.set_cons_zero, List.set_cons_succ, i64_w, i32_w]
            rfl
          refine last_ (i := 9) (N := none) #[true, true, true, true, true, true, true, true, true, true] rfl rfl (by kernel_rfl) (by decide) (fun K hK => ?_)
          have cz : W.drew.cell? ⟨bs, k.toNat, none⟩ = some _ := cell_of (w := W.drew) HB.out HTK.out HX.out
          have fz : W.drew.frozen? ⟨bs, k.toNat, none⟩ = false := blk_frozen (w := W.drew) HB.out _
          refine skip_ (w1 := ?_) (by kernel_rfl) rfl ?_ ?_
          rotate_left
          · go_simp
            rfl
          refine hK _ _ ?_
          clear hK K cz fz
          refine done_ (by kernel_rfl) ?_
          have v3 := HV.out.drew.set_safe k.toNat (by simp only [hl1]; omega) s
          simp only [← HS2.out] at v3
          have HV4 := Aside0.mk v3
          have F4 := Aside0.mk (F.out.drew.setCell (p := ⟨bs, k.toNat, none⟩) (.inl hSb) (.string s))
          have HE4 := Aside0.mk (show ∀ ad', some ad = some ad' → 0 < n → (W.drew.setCell ⟨bs, k.toNat, none⟩ (.string s)).heap[ad'.block]? = w.heap[ad'.block]? from fun ad' ha hn => by
            injection ha with ha
            subst ha
            exact (Below.heap_setCell W.drew ⟨bs, k.toNat, none⟩ (.string s) ad.block HNE.out).trans (HE.out ad rfl hn))
          clear v3
          simp only [Exit.inBlock, Exit.then]
          go_wp2
          simp only [hwj]
          go_roundw
          case measure =>
            show d.row.length - (intOf (.int .i64 ((j + 1 : Nat) : Int))).toNat < d.row.length - (intOf (.int .i64 (j : Int))).toNat
            simp only [intOf]; omega
          case rel => exact ⟨j + 1, rfl, ⟨by omega⟩, HV4, F4, HE4⟩
        · have HS2 := Aside0.mk (show crashT n p d.row d.safe (j + 1) = (crashT n p d.row d.safe j).set k.toNat (noughts 128) from hs1)
          clear hs1
          have hl1 := crashT_length n p d.row d.safe j
          obtain ⟨bs, cc, cur, hsv, hSb, hbs, _, _, _, htk⟩ := HV.out.safe.open (by simp only [hl1]; omega)
          simp only [hl1] at hsv
          subst hsv
          obtain ⟨ux, hx⟩ : ∃ u, ((crashT n p d.row d.safe j).map Value.string)[k.toNat]? = some u := ⟨_, List.getElem?_eq_getElem (by simp only [List.length_map, hl1]; omega)⟩
          have HB := Aside0.mk hbs
          have HNE := Aside0.mk (show ad.block ≠ bs from fun e => by
            rcases HAP.out with h | ⟨cs, fr, h⟩
            · exact h (e ▸ hSb)
            · have h2 := (HE.out ad rfl HN0.out).trans h
              exact blk_ne h2 hbs (by decide) e)
          go_upto_region 11 with (fail)
          have q0 : W.drew.cell? ⟨tb, 0, none⟩ = some (.int .i64 k) := blk_cell (w := W.drew) HTA.out 0
          have z0 : W.drew.cell? ⟨g, 0, none⟩ = some (.slice (some ⟨bs, 0, none⟩) d.safe.length cc) := HV.out.drew.cells.1.1
          have HV2 := Aside0.mk HV.out.drew; have F2 := Aside0.mk F.out.drew
          have HX := Aside0.mk hx; have HTK := Aside0.mk htk
          clear hbs
          refine start_ (n := 9) (S := fun w' => w'.cell? ⟨g, 0, none⟩ = some (.slice (some ⟨bs, 0, none⟩) d.safe.length cc) ∧ w'.cell? ⟨tb, 0, none⟩ = some (.int .i64 k)) (ds := [8]) #[false, false, false, false, false, false, false, false, false] (by kernel_rfl) rfl rfl ⟨z0, q0⟩ (fun hHeld => ?_)
          refine pure_ (i := 0) (N := some 45) (v := ?_) (a' := ?_) #[true, false, false, false, false, false, false, false, false] rfl rfl (by kernel_rfl) (fun _ _ _ h => h) (Or.inl ⟨by kernel_rfl, ?_⟩) ?_ ?_
          rotate_left
          · intro w'
            go_simp
            with_reducible rfl
          rotate_left
          · simp only [Act.put, List.setIfInBounds_toArray, List.set_cons_zero, List.set_cons_succ, i64_w, i32_w]
            rfl
          refine pure_ (i := 1) (N := some 46) (v := ?_) (a' := ?_) #[true, true, false, false, false, false, false, false, false] rfl rfl (by kernel_rfl) (fun _ _ _ h => h) (Or.inl ⟨by kernel_rfl, ?_⟩) ?_ ?_
          rotate_left
          · intro w'
            go_simp
            with_reducible rfl
          rotate_left
          · simp only [Act.put, List.setIfInBounds_toArray, List.set_cons_zero, List.set_cons_succ, i64_w, i32_w]
            rfl
          refine pure_ (i := 2) (N := some 47) (v := ?_) (a' := ?_) #[true, true, true, false, false, false, false, false, false] rfl rfl (by kernel_rfl) (fun _ _ _ h => h) (Or.inl ⟨by kernel_rfl, ?_⟩) ?_ ?_
          rotate_left
          · intro w'
            go_simp
            with_reducible rfl
          rotate_left
          · simp only [Act.put, List.setIfInBounds_toArray, List.set_cons_zero, List.set_cons_succ, i64_w, i32_w]
            rfl
          refine pure_ (i := 4) (N := some 49) (v := ?_) (a' := ?_) #[true, true, true, false, true, false, false, false, false] rfl rfl (by kernel_rfl) (fun _ _ _ h => h) (Or.inl ⟨by kernel_rfl, ?_⟩) ?_ ?_
          rotate_left
          · intro w'
            go_simp
            with_reducible rfl
          rotate_left
          · simp only [Act.put, List.setIfInBounds_toArray, List.set_cons_zero, List.set_cons_succ, i64_w, i32_w]
            rfl
          refine take_ (i := 3) (N := some 48) (v := ?_) (a' := ?_) #[true, true, true, true, true, false, false, false, false] rfl rfl (by kernel_rfl) (fun _ _ _ h => h) (Or.inl ⟨by kernel_rfl, ?_⟩) hHeld ?_ ?_
          rotate_left
          · rintro w' ⟨s0_, s1_⟩
            go_simp
            with_reducible rfl
          rotate_left
          · simp only [Act.put, List.setIfInBounds_toArray, List.set_cons_zero, List.set_cons_succ, i64_w, i32_w]
            rfl
          refine take_ (i := 5) (N := some 50) (v := ?_) (a' := ?_) #[true, true, true, true, true, true, false, false, false] rfl rfl (by kernel_rfl) (fun _ _ _ h => h) (Or.inl ⟨by kernel_rfl, ?_⟩) hHeld ?_ ?_
          rotate_left
          · rintro w' ⟨s0_, s1_⟩
            go_simp
            with_reducible rfl
          rotate_left
          · simp only [Act.put, List.setIfInBounds_toArray, List.set_cons_zero, List.set_cons_succ, i64_w, i32_w]
            rfl
          refine one_ (i := 6) (N := some 51) #[true, true, true, true, true, true, true, false, false] rfl rfl (by kernel_rfl) (by decide) (fun K hK => ?_)
          refine goes_ Try.func39 (by kernel_rfl) rfl #[] (by rfl) rfl rfl (by (try simp only [List.map_toArray, List.map_cons, List.map_nil]); first | done | rfl) ?_
          refine (zero_calls _).mono ?_
          rintro e v1_ ⟨rfl, hb1⟩
          refine ⟨_, rfl, ?_⟩
          have b_ := (hb1.block bs (blk_lt HB.out)).trans HB.out
          have HB3 := Aside0.mk b_
          have HV3 := Aside0.mk (HV2.out.below hb1)
          have F3 := Aside0.mk (F2.out.below hb1)
          have HE3 := Aside0.mk (show ∀ ad', some ad = some ad' → 0 < n → v1_.heap[ad'.block]? = w.heap[ad'.block]? from fun ad' ha hn => by
            injection ha with ha
            subst ha
            obtain ⟨ad2, ha2, hcl2, _⟩ := HP.out hn
            injection ha2 with ha2
            subst ha2
            exact (hb1.block ad.block (Nat.lt_of_lt_of_le (Pk.lt hn hcl2) F2.out.size)).trans (HE.out ad rfl hn))
          refine hK _ _ ⟨pw_cell_below hb1 hHeld.1, pw_cell_below hb1 hHeld.2⟩ (fun hHeld => ?_)
          clear hK K hb1 b_
          refine norm_ (a' := ?_) ?_ ?_
          rotate_left
          · show Act.put _ (some 51) _ = _
            simp only [Act.put, List.setIfInBounds_toArray, List.set_cons_zero, List.set_cons_succ, i64_w, i32_w]
            rfl
          refine pure_ (i := 7) (N := some 52) (v := ?_) (a' := ?_) #[true, true, true, true, true, true, true, true, false] rfl rfl (by kernel_rfl) (fun _ _ _ h => h) (Or.inl ⟨by kernel_rfl, ?_⟩) ?_ ?_
          rotate_left
          · intro w'
            go_simp
            with_reducible rfl
          rotate_left
          · simp only [Act.put, List.setIfInBounds_toArray, List.set_cons_zero, List.set_cons_succ, i64_w, i32_w]
            rfl
          refine last_ (i := 8) (N := none) #[true, true, true, true, true, true, true, true, true] rfl rfl (by kernel_rfl) (by decide) (fun K hK => ?_)
          have cz : v1_.cell? ⟨bs, k.toNat, none⟩ = some _ := cell_of (w := v1_) HB3.out HTK.out HX.out
          have fz : v1_.frozen? ⟨bs, k.toNat, none⟩ = false := blk_frozen (w := v1_) HB3.out _
          refine skip_ (w1 := ?_) (by kernel_rfl) rfl ?_ ?_
          rotate_left
          · go_simp
            rfl
          refine hK _ _ ?_
          clear hK K cz fz
          have v3 := HV3.out.set_safe k.toNat (by simp only [hl1]; omega) (noughts 128)
          simp only [← HS2.out] at v3
          have HV4 := Aside0.mk v3
          have F4 := Aside0.mk (F3.out.setCell (p := ⟨bs, k.toNat, none⟩) (.inl hSb) (.string (noughts 128)))
          have HE4 := Aside0.mk (show ∀ ad', some ad = some ad' → 0 < n → (v1_.setCell ⟨bs, k.toNat, none⟩ (.string (noughts 128))).heap[ad'.block]? = w.heap[ad'.block]? from fun ad' ha hn => by
            injection ha with ha
            subst ha
            exact (Below.heap_setCell v1_ ⟨bs, k.toNat, none⟩ (.string (noughts 128)) ad.block HNE.out).trans (HE3.out ad rfl hn))
          clear v3
          refine done_ (by kernel_rfl) ?_
          simp only [Exit.inBlock, Exit.then]
          go_wp2
          simp only [hwj]
          go_roundw
          case measure =>
            show d.row.length - (intOf (.int .i64 ((j + 1 : Nat) : Int))).toNat < d.row.length - (intOf (.int .i64 (j : Int))).toNat
            simp only [intOf]; omega
          case rel => exact ⟨j + 1, rfl, ⟨by omega⟩, HV4, F4, HE4⟩
      · have hn : n = 0 := by omega
        have t0 : decide ((0 : Int) < (n : Int)) = false := decide_eq_false (by omega)
        have t0' : decide (0 < n) = false := decide_eq_false n0
        have h0 : fq = 0 := by have := HFQ.out; unfold fateN at this; rw [if_pos hn] at this; exact this
        have hs1 := HS1.out
        rw [← HFQ.out, h0] at hs1
        have hs2 : crashT n p d.row d.safe (j + 1) = crashT n p d.row d.safe j := hs1
        have HS2 := Aside0.mk hs2
        clear hs1 hs2 h0 pre n0 hn HS1 HFQ
        go_wp2
        simp only [hwj]
        go_roundw
        case measure => simp only [intOf]; omega
        case rel => exact ⟨j + 1, rfl, ⟨by omega⟩, ⟨by rw [HS2.out]; exact HV.out⟩, F, HE⟩
    · have hjl : j = d.row.length := by have := J.out; omega
      subst hjl
      go_upto_region 14 with (go_at_call 42; with_reducible refine (settle_calls _ g S _ sv _ m _ HV.out).mono ?_; rintro e w5 ⟨rfl, hk5, hf5⟩; have HK0 := Aside0.mk hk5; have F5 := Aside0.mk (F.out.trans hf5); clear hk5 hf5)
      obtain ⟨sv5, rv5, m5, hv5⟩ := HK0.out
      have HK := Aside0.mk hv5
      clear HV F HK0 hv5
      have HV := HK
      clear HK
      obtain ⟨⟨c0, c1, c2, c3, c4⟩, fr_⟩ := HV.out.cells; have f0 := fr_ 0; have f1 := fr_ 1; have f2 := fr_ 2; have f3 := fr_ 3; have f4 := fr_ 4; clear fr_
      go_wp2
      (try simp only [Exit.inBlock, Exit.then])
      refine bodyPost_end (results_none rfl _ _ _) rfl ?_
      exact ⟨rfl, ⟨sv5, rv5, m5, (HV.out.set_gone false).set_fuse (-1)⟩, (F5.out.setCell (p := ⟨g, 3, none⟩) (.inl HV.out.sg) _).setCell (p := ⟨g, 4, none⟩) (.inl HV.out.sg) _⟩
end Go.Proofs.Ytbdfdfahpdilpaa.Dk

/-! Layer 3: awake. -/
namespace Go.Proofs.Ytbdfdfahpdilpaa.Dk
open Go Go.RowKit Go.ChangeMaps Go.Proofs.Ytbdfdfahpdilpaa.Arr Go.Proofs.Ytbdfdfahpdilpaa.Mp Go.Proofs.Ytbdfdfahpdilpaa.Ow Go.Proofs.YtbdfdfahpdilpaaW.PrintWords Go.Proofs.YtbdfdfahpdilpaaW.PrintLast Go.Proofs.YtbdfdfahpdilpaaW.PrintMore
set_option linter.unusedVariables false
set_option linter.unusedSimpArgs false
def OkN (n : Nat) (d : DS) : Prop := OkD d ∧ d.row.length ≤ n
theorem ok_new (n : Nat) (h : n ≤ 512) : OkN 0 (newD n) := ⟨⟨by simp [newD], by simp [newD], by simp [newD], by simp [newD]; omega, by simp [newD]⟩, by simp [newD]⟩
theorem ok_bears {n : Nat} {d : DS} (h : OkN n d) : OkN n (bearsD d) := by
  obtain ⟨⟨h1, h2, h3, h4, h5⟩, h6⟩ := h
  unfold bearsD
  split
  · exact ⟨⟨h1, h2, h3, h4, h5⟩, h6⟩
  · split
    · exact ⟨⟨h1, h2, h3, h4, h5⟩, h6⟩
    · split
      · exact ⟨⟨h1, by simp only; omega, by simp only; omega, h4, h5⟩, h6⟩
      · exact ⟨⟨h1, h2, h3, h4, h5⟩, h6⟩
theorem okOf {w : World} {S : Nat → Prop} {g : Nat} {d : DS} {n : Nat} (_ : DK w S g d) (h : OkN n d) : OkN n d := h
theorem OkN.ok {n : Nat} {d : DS} (h : OkN n d) : OkD d := h.1
theorem OkN.mono {n n' : Nat} {d : DS} (h : OkN n d) (hn : n ≤ n') : OkN n' d := ⟨h.1, Nat.le_trans h.2 hn⟩
theorem ok_write {n : Nat} {d : DS} {i : Int} {s : ByteArray} (h : OkN n d) (hn : n < 1000000) : OkN (n + 1) (writeD d i s) := by
  unfold writeD
  split
  · exact h.mono (by omega)
  · split
    · exact h.mono (by omega)
    · split
      · exact (ok_bears h).mono (by omega)
      · rename_i ht _ _
        have hb := ok_bears h
        have hs := bears_safe d
        have hr := bears_row d
        have hi : 0 ≤ i ∧ i < d.safe.length := by simpa [thereD] using ht
        obtain ⟨⟨h1, h2, h3, h4, h5⟩, h6⟩ := hb
        refine ⟨⟨by simp [pushD]; omega, h2, h3, h4, ?_⟩, by simp [pushD]; omega⟩
        intro p hp
        rcases List.mem_append.1 hp with hp | hp
        · exact h5 p hp
        · simp at hp
          subst hp
          show 0 ≤ i ∧ i < (bearsD d).safe.length
          rw [hs]
          exact hi
theorem ok_sync {n : Nat} {d : DS} (h : OkN n d) : OkN n (syncD d) := by
  unfold syncD
  split
  · exact ok_bears h
  · obtain ⟨⟨h1, h2, h3, h4, h5⟩, h6⟩ := ok_bears h
    have hl := h.1.2.2.2.1
    exact ⟨⟨by simp [settleD], h2, h3, by simpa [settleD, over_length] using hl, by simp [settleD]⟩, by simp [settleD]⟩
theorem ok_arm {n : Nat} {d : DS} (h : OkN n d) (k : Int) (hk : k < 9223372036854775808) : OkN n { d with fuse := max k (-1) } := by
  obtain ⟨⟨h1, h2, h3, h4, h5⟩, h6⟩ := h
  exact ⟨⟨h1, by simp only; omega, by simp only; omega, h4, h5⟩, h6⟩
theorem ok_crash {n : Nat} {d : DS} {a : Nat} {p : Nat → Nat} (h : OkN n d) : OkN 0 (crashD a p d) := by
  obtain ⟨⟨h1, h2, h3, h4, h5⟩, h6⟩ := h
  exact ⟨⟨by simp [crashD], by simp [crashD], by simp [crashD], by simpa [crashD, crashT_length] using h4, by simp [crashD]⟩, by simp [crashD]⟩
theorem FS.up {B : Nat} {w w' : World} (h : FS (fun k => B ≤ k) w w') (hB : B ≤ w.heap.size) : Below B w w' := ⟨h.os, h.tape, h.output, h.size, fun k hk => h.block k (by omega) (by omega)⟩
theorem pk_one (W : World) (S : Nat → Prop) (k : Nat) : Pk (W.alloc (.cells #[.int .u8 (k : Int)] TB)) S (some ⟨W.heap.size, 0, none⟩) 1 (fun _ => k) := fun _ => ⟨_, rfl, fun j hj => by
  have e : j = 0 := by omega
  subst e
  exact blk_cell (heap_alloc_new W _) 0, .inr ⟨_, _, heap_alloc_new W _⟩⟩
theorem pk_nil (W : World) (S : Nat → Prop) (A : Option Addr) (p : Nat → Nat) : Pk W S A 0 p := fun h => absurd h (by decide)
def aw1 : DS := writeD (newD 2) 0 (fullS 97)
def aw2 : DS := syncD aw1
def aw3 : DS := writeD aw2 0 (fullS 98)
def aw4 (k : Nat) : DS := crashD 1 (fun _ => k) aw3
def aw5 : DS := { newD 2 with fuse := max 1 (-1) }
def aw6 : DS := writeD aw5 1 (fullS 120)
def aw7 : DS := writeD aw6 1 (fullS 121)
theorem aw_e1 : writeE (newD 2) 0 (fullS 97) = 0 := by decide +kernel
theorem aw_e2 : syncE (writeD (newD 2) 0 (fullS 97)) = 0 := by decide +kernel
theorem aw_e3 : writeE (syncD (writeD (newD 2) 0 (fullS 97))) 0 (fullS 98) = 0 := by decide +kernel
theorem aw_e4 (k : Nat) (h : k ≤ 2) : readE (aw4 k) 0 = 0 := by
  have : k = 0 ∨ k = 1 ∨ k = 2 := by omega
  rcases this with rfl | rfl | rfl <;> decide +kernel
theorem aw_s0 : readS (aw4 0) 0 = fullS 97 := by decide +kernel
theorem aw_s1 : readS (aw4 1) 0 = fullS 98 := by decide +kernel
theorem aw_s2 : readS (aw4 2) 0 = fullS 0 := by decide +kernel
theorem aw_e6 : writeE { newD 2 with fuse := max 1 (-1) } 1 (fullS 120) = 0 := by decide +kernel
theorem aw_e7 : writeE (writeD { newD 2 with fuse := max 1 (-1) } 1 (fullS 120)) 1 (fullS 121) = 4 := by decide +kernel
theorem aw_g : aw7.gone = true := by decide +kernel
theorem aw_w : (aw7.row.length : Int) = 1 := by decide +kernel
end Go.Proofs.Ytbdfdfahpdilpaa.Dk

/-! Layer 3: copies. -/
namespace Go.Proofs.Ytbdfdfahpdilpaa.Dk
open Go Go.RowKit Go.ChangeMaps Go.Proofs.Ytbdfdfahpdilpaa.Arr Go.Proofs.Ytbdfdfahpdilpaa.Mp Go.Proofs.Ytbdfdfahpdilpaa.Ow Go.Proofs.YtbdfdfahpdilpaaW.PrintWords Go.Proofs.YtbdfdfahpdilpaaW.PrintLast Go.Proofs.YtbdfdfahpdilpaaW.PrintMore
set_option linter.unusedVariables false
set_option linter.unusedSimpArgs false
theorem eqs_nil (a : Option Addr) (l c : Nat) (w : World) : (binOp .eql 37 (.slice a l c) (.slice none 0 0)).run Try.prog w = .ok (.bool (a.isNone)) w := by
  simp only [binOp]
  simp [run_equal_slice_nil (P := Try.prog) w 37 TS a l c (by kernel_rfl)]
theorem eqw_nil (a : Option Addr) (l c : Nat) (w : World) : (binOp .eql 79 (.slice a l c) (.slice none 0 0)).run Try.prog w = .ok (.bool (a.isNone)) w := by
  simp only [binOp]
  simp [run_equal_slice_nil (P := Try.prog) w 79 TW a l c (by kernel_rfl)]
theorem eqm_nil (m : Option Nat) (w : World) : (binOp .eql 78 (.map m) (.map none)).run Try.prog w = .ok (.bool m.isNone) w := by
  simp only [binOp]
  simp [run_equal_map_nil (P := Try.prog) w 78 3 9 m (by kernel_rfl)]
attribute [local go_sem] eqs_nil eqw_nil eqm_nil
set_option maxHeartbeats 1000000 in
set_option maxRecDepth 20000 in
theorem cloneS_calls (v : Value) (n : Nat) (xs : List Value) (S : Nat → Prop) (w : World) (h : Ow w S TS 1 v n xs) (hn : n ≤ 1000000) (h1 : ∀ u ∈ xs, u.oneCell' = true) : Calls Try.prog 43 #[v] w fun e w' => ∃ v', e = .returned v' ∧ Ow w' (fun k => w.heap.size ≤ k) TS 1 v' n xs ∧ Below w.heap.size w w' := by
  obtain ⟨i0, hi, h2⟩ := Option.map_eq_some_iff.1 infoS
  have hz : i0.zero = some (.string ⟨#[]⟩) := congrArg Prod.fst h2
  have hs : i0.size = 1 := congrArg (fun p => p.2.1) h2
  have hb : i0.bytes = 16 := congrArg (fun p => p.2.2) h2
  have HX := Aside0.mk h
  obtain ⟨hl, ho⟩ := h.own
  rcases ho with ⟨rfl, rfl⟩ | ⟨g, cap, cur, hv, _, hg, h3, h4, h5, h6⟩
  · clear hi hz hs hb h2 i0
    go_enter Try.func43, Try.ntmps43
    go_wp2
    go_ret
    exact ⟨_, rfl, by
      have hx : xs = [] := by
        apply List.eq_nil_of_length_eq_zero
        omega
      subst hx
      exact Ow.nil _ _ _ _, Below.refl _ _⟩
  · subst hv
    have hw1 : ((w.alloc (.cells #[] TS)).ownsRow w.heap.size TS 1 (.slice (some ⟨w.heap.size, 0, none⟩) 0 0) 0 []) := ⟨rfl, .inr ⟨w.heap.size, 0, #[], rfl, Nat.le_refl _, heap_alloc_new w _, by omega, by decide, by simp, rfl⟩⟩
    have hnews : ∀ j u, xs[j]? = some u → (w.alloc (.cells #[] TS)).cell? ((⟨g, 0, none⟩ : Addr).add j) = some u := by
      intro j u hj
      have hlt : g < w.heap.size := by
        rcases Nat.lt_or_ge g w.heap.size with hh | hh
        · exact hh
        · simp [Array.getElem?_eq_none hh] at hg
      have := cell_of hg h6 hj
      have e : (⟨g, 0, none⟩ : Addr).add j = ⟨g, j, none⟩ := by simp [Addr.add]; omega
      rw [e]
      exact (((Below.refl w.heap.size w).alloc (Nat.le_refl _) _).cell (p := ⟨g, j, none⟩) hlt).trans this
    obtain ⟨v', w', hr, ho, hgr, _⟩ := run_append_own (P := Try.prog) (w := w.alloc (.cells #[] TS)) w.heap.size 37 37 TS i0 _ 1 16 (by kernel_rfl) hi hz hs hb rfl (by decide) _ 0 [] hw1 ⟨g, 0, none⟩ n cap xs hl hnews h1 (by simp only [maxLen] at *; omega) (by omega) (by simp)
    have hbe := ((Below.refl w.heap.size w).alloc (Nat.le_refl _) (.cells #[] TS)).grown hgr (by simp) (fun b hb => by simp [Value.ownBlock] at hb; omega)
    rw [Nat.zero_add, List.nil_append] at ho
    have HR := Aside0.mk hr; have HO := Aside0.mk ho; have HB := Aside0.mk hbe
    clear hi hz hs hb h2 i0 hl hg h3 h4 h5 h6 hw1 hr ho hgr hbe h1 h hn hnews
    go_enter Try.func43, Try.ntmps43
    go_wp2_with ((with_reducible refine gate_builtin (b := .append) (xs := #[.tmp 5, .tmp 6]) rfl ?_); at_builtin; refine ev_append (.tmp 5) (.tmp 6) 37 rfl rfl _ _ rfl rfl HR.out ?_)
    go_ret
    refine ⟨_, rfl, ⟨?_, fun k hk => ?_⟩, HB.out⟩
    · obtain ⟨a, b⟩ := HO.out
      refine ⟨a, ?_⟩
      rcases b with b | ⟨g', c', u', e1, _, e2⟩
      · exact .inl b
      · exact .inr ⟨g', c', u', e1, Nat.zero_le _, e2⟩
    · exact (HO.out.lt k hk).1
set_option maxHeartbeats 1000000 in
set_option maxRecDepth 20000 in
theorem cloneW_calls (v : Value) (n : Nat) (xs : List Value) (S : Nat → Prop) (w : World) (h : Ow w S TW 2 v n xs) (hn : n ≤ 1000000) (h1 : ∀ u ∈ xs, u.oneCell' = true) : Calls Try.prog 44 #[v] w fun e w' => ∃ v', e = .returned v' ∧ Ow w' (fun k => w.heap.size ≤ k) TW 2 v' n xs ∧ Below w.heap.size w w' := by
  obtain ⟨i0, hi, h2⟩ := Option.map_eq_some_iff.1 infoW
  have hz : i0.zero = some (.agg #[.int .i64 0, .string ⟨#[]⟩]) := congrArg Prod.fst h2
  have hs : i0.size = 2 := congrArg (fun p => p.2.1) h2
  have hb : i0.bytes = 24 := congrArg (fun p => p.2.2) h2
  have HX := Aside0.mk h
  obtain ⟨hl, ho⟩ := h.own
  rcases ho with ⟨rfl, rfl⟩ | ⟨g, cap, cur, hv, _, hg, h3, h4, h5, h6⟩
  · clear hi hz hs hb h2 i0
    go_enter Try.func44, Try.ntmps44
    go_wp2
    go_ret
    exact ⟨_, rfl, by
      have hx : xs = [] := by
        apply List.eq_nil_of_length_eq_zero
        omega
      subst hx
      exact Ow.nil _ _ _ _, Below.refl _ _⟩
  · subst hv
    have hw1 : ((w.alloc (.cells #[] TW)).ownsRow w.heap.size TW 2 (.slice (some ⟨w.heap.size, 0, none⟩) 0 0) 0 []) := ⟨rfl, .inr ⟨w.heap.size, 0, #[], rfl, Nat.le_refl _, heap_alloc_new w _, by omega, by decide, by simp, rfl⟩⟩
    have hnews : ∀ j u, xs[j]? = some u → (w.alloc (.cells #[] TW)).cell? ((⟨g, 0, none⟩ : Addr).add j) = some u := by
      intro j u hj
      have hlt : g < w.heap.size := by
        rcases Nat.lt_or_ge g w.heap.size with hh | hh
        · exact hh
        · simp [Array.getElem?_eq_none hh] at hg
      have := cell_of hg h6 hj
      have e : (⟨g, 0, none⟩ : Addr).add j = ⟨g, j, none⟩ := by simp [Addr.add]; omega
      rw [e]
      exact (((Below.refl w.heap.size w).alloc (Nat.le_refl _) _).cell (p := ⟨g, j, none⟩) hlt).trans this
    obtain ⟨v', w', hr, ho, hgr, _⟩ := run_append_own (P := Try.prog) (w := w.alloc (.cells #[] TW)) w.heap.size 79 79 TW i0 _ 2 24 (by kernel_rfl) hi hz hs hb rfl (by decide) _ 0 [] hw1 ⟨g, 0, none⟩ n cap xs hl hnews h1 (by simp only [maxLen] at *; omega) (by omega) (by simp)
    have hbe := ((Below.refl w.heap.size w).alloc (Nat.le_refl _) (.cells #[] TW)).grown hgr (by simp) (fun b hb => by simp [Value.ownBlock] at hb; omega)
    rw [Nat.zero_add, List.nil_append] at ho
    have HR := Aside0.mk hr; have HO := Aside0.mk ho; have HB := Aside0.mk hbe
    clear hi hz hs hb h2 i0 hl hg h3 h4 h5 h6 hw1 hr ho hgr hbe h1 h hn hnews
    go_enter Try.func44, Try.ntmps44
    go_wp2_with ((with_reducible refine gate_builtin (b := .append) (xs := #[.tmp 5, .tmp 6]) rfl ?_); at_builtin; refine ev_append (.tmp 5) (.tmp 6) 79 rfl rfl _ _ rfl rfl HR.out ?_)
    go_ret
    refine ⟨_, rfl, ⟨?_, fun k hk => ?_⟩, HB.out⟩
    · obtain ⟨a, b⟩ := HO.out
      refine ⟨a, ?_⟩
      rcases b with b | ⟨g', c', u', e1, _, e2⟩
      · exact .inl b
      · exact .inr ⟨g', c', u', e1, Nat.zero_le _, e2⟩
    · exact (HO.out.lt k hk).1
theorem run_mapclone (w : World) (m : Nat) (es : Array MapEntry) (c : Nat) (h : w.heap[m]? = some (.map es c)) (t : TypeId) : (callFunc 55 #[.iface t (.map (some m))]).run Try.prog w = .ok (.value (.iface t (.map (some w.heap.size)))) (w.alloc (.map es c)) := by
  rw [run_callFunc_extern Try.func55 (by kernel_rfl) (by kernel_rfl) (by kernel_rfl) (e := Extern.MapsClone.clone) (by kernel_rfl)]
  have e : Extern.MapsClone.clone #[.iface t (.map (some m))] = (getObj m >>= fun o => match o with
      | .map entries clock => (newObj (.map entries clock) >>= fun n => pure (.iface t (.map (some n))))
      | _ => stuck "maps.clone: a map expected") := rfl
  rw [e]
  simp [MapKept.run_getObj_map h, Result.andThen]
set_option maxHeartbeats 1000000 in
set_option maxRecDepth 20000 in
theorem cloneM_calls (m : Nat) (f : Int → Option ByteArray) (w : World) (h : MP w m f) : Calls Try.prog 45 #[.map (some m)] w fun e w' => e = .returned (.map (some w.heap.size)) ∧ MP w' w.heap.size f ∧ Below w.heap.size w w' := by
  obtain ⟨L, c, h1, h2, h3⟩ := h
  have hta : ∀ (k : Nat) (W : World), (Instr.typeAssert (.iface 78 (.map (some k))) 20 78 false).run Try.prog W = .ok (.map (some k)) W := fun k W => by rfl
  have hr := run_mapclone w m (ents L) c h1 78
  clear h1
  go_enter Try.func45, Try.ntmps45
  go_wp2
  go_ret
  exact ⟨rfl, ⟨L, c, heap_alloc_new w _, h2, h3⟩, (Below.refl _ _).alloc (Nat.le_refl _) _⟩
theorem one_str (l : List ByteArray) : ∀ u ∈ l.map Value.string, u.oneCell' = true := fun u hu => by
  obtain ⟨s, _, rfl⟩ := List.mem_map.1 hu
  rfl
theorem one_wc (l : List (Int × ByteArray)) : ∀ u ∈ wc l, u.oneCell' = true := fun u hu => by
  unfold wc at hu
  obtain ⟨p, _, h⟩ := List.mem_flatMap.1 hu
  simp at h
  rcases h with rfl | rfl <;> rfl
theorem set_blk {w : World} {g : Nat} {cs : Array Value} {t : TypeId} {fr : Nat × Nat} (h : w.heap[g]? = some (.cells cs t fr)) (i : Nat) (u : Value) : (w.setCell ⟨g, i, none⟩ u).heap[g]? = some (.cells (cs.setIfInBounds i u) t fr) := by
  simp only [World.setCell]
  rw [Array.getElem?_modify, if_pos rfl, h]
  rfl
set_option maxHeartbeats 4000000 in
set_option maxRecDepth 20000 in
theorem copy_calls (d : DS) (g : Nat) (S : Nat → Prop) (w : World) (h : DK w S g d) (ho : OkD d) : Calls Try.prog 24 #[.pointer (some ⟨g, 0, none⟩)] w fun e w' => ∃ g', w.heap.size ≤ g' ∧ e = .returned (.pointer (some ⟨g', 0, none⟩)) ∧ DK w' (fun k => w.heap.size ≤ k) g' d ∧ Below w.heap.size w w' := by
  obtain ⟨sv, rv, m, hv⟩ := h
  obtain ⟨A, c, rfl, _⟩ := hv.safe.shape
  obtain ⟨A1, c1_, rfl, _⟩ := hv.row.shape
  have HV := Aside0.mk hv; have HO := Aside0.mk ho; clear hv ho
  obtain ⟨⟨c0, c1, c2, c3, c4⟩, fr_⟩ := HV.out.cells; have f0 := fr_ 0; have f1 := fr_ 1; have f2 := fr_ 2; have f3 := fr_ 3; have f4 := fr_ 4; clear fr_
  go_enter Try.func24, Try.ntmps24
  go_upto_region 4 with (fail)
  have hta := heap_alloc_new w (.cells #[(.slice A d.safe.length c), (.slice A1 d.row.length c1_), .map (some m), .bool d.gone, .int .i64 d.fuse] TD)
  have hb := (Below.refl w.heap.size w).alloc (Nat.le_refl _) (.cells #[(.slice A d.safe.length c), (.slice A1 d.row.length c1_), .map (some m), .bool d.gone, .int .i64 d.fuse] TD)
  have hsz : w.heap.size + 1 ≤ (w.alloc (.cells #[(.slice A d.safe.length c), (.slice A1 d.row.length c1_), .map (some m), .bool d.gone, .int .i64 d.fuse] TD)).heap.size := by simp
  have hlt := Aside0.mk (show g < w.heap.size from HV.out.lt)
  have hv1 := HV.out.below hb
  generalize w.alloc (.cells #[(.slice A d.safe.length c), (.slice A1 d.row.length c1_), .map (some m), .bool d.gone, .int .i64 d.fuse] TD) = W at *
  clear c0 c1 c2 c3 c4 f0 f1 f2 f3 f4
  have HTA := Aside0.mk hta; have HB := Aside0.mk hb; have HW := Aside0.mk hsz; have HV1 := Aside0.mk hv1.drew
  clear hta hb hsz hv1
  have q0 : W.drew.cell? ⟨g, 0, none⟩ = some (.slice A d.safe.length c) := HV1.out.cells.1.1
  have q1 : W.drew.cell? ⟨g, 1, none⟩ = some (.slice A1 d.row.length c1_) := HV1.out.cells.1.2.1
  have q2 : W.drew.cell? ⟨g, 2, none⟩ = some (.map (some m)) := HV1.out.cells.1.2.2.1
  refine start_ (n := 21) (S := fun w' => w'.cell? ⟨g, 0, none⟩ = some (.slice A d.safe.length c) ∧ w'.cell? ⟨g, 1, none⟩ = some (.slice A1 d.row.length c1_) ∧ w'.cell? ⟨g, 2, none⟩ = some (.map (some m))) (ds := [16, 18, 20]) #[false, false, false, false, false, false, false, false, false, false, false, false, false, false, false, false, false, false, false, false, false] (by kernel_rfl) rfl rfl ⟨q0, q1, q2⟩ (fun hHeld => ?_)
  refine pure_ (i := 0) (N := some 9) (v := ?_) (a' := ?_) #[true, false, false, false, false, false, false, false, false, false, false, false, false, false, false, false, false, false, false, false, false] rfl rfl (by kernel_rfl) (fun _ _ _ h => h) (Or.inl ⟨by kernel_rfl, ?_⟩) ?_ ?_
  rotate_left
  · intro w'
    go_simp
    with_reducible rfl
  rotate_left
  · simp only [Act.put, List.setIfInBounds_toArray, List.set_cons_zero, List.set_cons_succ, i64_w, i32_w]
    rfl
  refine pure_ (i := 1) (N := some 10) (v := ?_) (a' := ?_) #[true, true, false, false, false, false, false, false, false, false, false, false, false, false, false, false, false, false, false, false, false] rfl rfl (by kernel_rfl) (fun _ _ _ h => h) (Or.inl ⟨by kernel_rfl, ?_⟩) ?_ ?_
  rotate_left
  · intro w'
    go_simp
    with_reducible rfl
  rotate_left
  · simp only [Act.put, List.setIfInBounds_toArray, List.set_cons_zero, List.set_cons_succ, i64_w, i32_w]
    rfl
  refine pure_ (i := 2) (N := some 11) (v := ?_) (a' := ?_) #[true, true, true, false, false, false, false, false, false, false, false, false, false, false, false, false, false, false, false, false, false] rfl rfl (by kernel_rfl) (fun _ _ _ h => h) (Or.inl ⟨by kernel_rfl, ?_⟩) ?_ ?_
  rotate_left
  · intro w'
    go_simp
    with_reducible rfl
  rotate_left
  · simp only [Act.put, List.setIfInBounds_toArray, List.set_cons_zero, List.set_cons_succ, i64_w, i32_w]
    rfl
  refine pure_ (i := 5) (N := some 14) (v := ?_) (a' := ?_) #[true, true, true, false, false, true, false, false, false, false, false, false, false, false, false, false, false, false, false, false, false] rfl rfl (by kernel_rfl) (fun _ _ _ h => h) (Or.inl ⟨by kernel_rfl, ?_⟩) ?_ ?_
  rotate_left
  · intro w'
    go_simp
    with_reducible rfl
  rotate_left
  · simp only [Act.put, List.setIfInBounds_toArray, List.set_cons_zero, List.set_cons_succ, i64_w, i32_w]
    rfl
  refine pure_ (i := 6) (N := some 15) (v := ?_) (a' := ?_) #[true, true, true, false, false, true, true, false, false, false, false, false, false, false, false, false, false, false, false, false, false] rfl rfl (by kernel_rfl) (fun _ _ _ h => h) (Or.inl ⟨by kernel_rfl, ?_⟩) ?_ ?_
  rotate_left
  · intro w'
    go_simp
    with_reducible rfl
  rotate_left
  · simp only [Act.put, List.setIfInBounds_toArray, List.set_cons_zero, List.set_cons_succ, i64_w, i32_w]
    rfl
  refine pure_ (i := 7) (N := some 16) (v := ?_) (a' := ?_) #[true, true, true, false, false, true, true, true, false, false, false, false, false, false, false, false, false, false, false, false, false] rfl rfl (by kernel_rfl) (fun _ _ _ h => h) (Or.inl ⟨by kernel_rfl, ?_⟩) ?_ ?_
  rotate_left
  · intro w'
    go_simp
    with_reducible rfl
  rotate_left
  · simp only [Act.put, List.setIfInBounds_toArray, List.set_cons_zero, List.set_cons_succ, i64_w, i32_w]
    rfl
  refine pure_ (i := 10) (N := some 19) (v := ?_) (a' := ?_) #[true, true, true, false, false, true, true, true, false, false, true, false, false, false, false, false, false, false, false, false, false] rfl rfl (by kernel_rfl) (fun _ _ _ h => h) (Or.inl ⟨by kernel_rfl, ?_⟩) ?_ ?_
  rotate_left
  · intro w'
    go_simp
    with_reducible rfl
  rotate_left
  · simp only [Act.put, List.setIfInBounds_toArray, List.set_cons_zero, List.set_cons_succ, i64_w, i32_w]
    rfl
  refine pure_ (i := 11) (N := some 20) (v := ?_) (a' := ?_) #[true, true, true, false, false, true, true, true, false, false, true, true, false, false, false, false, false, false, false, false, false] rfl rfl (by kernel_rfl) (fun _ _ _ h => h) (Or.inl ⟨by kernel_rfl, ?_⟩) ?_ ?_
  rotate_left
  · intro w'
    go_simp
    with_reducible rfl
  rotate_left
  · simp only [Act.put, List.setIfInBounds_toArray, List.set_cons_zero, List.set_cons_succ, i64_w, i32_w]
    rfl
  refine pure_ (i := 12) (N := some 21) (v := ?_) (a' := ?_) #[true, true, true, false, false, true, true, true, false, false, true, true, true, false, false, false, false, false, false, false, false] rfl rfl (by kernel_rfl) (fun _ _ _ h => h) (Or.inl ⟨by kernel_rfl, ?_⟩) ?_ ?_
  rotate_left
  · intro w'
    go_simp
    with_reducible rfl
  rotate_left
  · simp only [Act.put, List.setIfInBounds_toArray, List.set_cons_zero, List.set_cons_succ, i64_w, i32_w]
    rfl
  refine take_ (i := 3) (N := some 12) (v := ?_) (a' := ?_) #[true, true, true, true, false, true, true, true, false, false, true, true, true, false, false, false, false, false, false, false, false] rfl rfl (by kernel_rfl) (fun _ _ _ h => h) (Or.inl ⟨by kernel_rfl, ?_⟩) hHeld ?_ ?_
  rotate_left
  · rintro w' ⟨s0_, s1_, s2_⟩
    go_simp
    with_reducible rfl
  rotate_left
  · simp only [Act.put, List.setIfInBounds_toArray, List.set_cons_zero, List.set_cons_succ, i64_w, i32_w]
    rfl
  refine take_ (i := 8) (N := some 17) (v := ?_) (a' := ?_) #[true, true, true, true, false, true, true, true, true, false, true, true, true, false, false, false, false, false, false, false, false] rfl rfl (by kernel_rfl) (fun _ _ _ h => h) (Or.inl ⟨by kernel_rfl, ?_⟩) hHeld ?_ ?_
  rotate_left
  · rintro w' ⟨s0_, s1_, s2_⟩
    go_simp
    with_reducible rfl
  rotate_left
  · simp only [Act.put, List.setIfInBounds_toArray, List.set_cons_zero, List.set_cons_succ, i64_w, i32_w]
    rfl
  refine take_ (i := 13) (N := some 22) (v := ?_) (a' := ?_) #[true, true, true, true, false, true, true, true, true, false, true, true, true, true, false, false, false, false, false, false, false] rfl rfl (by kernel_rfl) (fun _ _ _ h => h) (Or.inl ⟨by kernel_rfl, ?_⟩) hHeld ?_ ?_
  rotate_left
  · rintro w' ⟨s0_, s1_, s2_⟩
    go_simp
    with_reducible rfl
  rotate_left
  · simp only [Act.put, List.setIfInBounds_toArray, List.set_cons_zero, List.set_cons_succ, i64_w, i32_w]
    rfl
  refine one_ (i := 4) (N := some 13) #[true, true, true, true, true, true, true, true, true, false, true, true, true, true, false, false, false, false, false, false, false] rfl rfl (by kernel_rfl) (by decide) (fun K hK => ?_)
  refine goes_ Try.func43 (by kernel_rfl) rfl #[(.slice A d.safe.length c)] (by rfl) rfl rfl (by (try simp only [List.map_toArray, List.map_cons, List.map_nil]); first | done | rfl) ?_
  refine (cloneS_calls (.slice A d.safe.length c) d.safe.length (d.safe.map .string) S _ HV1.out.safe (by have := HO.out.2.2.2.1; omega) (one_str _)).mono ?_
  rintro e v1_ ⟨v_, rfl, hs1, hb1⟩
  obtain ⟨A2, c2_, rfl, _⟩ := hs1.shape
  refine ⟨_, rfl, ?_⟩
  have HS1 := Aside0.mk (hs1.mono (S2 := fun k => w.heap.size ≤ k) (fun k _ hk => Nat.le_trans (Nat.le_of_lt HW.out) hk)); have HV2 := Aside0.mk (HV1.out.below hb1); have HB2 := Aside0.mk (Arr.below_trans HB.out.drew hb1); have HT2 := Aside0.mk ((hb1.block w.heap.size HW.out).trans HTA.out); have HW2 := Aside0.mk (Nat.le_trans HW.out hb1.size); have NS := Aside0.mk (show ∀ k, (Value.slice A2 d.safe.length c2_).ownBlock = some k → k ≠ w.heap.size from fun k hk e => by have := hs1.mem k hk; have := HW.out; have e2 : W.drew.heap.size = W.heap.size := rfl; omega)
  refine hK _ _ ⟨pw_cell_below hb1 hHeld.1, pw_cell_below hb1 hHeld.2.1, pw_cell_below hb1 hHeld.2.2⟩ (fun hHeld => ?_)
  clear hK K hb1 hs1
  refine norm_ (a' := ?_) ?_ ?_
  rotate_left
  · show Act.put _ (some 13) _ = _
    simp only [Act.put, List.setIfInBounds_toArray, List.set_cons_zero, List.set_cons_succ, i64_w, i32_w]
    rfl
  refine one_ (i := 9) (N := some 18) #[true, true, true, true, true, true, true, true, true, true, true, true, true, true, false, false, false, false, false, false, false] rfl rfl (by kernel_rfl) (by decide) (fun K hK => ?_)
  refine goes_ Try.func44 (by kernel_rfl) rfl #[(.slice A1 d.row.length c1_)] (by rfl) rfl rfl (by (try simp only [List.map_toArray, List.map_cons, List.map_nil]); first | done | rfl) ?_
  refine (cloneW_calls (.slice A1 d.row.length c1_) d.row.length (wc d.row) S _ HV2.out.row HO.out.1 (one_wc _)).mono ?_
  rintro e v2_ ⟨v_, rfl, hs1, hb1⟩
  obtain ⟨A3, c3_, rfl, _⟩ := hs1.shape
  refine ⟨_, rfl, ?_⟩
  have HS2 := Aside0.mk (HS1.out.same fun k hk => hb1.block k (HS1.out.own.lt k hk).2); have HR2 := Aside0.mk (hs1.mono (S2 := fun k => w.heap.size ≤ k) (fun k _ hk => Nat.le_trans HB2.out.size hk)); have HV3 := Aside0.mk (HV2.out.below hb1); have HB3 := Aside0.mk (Arr.below_trans HB2.out hb1); have HT3 := Aside0.mk ((hb1.block w.heap.size HW2.out).trans HT2.out); have HW3 := Aside0.mk (Nat.le_trans HW2.out hb1.size); have NR := Aside0.mk (show ∀ k, (Value.slice A3 d.row.length c3_).ownBlock = some k → k ≠ w.heap.size from fun k hk e => by have := hs1.mem k hk; have := HW2.out; omega)
  refine hK _ _ ⟨pw_cell_below hb1 hHeld.1, pw_cell_below hb1 hHeld.2.1, pw_cell_below hb1 hHeld.2.2⟩ (fun hHeld => ?_)
  clear hK K hb1 hs1
  refine norm_ (a' := ?_) ?_ ?_
  rotate_left
  · show Act.put _ (some 18) _ = _
    simp only [Act.put, List.setIfInBounds_toArray, List.set_cons_zero, List.set_cons_succ, i64_w, i32_w]
    rfl
  refine one_ (i := 14) (N := some 23) #[true, true, true, true, true, true, true, true, true, true, true, true, true, true, true, false, false, false, false, false, false] rfl rfl (by kernel_rfl) (by decide) (fun K hK => ?_)
  refine goes_ Try.func45 (by kernel_rfl) rfl #[.map (some m)] (by rfl) rfl rfl (by (try simp only [List.map_toArray, List.map_cons, List.map_nil]); first | done | rfl) ?_
  refine (cloneM_calls m _ _ HV3.out.map).mono ?_
  rintro e v3_ ⟨rfl, hs1, hb1⟩
  refine ⟨_, rfl, ?_⟩
  have HS3 := Aside0.mk (HS2.out.same fun k hk => hb1.block k (HS2.out.own.lt k hk).2); have HR3 := Aside0.mk (HR2.out.same fun k hk => hb1.block k (HR2.out.own.lt k hk).2); have HM3 := Aside0.mk hs1; have HB4 := Aside0.mk (Arr.below_trans HB3.out hb1); have HT4 := Aside0.mk ((hb1.block w.heap.size HW3.out).trans HT3.out)
  refine hK _ _ ⟨pw_cell_below hb1 hHeld.1, pw_cell_below hb1 hHeld.2.1, pw_cell_below hb1 hHeld.2.2⟩ (fun hHeld => ?_)
  clear hK K hb1 hs1 hHeld q0 q1 q2
  refine norm_ (a' := ?_) ?_ ?_
  rotate_left
  · show Act.put _ (some 23) _ = _
    simp only [Act.put, List.setIfInBounds_toArray, List.set_cons_zero, List.set_cons_succ, i64_w, i32_w]
    rfl
  refine pure_ (i := 15) (N := some 24) (v := ?_) (a' := ?_) #[true, true, true, true, true, true, true, true, true, true, true, true, true, true, true, true, false, false, false, false, false] rfl rfl (by kernel_rfl) (fun _ _ _ h => h) (Or.inl ⟨by kernel_rfl, ?_⟩) ?_ ?_
  rotate_left
  · intro w'
    go_simp
    with_reducible rfl
  rotate_left
  · simp only [Act.put, List.setIfInBounds_toArray, List.set_cons_zero, List.set_cons_succ, i64_w, i32_w]
    rfl
  refine last_ (i := 16) (N := none) #[true, true, true, true, true, true, true, true, true, true, true, true, true, true, true, true, true, false, false, false, false] rfl rfl (by kernel_rfl) (by decide) (fun K hK => ?_)
  have cz : v3_.cell? ⟨w.heap.size, 0, none⟩ = some ((.slice A d.safe.length c)) := blk_cell (w := v3_) HT4.out 0
  have fz : v3_.frozen? ⟨w.heap.size, 0, none⟩ = false := blk_frozen (w := v3_) HT4.out _
  refine skip_ (w1 := ?_) (by kernel_rfl) rfl ?_ ?_
  rotate_left
  · go_simp
    rfl
  refine hK _ _ ?_
  clear hK K cz fz
  have HT5 := Aside0.mk (set_blk HT4.out 0 (.slice A2 d.safe.length c2_))
  refine pure_ (i := 17) (N := some 25) (v := ?_) (a' := ?_) #[true, true, true, true, true, true, true, true, true, true, true, true, true, true, true, true, true, true, false, false, false] rfl rfl (by kernel_rfl) (fun _ _ _ h => h) (Or.inl ⟨by kernel_rfl, ?_⟩) ?_ ?_
  rotate_left
  · intro w'
    go_simp
    with_reducible rfl
  rotate_left
  · simp only [Act.put, List.setIfInBounds_toArray, List.set_cons_zero, List.set_cons_succ, i64_w, i32_w]
    rfl
  refine last_ (i := 18) (N := none) #[true, true, true, true, true, true, true, true, true, true, true, true, true, true, true, true, true, true, true, false, false] rfl rfl (by kernel_rfl) (by decide) (fun K hK => ?_)
  have cz : (v3_.setCell ⟨w.heap.size, 0, none⟩ (.slice A2 d.safe.length c2_)).cell? ⟨w.heap.size, 1, none⟩ = some ((.slice A1 d.row.length c1_)) := blk_cell (w := (v3_.setCell ⟨w.heap.size, 0, none⟩ (.slice A2 d.safe.length c2_))) HT5.out 1
  have fz : (v3_.setCell ⟨w.heap.size, 0, none⟩ (.slice A2 d.safe.length c2_)).frozen? ⟨w.heap.size, 1, none⟩ = false := blk_frozen (w := (v3_.setCell ⟨w.heap.size, 0, none⟩ (.slice A2 d.safe.length c2_))) HT5.out _
  refine skip_ (w1 := ?_) (by kernel_rfl) rfl ?_ ?_
  rotate_left
  · go_simp
    rfl
  refine hK _ _ ?_
  clear hK K cz fz
  have HT6 := Aside0.mk (set_blk HT5.out 1 (.slice A3 d.row.length c3_))
  refine pure_ (i := 19) (N := some 26) (v := ?_) (a' := ?_) #[true, true, true, true, true, true, true, true, true, true, true, true, true, true, true, true, true, true, true, true, false] rfl rfl (by kernel_rfl) (fun _ _ _ h => h) (Or.inl ⟨by kernel_rfl, ?_⟩) ?_ ?_
  rotate_left
  · intro w'
    go_simp
    with_reducible rfl
  rotate_left
  · simp only [Act.put, List.setIfInBounds_toArray, List.set_cons_zero, List.set_cons_succ, i64_w, i32_w]
    rfl
  refine last_ (i := 20) (N := none) #[true, true, true, true, true, true, true, true, true, true, true, true, true, true, true, true, true, true, true, true, true] rfl rfl (by kernel_rfl) (by decide) (fun K hK => ?_)
  have cz : ((v3_.setCell ⟨w.heap.size, 0, none⟩ (.slice A2 d.safe.length c2_)).setCell ⟨w.heap.size, 1, none⟩ (.slice A3 d.row.length c3_)).cell? ⟨w.heap.size, 2, none⟩ = some (.map (some m)) := blk_cell (w := ((v3_.setCell ⟨w.heap.size, 0, none⟩ (.slice A2 d.safe.length c2_)).setCell ⟨w.heap.size, 1, none⟩ (.slice A3 d.row.length c3_))) HT6.out 2
  have fz : ((v3_.setCell ⟨w.heap.size, 0, none⟩ (.slice A2 d.safe.length c2_)).setCell ⟨w.heap.size, 1, none⟩ (.slice A3 d.row.length c3_)).frozen? ⟨w.heap.size, 2, none⟩ = false := blk_frozen (w := ((v3_.setCell ⟨w.heap.size, 0, none⟩ (.slice A2 d.safe.length c2_)).setCell ⟨w.heap.size, 1, none⟩ (.slice A3 d.row.length c3_))) HT6.out _
  refine skip_ (w1 := ?_) (by kernel_rfl) rfl ?_ ?_
  rotate_left
  · go_simp
    rfl
  refine hK _ _ ?_
  clear hK K cz fz
  refine done_ (by kernel_rfl) ?_
  simp only [Exit.inBlock, Exit.then]
  go_wp2
  go_ret
  have ne7 : ∀ k, k ≠ w.heap.size → ∀ (V : World) (a b e : Value), (((V.setCell ⟨w.heap.size, 0, none⟩ a).setCell ⟨w.heap.size, 1, none⟩ b).setCell ⟨w.heap.size, 2, none⟩ e).heap[k]? = V.heap[k]? := fun k hk V a b e =>
    ((Below.heap_setCell _ ⟨w.heap.size, 2, none⟩ e k hk).trans (Below.heap_setCell _ ⟨w.heap.size, 1, none⟩ b k hk)).trans (Below.heap_setCell _ ⟨w.heap.size, 0, none⟩ a k hk)
  refine ⟨w.heap.size, Nat.le_refl _, rfl, ⟨_, _, _, set_blk HT6.out 2 _, ?_, ?_, ?_, Nat.le_refl _, ?_⟩, ?_⟩
  · exact HS3.out.same fun k hk => ne7 k (NS.out k hk) _ _ _ _
  · exact HR3.out.same fun k hk => ne7 k (NR.out k hk) _ _ _ _
  · refine HM3.out.same (ne7 _ ?_ _ _ _ _)
    have := HW3.out
    omega
  · have := HW3.out
    show w.heap.size ≤ _
    omega
  · exact ((HB4.out.setCell (p := ⟨w.heap.size, 0, none⟩) (Nat.le_refl _) _).setCell (p := ⟨w.heap.size, 1, none⟩) (Nat.le_refl _) _).setCell (p := ⟨w.heap.size, 2, none⟩) (Nat.le_refl _) _
end Go.Proofs.Ytbdfdfahpdilpaa.Dk

/-! Several things at once: each block has a colour; a call on one thing turns blocks of its colour alone. -/
namespace Go.Proofs.Ytbdfdfahpdilpaa.Dk
open Go Go.RowKit Go.ChangeMaps Go.Proofs.Ytbdfdfahpdilpaa.Arr Go.Proofs.Ytbdfdfahpdilpaa.Mp Go.Proofs.Ytbdfdfahpdilpaa.Ow
set_option linter.unusedVariables false
set_option linter.unusedSimpArgs false
def Col (c : Nat → Nat) (x : Nat) : Nat → Prop := fun k => c k = x
/-- From block n on all is of colour x. -/
def paint (c : Nat → Nat) (n x : Nat) : Nat → Nat := fun k => if k < n then c k else x
/-- What lay there ahead has colour 0. -/
def Olds (c : Nat → Nat) (B : Nat) : Prop := ∀ k, k < B → c k = 0
theorem paint_old {c : Nat → Nat} {n x k : Nat} (h : k < n) : paint c n x k = c k := by unfold paint; rw [if_pos h]
theorem paint_new {c : Nat → Nat} {n x k : Nat} (h : n ≤ k) : paint c n x k = x := by unfold paint; rw [if_neg (by omega)]
theorem top_paint (c : Nat → Nat) (w : World) (x : Nat) : Top (Col (paint c w.heap.size x) x) w := fun _ h => paint_new h
theorem Olds.paint {c : Nat → Nat} {B n : Nat} (h : Olds c B) (x : Nat) (hB : B ≤ n) : Olds (paint c n x) B := fun k hk => (paint_old (by omega)).trans (h k hk)
theorem olds_paint0 (B : Nat) (n x : Nat) (hB : B ≤ n) : Olds (Dk.paint (fun _ => 0) n x) B := fun k hk => paint_old (by omega)
theorem FS.base {c : Nat → Nat} {x B : Nat} {w w' : World} (hf : FS (Col (Dk.paint c w.heap.size x) x) w w') (ho : Olds c B) (hx : x ≠ 0) : FS (fun k => B ≤ k) w w' := hf.mono fun k hk e => by
  show B ≤ k
  have e2 : c k = x := (paint_old hk).symm.trans e
  rcases Nat.lt_or_ge k B with h | h
  · exact absurd (e2.symm.trans (ho k h)) hx
  · exact h
section
variable {c : Nat → Nat} {w w' : World} {x y g : Nat} {d : DS}
theorem DK.paint (h : DK w (Col c y) g d) (x : Nat) : DK w (Col (Dk.paint c w.heap.size x) y) g d := h.mono fun k hk e => (paint_old hk).trans e
theorem DK.apart (h : DK w (Col c y) g d) (hf : FS (Col (Dk.paint c w.heap.size x) x) w w') (hne : x ≠ y) : DK w' (Col (Dk.paint c w.heap.size x) y) g d :=
  (h.paint x).kept hf fun k hk e => hne (e.symm.trans hk)
theorem DK.fresh {n : Nat} (h : DK w' (fun k => n ≤ k) g d) (c : Nat → Nat) (x : Nat) : DK w' (Col (Dk.paint c n x) x) g d := h.mono fun k _ hk => paint_new hk
theorem Olds.fresh {n B : Nat} (hc : Olds c B) (h : DK w' (fun k => n ≤ k) g d) (x : Nat) : DK w' (Col (Dk.paint c n x) x) g d := h.fresh c x
theorem Ow.paint {e : TypeId} {sz : Nat} {v : Value} {n : Nat} {xs : List Value} (h : Ow w (Col c y) e sz v n xs) (x : Nat) : Ow w (Col (Dk.paint c w.heap.size x) y) e sz v n xs := h.mono fun k hk e => (paint_old hk).trans e
theorem Ow.apart {e : TypeId} {sz : Nat} {v : Value} {n : Nat} {xs : List Value} (h : Ow w (Col c y) e sz v n xs) (hf : FS (Col (Dk.paint c w.heap.size x) x) w w') (hne : x ≠ y) : Ow w' (Col (Dk.paint c w.heap.size x) y) e sz v n xs :=
  (Ow.paint h x).kept hf fun k hk e => hne (e.symm.trans hk)
/-- A block of another colour. -/
theorem blk_apart {b : Nat} {o : Obj} (h : w.heap[b]? = some o) (hc : c b = y) (hf : FS (Col (Dk.paint c w.heap.size x) x) w w') (hne : x ≠ y) : w'.heap[b]? = some o ∧ Dk.paint c w.heap.size x b = y := by
  have hl : b < w.heap.size := by
    rcases Nat.lt_or_ge b w.heap.size with h1 | h1
    · exact h1
    · simp [Array.getElem?_eq_none h1] at h
  exact ⟨hf.old h fun e => hne (e.symm.trans ((paint_old hl).trans hc)), (paint_old hl).trans hc⟩
end
end Go.Proofs.Ytbdfdfahpdilpaa.Dk

/-! Arrays of eight, and eight rows of strings. -/
namespace Go.Proofs.Ytbdfdfahpdilpaa.Dk
open Go Go.RowKit Go.ChangeMaps Go.Proofs.Ytbdfdfahpdilpaa.Arr Go.Proofs.Ytbdfdfahpdilpaa.Mp Go.Proofs.Ytbdfdfahpdilpaa.Ow Go.Proofs.YtbdfdfahpdilpaaW.PrintWords Go.Proofs.YtbdfdfahpdilpaaW.PrintLast Go.Proofs.YtbdfdfahpdilpaaW.PrintMore
set_option linter.unusedVariables false
set_option linter.unusedSimpArgs false
def arrN (n : Nat) (f : Nat → Value) : Array Value := ((List.range n).map f).toArray
theorem arrN_get {n : Nat} {f : Nat → Value} {i : Nat} (h : i < n) : (arrN n f)[i]? = some (f i) := by
  unfold arrN
  simp [h]
theorem arrN_set {n : Nat} {f : Nat → Value} {i : Nat} (v : Value) : (arrN n f).setIfInBounds i v = arrN n (fun j => if j = i then v else f j) := by
  unfold arrN
  apply Array.toList_inj.1
  apply List.ext_getElem?
  intro j
  simp only [Array.toList_setIfInBounds, List.getElem?_set, List.getElem?_map, List.length_map, List.length_range]
  by_cases e : i = j
  · subst e
    by_cases h : i < n
    · simp [h]
    · simp [h]
  · have e2 : ¬ j = i := fun h => e h.symm
    simp only [if_neg e]
    cases h : (List.range n)[j]? with
    | none => rfl
    | some x =>
      have hx : x = j := by
        rw [List.getElem?_eq_some_iff] at h
        obtain ⟨_, h⟩ := h
        simpa using h.symm
      subst hx
      simp [e2]
section
variable {c : Nat → Nat} {w w' : World} {x y g : Nat} {d : DS}
/-- A store into a block of another colour. -/
theorem DK.stored (h : DK w (Col c y) g d) {b : Nat} (hb : c b = x) (hne : x ≠ y) (i : Nat) (v : Value) : DK (w.setCell ⟨b, i, none⟩ v) (Col c y) g d :=
  h.kept ((FS.refl (Col c x) w).setCell (p := ⟨b, i, none⟩) (.inl hb) v) fun k hk e => hne (e.symm.trans hk)
theorem Ow.stored {e : TypeId} {sz : Nat} {v : Value} {n : Nat} {xs : List Value} (h : Ow w (Col c y) e sz v n xs) {b : Nat} (hb : c b = x) (hne : x ≠ y) (i : Nat) (u : Value) : Ow (w.setCell ⟨b, i, none⟩ u) (Col c y) e sz v n xs :=
  h.kept ((FS.refl (Col c x) w).setCell (p := ⟨b, i, none⟩) (.inl hb) u) fun k hk e => hne (e.symm.trans hk)
theorem blk_stored {b b' : Nat} {o : Obj} (h : w.heap[b]? = some o) (hne : b ≠ b') (i : Nat) (u : Value) : (w.setCell ⟨b', i, none⟩ u).heap[b]? = some o := (Below.heap_setCell w ⟨b', i, none⟩ u b hne).trans h
theorem set_arr {n : Nat} {b : Nat} {f : Nat → Value} {t : TypeId} {fr : Nat × Nat} (h : w.heap[b]? = some (.cells (arrN n f) t fr)) (i : Nat) (u : Value) : (w.setCell ⟨b, i, none⟩ u).heap[b]? = some (.cells (arrN n (fun j => if j = i then u else f j)) t fr) := by
  simp only [World.setCell]
  rw [Array.getElem?_modify, if_pos rfl, h, ← arrN_set]
  rfl
/-- Block mb: n rows of strings, row i of colour 3 + i. -/
structure Rows8 (w : World) (c : Nat → Nat) (T : TypeId) (n mb : Nat) (vs : Nat → Value) (xs : Nat → List ByteArray) : Prop where
  blk : w.heap[mb]? = some (.cells (arrN n vs) T (0, 0))
  col : c mb = 2
  row : ∀ i, i < n → Ow w (Col c (3 + i)) TS 1 (vs i) (xs i).length ((xs i).map .string)
theorem Rows8.below {T n mb : Nat} {vs : Nat → Value} {xs : Nat → List ByteArray} (h : Rows8 w c T n mb vs xs) (hb : Below w.heap.size w w') : Rows8 w' c T n mb vs xs :=
  ⟨blk_below h.blk hb, h.col, fun i hi => (h.row i hi).same fun k hk => hb.block k ((h.row i hi).own.lt k hk).2⟩
theorem Rows8.lt {T n mb : Nat} {vs : Nat → Value} {xs : Nat → List ByteArray} (h : Rows8 w c T n mb vs xs) : mb < w.heap.size := blk_lt h.blk
theorem Rows8.paint {T n mb : Nat} {vs : Nat → Value} {xs : Nat → List ByteArray} (h : Rows8 w c T n mb vs xs) (x : Nat) : Rows8 w (Dk.paint c w.heap.size x) T n mb vs xs :=
  ⟨h.blk, (paint_old h.lt).trans h.col, fun i hi => Ow.paint (h.row i hi) x⟩
theorem Rows8.apart {T n mb : Nat} {vs : Nat → Value} {xs : Nat → List ByteArray} (h : Rows8 w c T n mb vs xs) (hf : FS (Col (Dk.paint c w.heap.size x) x) w w') (hx : x < 2) : Rows8 w' (Dk.paint c w.heap.size x) T n mb vs xs :=
  ⟨(blk_apart h.blk h.col hf (by omega)).1, (blk_apart h.blk h.col hf (by omega)).2, fun i hi => Ow.apart (h.row i hi) hf (by omega)⟩
theorem Rows8.stored {T n mb : Nat} {vs : Nat → Value} {xs : Nat → List ByteArray} (h : Rows8 w c T n mb vs xs) {b : Nat} (hb : c b = 2) (hne : b ≠ mb) (i : Nat) (u : Value) : Rows8 (w.setCell ⟨b, i, none⟩ u) c T n mb vs xs :=
  ⟨blk_stored h.blk (fun e => hne e.symm) i u, h.col, fun j hj => Ow.stored (h.row j hj) hb (by omega) i u⟩
/-- Two strings more in row i. -/
theorem Rows8.push {T n mb : Nat} {vs : Nat → Value} {xs : Nat → List ByteArray} (h : Rows8 w c T n mb vs xs) (i : Nat) (hi : i < n) (hl : (xs i).length ≤ 1000000) (s1 s2 : ByteArray) {nb : Nat} (hnb : w.heap[nb]? = some (.cells #[.string s1, .string s2] TS (0, 0))) (ty : TypeId) :
    ∃ v' w', (Builtin.append_ #[37, 37] ty #[vs i, .slice (some ⟨nb, 0, none⟩) 2 2]).run Try.prog w = .ok v' w' ∧ FS (Col (Dk.paint c w.heap.size (3 + i)) (3 + i)) w w' ∧ (∃ g' n' c', v' = .slice (some ⟨g', 0, none⟩) n' c') ∧ w'.heap[mb]? = some (.cells (arrN n vs) T (0, 0)) ∧
      Rows8 (w'.setCell ⟨mb, i, none⟩ v') (Dk.paint c w.heap.size (3 + i)) T n mb (fun j => if j = i then v' else vs j) (fun j => if j = i then xs i ++ [s1, s2] else xs j) := by
  obtain ⟨i0, hi0, h2⟩ := Option.map_eq_some_iff.1 infoS
  have hz : i0.zero = some (.string ⟨#[]⟩) := congrArg Prod.fst h2
  have hs : i0.size = 1 := congrArg (fun p => p.2.1) h2
  have hb : i0.bytes = 16 := congrArg (fun p => p.2.2) h2
  obtain ⟨v', w', hr, ho, hg, _, g', c', hv⟩ := run_append_ow (P := Try.prog) (ty := ty) 37 TS i0 _ 1 16 (by kernel_rfl) hi0 hz hs hb rfl (by decide) (vs i) (xs i).length _ (Ow.paint (h.row i hi) (3 + i)) ⟨nb, 0, none⟩ 2 2 [.string s1, .string s2] rfl (fun j u hj => by
    match j with
    | 0 => exact (blk_cell hnb 0).trans (by simpa using hj)
    | 1 => exact (blk_cell hnb 1).trans (by simpa using hj)
    | j + 2 => simp at hj) (fun u hu => by
    rcases List.mem_cons.1 hu with rfl | hu
    · rfl
    · rcases List.mem_cons.1 hu with rfl | hu
      · rfl
      · cases hu) (by simp only [maxLen]; omega) (by omega) (by decide)
  have hf : FS (Col (Dk.paint c w.heap.size (3 + i)) (3 + i)) w w' := (FS.refl _ w).grown hg (fun k hk => .inl ((Ow.paint (h.row i hi) (3 + i)).mem k hk))
  have hm := blk_apart h.blk h.col hf (by omega)
  refine ⟨v', w', hr, hf, ⟨g', _, c', hv⟩, hm.1, set_arr hm.1 i v', hm.2, fun j hj => ?_⟩
  by_cases e : j = i
  · subst e
    simp only [if_pos rfl]
    have h3 : Ow w' (Col (Dk.paint c w.heap.size (3 + j)) (3 + j)) TS 1 v' (xs j ++ [s1, s2]).length ((xs j ++ [s1, s2]).map .string) := by
      rw [List.length_append, List.map_append]
      exact ho.mono fun k _ hk => hk.elim id (fun e => by subst e; exact paint_new (Nat.le_refl _))
    exact Ow.stored h3 hm.2 (by omega) j v'
  · simp only [if_neg e]
    exact Ow.stored (Ow.apart (h.row j hj) hf (by omega)) hm.2 (by omega) i v'
end
/-- 'append' in a region that draws, its run known. -/
theorem ap_ {P : Program} {ops : Array Oper} {Q : Exit → Act → World → Prop} {oi : Oper} {N : Option Tmp} {a : Act} {w w1 : World} {v : Value} {K : Act → World → Prop} (s x : Operand) (t : TypeId) (hw : Region.wanted oi (yielded ops a.tmps) = true) (hN : oi.dst = N)
    (ho : oi.op = .call { callee := .builtin .append, args := #[s, x], argTypes := #[t, t] }) (v1 v2 : Value) (hs : a.eval s = v1) (hx : a.eval x = v2) (hr : (Builtin.append_ #[t, t] oi.type #[v1, v2]).run P w = .ok v w1)
    (h : K (a.put N v) w1) : if Region.wanted oi (yielded ops a.tmps) = true then Oper.wp P oi a w K Q else K (a.put N undef) w := by
  refine value_ hw hN ?_ h
  unfold execOp
  simp only [ho, resolve, invoke, builtin, Sem.run_bind, Sem.run_pure, Result.andThen_ok, List.map_toArray, List.map_cons, List.map_nil, hs, hx, hr]
end Go.Proofs.Ytbdfdfahpdilpaa.Dk

/-! Layer 3: Lose. -/
namespace Go.Proofs.Ytbdfdfahpdilpaa.Dk
open Go Go.RowKit Go.ChangeMaps Go.Proofs.Ytbdfdfahpdilpaa.Arr Go.Proofs.Ytbdfdfahpdilpaa.Mp Go.Proofs.Ytbdfdfahpdilpaa.Ow Go.Proofs.YtbdfdfahpdilpaaW.PrintWords Go.Proofs.YtbdfdfahpdilpaaW.PrintLast Go.Proofs.YtbdfdfahpdilpaaW.PrintMore
set_option linter.unusedVariables false
set_option linter.unusedSimpArgs false
theorem setCells_blk {b : Nat} {t : TypeId} {fr : Nat × Nat} : ∀ (vs : List Value) (o : Nat) (w : World) (cs : Array Value), w.heap[b]? = some (.cells cs t fr) → ∃ cs', (w.setCells b o vs).heap[b]? = some (.cells cs' t fr) ∧ cs'.size = cs.size ∧ cs'.toList.take o = cs.toList.take o
  | [], o, w, cs, h => ⟨cs, h, rfl, rfl⟩
  | v :: r, o, w, cs, h => by
    obtain ⟨cs', h1, h2, h3⟩ := setCells_blk r (o + 1) (w.setCell ⟨b, o, none⟩ v) _ (set_blk h o v)
    refine ⟨cs', h1, by rw [h2]; simp, ?_⟩
    have e : cs'.toList.take o = (cs'.toList.take (o + 1)).take o := by rw [List.take_take, Nat.min_eq_left (by omega)]
    rw [e, h3, List.take_take, Nat.min_eq_left (by omega), Array.toList_setIfInBounds, List.take_set_of_le (Nat.le_refl _)]
theorem setCells_fs {b : Nat} : ∀ (vs : List Value) (o : Nat) (w : World), FS (fun k => k = b) w (w.setCells b o vs)
  | [], o, w => FS.refl _ _
  | v :: r, o, w => ((FS.refl (fun k => k = b) w).setCell (p := ⟨b, o, none⟩) (.inl rfl) v).trans (setCells_fs r (o + 1) _)
/-- The first one that is of that sector, or -1. -/
def ixOf : List (Int × ByteArray) → Int → Int → Int
  | [], i, _ => -1
  | p :: r, i, k => if p.1 = i then k else ixOf r i (k + 1)
theorem ix_miss {row : List (Int × ByteArray)} {i k : Int} (h : ∀ p ∈ row, p.1 ≠ i) : ixOf row i k = -1 := by
  induction row generalizing k with
  | nil => rfl
  | cons p r ih =>
    unfold ixOf
    rw [if_neg (h p List.mem_cons_self)]
    exact ih fun q hq => h q (List.mem_cons_of_mem _ hq)
theorem ix_hit {row : List (Int × ByteArray)} {i k : Int} (j : Nat) {p : Int × ByteArray} (hj : row[j]? = some p) (hp : p.1 = i) (h : ∀ m, m < j → ∀ q, row[m]? = some q → q.1 ≠ i) : ixOf row i k = k + j := by
  induction row generalizing k j with
  | nil => simp at hj
  | cons q r ih =>
    unfold ixOf
    cases j with
    | zero =>
      simp at hj
      subst hj
      rw [if_pos hp]
      simp
    | succ j =>
      rw [if_neg (h 0 (by omega) q rfl), ih j (by simpa using hj) (fun m hm u hu => h (m + 1) (by omega) u (by simpa using hu))]
      omega
set_option maxHeartbeats 1000000 in
theorem pred_calls (k : Int) (s : ByteArray) (i : Int) (b : Nat) (t : TypeId) (w : World) (h : w.heap[b]? = some (.cells #[.int .i64 i] t (0, 0))) : Calls Try.prog 49 #[.agg #[.int .i64 k, .string s], .pointer (some ⟨b, 0, none⟩)] w fun e w' => e = .returned (.bool (k == i)) ∧ Below w.heap.size w w' := by
  have hc := blk_cell (blk_below h ((Below.refl w.heap.size w).alloc (Nat.le_refl _) (.cells #[.int .i64 k, .string s] TW))) 0
  replace hc : (w.alloc (.cells #[.int .i64 k, .string s] TW)).cell? ⟨b, 0, none⟩ = some (.int .i64 i) := hc
  clear h
  go_enter Try.func49, Try.ntmps49
  go_wp2
  go_ret
  exact ⟨rfl, (Below.refl _ _).alloc (Nat.le_refl _) _⟩
theorem wc_elem {w : World} {S : Nat → Prop} {A : Option Addr} {c n : Nat} {row : List (Int × ByteArray)} (h : Ow w S TW 2 (.slice A n c) n (wc row)) {j : Nat} {k : Int} {s : ByteArray} (hj : row[j]? = some (k, s)) (hn : j < n) : ∃ rb, A = some ⟨rb, 0, none⟩ ∧ S rb ∧ w.cell? ⟨rb, j * 2, none⟩ = some (.int .i64 k) ∧ w.cell? ⟨rb, j * 2 + 1, none⟩ = some (.string s) ∧ w.frozen? ⟨rb, j * 2, none⟩ = false ∧ w.frozen? ⟨rb, j * 2 + 1, none⟩ = false := by
  obtain ⟨rb, rc, cur, hrv, hrS, hrb, hrl, hrm, hrs, hrt⟩ := h.open (by omega)
  injection hrv with hA1 _ _
  have hw2 := wc_get row j k s hj
  exact ⟨rb, hA1, hrS, cell_of hrb hrt hw2.1, cell_of hrb hrt hw2.2, blk_frozen hrb _, blk_frozen hrb _⟩
set_option maxHeartbeats 4000000 in
set_option maxRecDepth 20000 in
theorem index_calls (rv : Value) (row : List (Int × ByteArray)) (S : Nat → Prop) (i : Int) (b : Nat) (w : World) (hr : Ow w S TW 2 rv row.length (wc row)) (hl : row.length ≤ 1000000) (hb : w.heap[b]? = some (.cells #[.int .i64 i] 3 (0, 0))) : Calls Try.prog 56 #[rv, .func (.func 49) #[] #[.pointer (some ⟨b, 0, none⟩)]] w fun e w' => e = .returned (.int .i64 (ixOf row i 0)) ∧ Below w.heap.size w w' := by
  obtain ⟨A, c, rfl, -⟩ := hr.shape
  have eg : ∀ args w, (callFunc 49 args).run Try.prog w = .ok (.enter 49 args) w := fun args w => enters_ Try.func49 (by kernel_rfl) rfl args w
  have HR := Aside0.mk hr; have HB := Aside0.mk hb; have HL := Aside0.mk hl
  have hln : (row.length : Int) ≤ 1000000 := by omega
  clear hr hb hl
  go_enter Try.func56, Try.ntmps56
  go_upto_region 2 with (fail)
  go_loopw [8] (fun v wr => ∃ k : Nat, v = .int .i64 k ∧ Aside0 (k ≤ row.length) ∧ Aside0 (Below w.heap.size w wr) ∧ Aside0 (∀ m, m < k → ∀ q, row[m]? = some q → q.1 ≠ i)) (fun v _ => row.length - (intOf v).toNat)
  case atStart => exact ⟨0, rfl, ⟨Nat.zero_le _⟩, ⟨Below.refl _ _⟩, ⟨fun m hm => absurd hm (Nat.not_lt_zero _)⟩⟩
  case round =>
    obtain ⟨k, rfl, K, F, HM⟩ := hrel
    by_cases hlt : k < row.length
    · have h1 : (k : Int) < (row.length : Int) := by omega
      have hwk : wrap64 ((k : Int) + 1) = ((k + 1 : Nat) : Int) := by unfold wrap64; omega
      obtain ⟨q, hq⟩ : ∃ q, row[k]? = some q := ⟨_, List.getElem?_eq_getElem hlt⟩
      obtain ⟨x, s⟩ := q
      have HRW := Aside0.mk (HR.out.same (fun m hm => F.out.block m (HR.out.own.lt m hm).2))
      obtain ⟨rb, rfl, -, r0, r1, -, -⟩ := wc_elem HRW.out hq hlt
      have HBW := Aside0.mk (blk_below HB.out F.out)
      have HQ := Aside0.mk hq; have HLT := Aside0.mk hlt
      clear hq hlt
      by_cases hx : x = i
      · have hbq : (x == i) = true := by simp [hx]
        have HX := Aside0.mk hx; clear hx
        go_wp2_with (go_at_fn 49; (with_reducible refine (pred_calls _ _ _ _ _ _ HBW.out).mono ?_); rintro e w1 ⟨rfl, hb1⟩; have F1 := Aside0.mk (Arr.below_trans F.out hb1); clear F hb1; have F := F1; clear F1)
        go_ret
        exact ⟨by rw [ix_hit k HQ.out HX.out HM.out, Int.zero_add]; rfl, F.out⟩
      · have hbq : (x == i) = false := by simp [hx]
        have HX := Aside0.mk hx; clear hx
        go_wp2_with (go_at_fn 49; (with_reducible refine (pred_calls _ _ _ _ _ _ HBW.out).mono ?_); rintro e w1 ⟨rfl, hb1⟩; have F1 := Aside0.mk (Arr.below_trans F.out hb1); clear F hb1; have F := F1; clear F1)
        go_roundw
        case rel =>
          refine ⟨k + 1, by first | rw [hwk] | go_num, ⟨HLT.out⟩, F, ⟨fun m hm u hu => ?_⟩⟩
          rcases Nat.lt_succ_iff_lt_or_eq.1 hm with h | h
          · exact HM.out m h u hu
          · subst h
            rw [HQ.out] at hu
            injection hu with hu
            subst hu
            exact HX.out
        case measure =>
          try rw [hwk]
          have := HLT.out
          simp [intOf]; omega
    · obtain rfl : k = row.length := by have := K.out; omega
      clear hlt
      go_wp2
      go_ret
      refine ⟨?_, F.out⟩
      rw [ix_miss fun p hp => ?_]
      · rfl
      · obtain ⟨m, hm, rfl⟩ := List.getElem_of_mem hp
        exact HM.out m hm _ (List.getElem?_eq_getElem hm)
theorem ix_cases (row : List (Int × ByteArray)) (i : Int) : (∀ p ∈ row, p.1 ≠ i) ∨ ∃ (j : Nat) (p : Int × ByteArray), row[j]? = some p ∧ p.1 = i ∧ ∀ m, m < j → ∀ q, row[m]? = some q → q.1 ≠ i := by
  induction row with
  | nil => exact .inl fun p hp => by cases hp
  | cons q r ih =>
    by_cases h : q.1 = i
    · exact .inr ⟨0, q, rfl, h, fun m hm => absurd hm (Nat.not_lt_zero _)⟩
    · rcases ih with h1 | ⟨j, p, h1, h2, h3⟩
      · left
        intro p hp
        rcases List.mem_cons.1 hp with rfl | hp
        · exact h
        · exact h1 p hp
      · refine .inr ⟨j + 1, p, by rw [List.getElem?_cons_succ]; exact h1, h2, fun m hm u hu => ?_⟩
        cases m with
        | zero => simp at hu; subst hu; exact h
        | succ m => exact h3 m (by omega) u (by simpa using hu)
def kp (i : Int) (p : Int × ByteArray) : Bool := !(p.1 == i)
theorem filter_none {row : List (Int × ByteArray)} {i : Int} (h : ∀ p ∈ row, p.1 ≠ i) : row.filter (kp i) = row := List.filter_eq_self.2 fun p hp => by unfold kp; simp [h p hp]
theorem filter_first {row : List (Int × ByteArray)} {i : Int} {j : Nat} {p : Int × ByteArray} (hj : row[j]? = some p) (hp : p.1 = i) (h : ∀ m, m < j → ∀ q, row[m]? = some q → q.1 ≠ i) : (row.take (j + 1)).filter (kp i) = row.take j := by
  have hl : j < row.length := by
    rcases Nat.lt_or_ge j row.length with h1 | h1
    · exact h1
    · rw [List.getElem?_eq_none h1] at hj; cases hj
  have e : row[j] = p := by rw [List.getElem?_eq_getElem hl] at hj; injection hj
  rw [List.take_succ_eq_append_getElem hl, List.filter_append, filter_none, e]
  · simp [kp, hp]
  · intro q hq
    obtain ⟨m, hm, rfl⟩ := List.getElem_of_mem hq
    rw [List.length_take] at hm
    rw [List.getElem_take]
    exact h m (by omega) _ (List.getElem?_eq_getElem _)
theorem filter_succ {row : List (Int × ByteArray)} {i : Int} {j : Nat} {p : Int × ByteArray} (hj : row[j]? = some p) : (row.take (j + 1)).filter (kp i) = (row.take j).filter (kp i) ++ if kp i p = true then [p] else [] := by
  have hl : j < row.length := by
    rcases Nat.lt_or_ge j row.length with h1 | h1
    · exact h1
    · rw [List.getElem?_eq_none h1] at hj; cases hj
  have e : row[j] = p := by rw [List.getElem?_eq_getElem hl] at hj; injection hj
  rw [List.take_succ_eq_append_getElem hl, List.filter_append, e]
  by_cases h : kp i p = true
  · simp [h]
  · simp [h]
theorem wc_set (cur : List (Int × ByteArray)) (a : Nat) (k : Int) (s : ByteArray) : ((wc cur).set (a * 2) (.int .i64 k)).set (a * 2 + 1) (.string s) = wc (cur.set a (k, s)) := by
  induction cur generalizing a with
  | nil => simp [wc]
  | cons p r ih =>
    have e : wc (p :: r) = .int .i64 p.1 :: .string p.2 :: wc r := by simp [wc]
    cases a with
    | zero => rw [e]; simp [wc]
    | succ a =>
      rw [e, show (a + 1) * 2 = a * 2 + 1 + 1 by omega]
      simp only [List.set_cons_succ]
      rw [ih a]
      simp [wc]
theorem wc_take (cur : List (Int × ByteArray)) (a : Nat) : (wc cur).take (a * 2) = wc (cur.take a) := by
  induction cur generalizing a with
  | nil => simp [wc]
  | cons p r ih =>
    have e : wc (p :: r) = .int .i64 p.1 :: .string p.2 :: wc r := by simp [wc]
    cases a with
    | zero => simp [wc]
    | succ a =>
      rw [e, show (a + 1) * 2 = a * 2 + 1 + 1 by omega, List.take_succ_cons, List.take_succ_cons, ih a, List.take_succ_cons]
      simp [wc]
def zs2 (m : Nat) : List Value := (Builtin.zeroCells #[.int .i64 0, .string ⟨#[]⟩] m).toList
theorem run_clear2 (w : World) (ty : TypeId) (b o n c : Nat) (hn : 0 < n) (hc : ∀ j, j < n * 2 → (w.cell? ⟨b, o + j, none⟩).isSome = true) (hf : ∀ j, j < n * 2 → w.frozen? ⟨b, o + j, none⟩ = false) :
    (Builtin.clear_ #[79] ty #[.slice (some ⟨b, o, none⟩) n c]).run Try.prog w = .ok (.tuple #[]) (w.setCells b o (zs2 n)) := by
  have hv : ∀ w, (zeroValue TW).run Try.prog w = .ok (.agg #[.int .i64 0, .string ⟨#[]⟩]) w := fun w => by kernel_rfl
  have hl : (zs2 n).length = n * 2 := by simp [zs2, Builtin.zeroCells]
  have h1 : ∀ v ∈ zs2 n, v.oneCell' = true := fun v hv => by
    unfold zs2 Builtin.zeroCells at hv
    simp only [Array.toList_map, List.mem_map] at hv
    obtain ⟨j, _, rfl⟩ := hv
    have : j % 2 = 0 ∨ j % 2 = 1 := by omega
    rcases this with e | e
    · show (#[Value.int .i64 0, Value.string ⟨#[]⟩][j % 2]!).oneCell' = true
      rw [e]; rfl
    · show (#[Value.int .i64 0, Value.string ⟨#[]⟩][j % 2]!).oneCell' = true
      rw [e]; rfl
  have hst := run_storeCells_cells (P := Try.prog) b o (zs2 n) 0 w (by rw [hl]; simpa using hc) (by rw [hl]; simpa using hf) h1
  simp only [Nat.add_zero] at hst
  obtain ⟨m, rfl⟩ : ∃ m, n = m + 1 := ⟨n - 1, by omega⟩
  unfold zs2 at hst ⊢
  have hu : Try.prog.underlying 79 = some (.slice TW) := by kernel_rfl
  simp [Builtin.clear_, run_underlying hu, hv, Value.cells, hst]
set_option maxHeartbeats 8000000 in
set_option maxRecDepth 20000 in
theorem delete_calls (rv : Value) (row : List (Int × ByteArray)) (S : Nat → Prop) (i : Int) (b : Nat) (w : World) (hr : Ow w S TW 2 rv row.length (wc row)) (hl : row.length ≤ 1000000) (hb : w.heap[b]? = some (.cells #[.int .i64 i] 3 (0, 0))) : Calls Try.prog 48 #[rv, .func (.func 49) #[] #[.pointer (some ⟨b, 0, none⟩)]] w fun e w' => ∃ rv', e = .returned rv' ∧ Ow w' S TW 2 rv' (row.filter (kp i)).length (wc (row.filter (kp i))) ∧ FS (fun k => rv.ownBlock = some k) w w' ∧ rv'.ownBlock = rv.ownBlock := by
  obtain ⟨A, c, rfl, -⟩ := hr.shape
  have eg : ∀ args w, (callFunc 49 args).run Try.prog w = .ok (.enter 49 args) w := fun args w => enters_ Try.func49 (by kernel_rfl) rfl args w
  have HR := Aside0.mk hr; have HB := Aside0.mk hb; have HL := Aside0.mk hl
  have hln : (row.length : Int) ≤ 1000000 := by omega
  clear hr hb hl
  rcases ix_cases row i with h | ⟨j0, p0, h1, h2, h3⟩
  · have hix := ix_miss (k := 0) h
    rw [filter_none h]
    clear h
    go_enter Try.func48, Try.ntmps48
    go_wp2_with (go_at_call 56; (with_reducible refine (index_calls _ _ _ _ _ _ HR.out HL.out HB.out).mono ?_); rintro e w1 ⟨rfl, hb1⟩; have F := Aside0.mk hb1; clear hb1)
    go_ret
    exact ⟨_, rfl, HR.out.same (fun m hm => F.out.block m (HR.out.own.lt m hm).2), (FS.refl _ _).below F.out, rfl⟩
  · have hix := ix_hit (k := 0) j0 h1 h2 h3
    have hjl : j0 < row.length := by
      rcases Nat.lt_or_ge j0 row.length with hh | hh
      · exact hh
      · rw [List.getElem?_eq_none hh] at h1; cases h1
    have HF := Aside0.mk (filter_first h1 h2 h3)
    have HJ := Aside0.mk hjl
    obtain ⟨rb, rfl, hrS, -, -, -, -⟩ := wc_elem HR.out h1 hjl
    have HS := Aside0.mk hrS
    have hnb : ((j0 : Int) == -1) = false := by simp
    rw [Int.zero_add] at hix
    have hwj : wrap64 ((j0 : Int) + 1) = ((j0 + 1 : Nat) : Int) := by unfold wrap64; omega
    clear h1 h2 h3 hjl hrS p0
    go_enter Try.func48, Try.ntmps48
    go_upto_region 5 with (go_at_call 56; (with_reducible refine (index_calls _ _ _ _ _ _ HR.out HL.out HB.out).mono ?_); rintro e w1 ⟨rfl, hb1⟩; have F := Aside0.mk hb1; clear hb1)
    (try simp only [hwj])
    have HB1 := Aside0.mk (blk_below HB.out F.out)
    have HR1 := Aside0.mk (HR.out.same (fun m hm => F.out.block m (HR.out.own.lt m hm).2))
    go_loopw [5, 6] (fun av jv wr => ∃ (a j : Nat) (cur : List (Int × ByteArray)), jv = .int .i64 j ∧ av = .int .i64 a ∧ Aside0 (a < j ∧ j ≤ row.length) ∧ Aside0 (cur.length = row.length) ∧ Aside0 (Ow wr S TW 2 (.slice (some ⟨rb, 0, none⟩) row.length c) row.length (wc cur)) ∧ Aside0 (cur.take a = (row.take j).filter (kp i)) ∧ Aside0 (cur.drop j = row.drop j) ∧ Aside0 (FS (fun k => k = rb) w wr) ∧ Aside0 (wr.heap[b]? = some (.cells #[.int .i64 i] 3 (0, 0)))) (fun _ jv _ => row.length - (intOf jv).toNat)
    case atStart => exact ⟨j0, j0 + 1, row, by first | rfl | go_num, rfl, ⟨by have := HJ.out; omega⟩, ⟨rfl⟩, HR1, ⟨HF.out.symm⟩, ⟨rfl⟩, ⟨(FS.refl _ _).below F.out⟩, HB1⟩
    case round =>
      clear hix hnb HB1 HR1 F
      obtain ⟨a, j, cur, rfl, rfl, AJ, CL, HW, HT, HD, F, HBW⟩ := hrel
      by_cases hlt : j < row.length
      · have hj1 : (j : Int) < (row.length : Int) := by omega
        have hwk : wrap64 ((j : Int) + 1) = ((j + 1 : Nat) : Int) := by unfold wrap64; omega
        have haj : (a : Int) < (row.length : Int) := by have := AJ.out; omega
        have hwa : wrap64 ((a : Int) + 1) = ((a + 1 : Nat) : Int) := by unfold wrap64; omega
        obtain ⟨q, hq⟩ : ∃ q, row[j]? = some q := ⟨_, List.getElem?_eq_getElem hlt⟩
        obtain ⟨x, s⟩ := q
        have hq2 : cur[j]? = some (x, s) := by
          have e1 : (cur.drop j)[0]? = (row.drop j)[0]? := by rw [HD.out]
          rw [List.getElem?_drop, List.getElem?_drop, Nat.add_zero] at e1
          rw [e1]; exact hq
        obtain ⟨rb', e', -, r0, r1, -, -⟩ := wc_elem HW.out hq2 hlt
        injection e' with e'
        injection e' with e' _ _
        subst e'
        have HQ := Aside0.mk hq; have HQ2 := Aside0.mk hq2; have HLT := Aside0.mk hlt
        clear hq hq2 hlt
        go_upto_region 8 with (fail)
        have hta := heap_alloc_new wr (.cells #[.int .i64 x, .string s] TW)
        have hbb := (Below.refl wr.heap.size wr).alloc (Nat.le_refl _) (.cells #[.int .i64 x, .string s] TW)
        have HW_n := Aside0.mk (HW.out.same (fun m hm => hbb.block m (HW.out.own.lt m hm).2)); have F_n := Aside0.mk (F.out.below hbb); have HBW_n := Aside0.mk (blk_below HBW.out hbb)
        clear HW F HBW r0 r1 hbb
        have HW := HW_n; have F := F_n; have HBW := HBW_n
        clear HW_n F_n HBW_n
        generalize wr.alloc (.cells #[.int .i64 x, .string s] TW) = W at *
        generalize wr.heap.size = nb at *
        have HTA := Aside0.mk hta
        clear hta
        have q0 : W.cell? ⟨nb, 0, none⟩ = some (.int .i64 x) := blk_cell HTA.out 0
        have q1 : W.cell? ⟨nb, 1, none⟩ = some (.string s) := blk_cell HTA.out 1
        by_cases hx : x = i
        · have hbq : (x == i) = true := by simp [hx]
          have HX := Aside0.mk hx; clear hx
          go_wp2_with (go_at_fn 49; (with_reducible refine (pred_calls _ _ _ _ _ _ HBW.out).mono ?_); rintro e w1 ⟨rfl, hb1⟩; have HW_n := Aside0.mk (HW.out.same (fun m hm => hb1.block m (HW.out.own.lt m hm).2)); have F_n := Aside0.mk (F.out.below hb1); have HBW_n := Aside0.mk (blk_below HBW.out hb1); clear HW F HBW hb1; have HW := HW_n; have F := F_n; have HBW := HBW_n; clear HW_n F_n HBW_n)
          go_roundw
          case rel =>
            refine ⟨_, _, _, _, _, _, _, _, _, _, _, _, _, _, _, _, _, _, _, _, _, _, _, ⟨a, j + 1, cur, by first | rfl | rw [hwk] | go_num, rfl, ⟨by have := AJ.out; have := HLT.out; omega⟩, CL, HW, ⟨?_⟩, ⟨?_⟩, F, HBW⟩, rfl⟩
            · rw [filter_succ HQ.out, HT.out]
              simp [kp, HX.out]
            · rw [← List.drop_drop, HD.out, List.drop_drop]
          case measure =>
            have := HLT.out
            show row.length - (intOf (.int .i64 ((j + 1 : Nat) : Int))).toNat < row.length - (intOf (.int .i64 (j : Int))).toNat
            simp only [intOf]; omega
        · have hbq : (x == i) = false := by simp [hx]
          have HX := Aside0.mk hx; clear hx
          obtain ⟨y, hy⟩ : ∃ y, cur[a]? = some y := ⟨_, List.getElem?_eq_getElem (by have := CL.out; omega)⟩
          obtain ⟨y1, y2⟩ := y
          have HY := Aside0.mk hy; clear hy
          have HAL := Aside0.mk (show a < row.length by omega)
          go_wp2_with (go_at_fn 49; (with_reducible refine (pred_calls _ _ _ _ _ _ HBW.out).mono ?_); rintro e w1 ⟨rfl, hb1⟩; have HW_n := Aside0.mk (HW.out.same (fun m hm => hb1.block m (HW.out.own.lt m hm).2)); have F_n := Aside0.mk (F.out.below hb1); have HBW_n := Aside0.mk (blk_below HBW.out hb1); have HTA_n := Aside0.mk (blk_below HTA.out hb1); clear HW F HBW HTA hb1 q0 q1; have HW := HW_n; have F := F_n; have HBW := HBW_n; have HTA := HTA_n; clear HW_n F_n HBW_n HTA_n; have q0 := blk_cell HTA.out 0; have q1 := blk_cell HTA.out 1; obtain ⟨rb', e', -, y0, y1, z0, z1⟩ := wc_elem HW.out HY.out HAL.out; injection e' with e'; injection e' with e' _ _; subst e')
          go_roundw
          case rel =>
            refine ⟨_, _, _, _, _, _, _, _, _, _, _, _, _, _, _, _, _, _, _, _, _, _, _, ⟨a + 1, j + 1, cur.set a (x, s), by first | rfl | go_num, by first | rfl | go_num, ⟨by have := AJ.out; have := HLT.out; omega⟩, ⟨by rw [List.length_set]; exact CL.out⟩, ⟨?_⟩, ⟨?_⟩, ⟨?_⟩, ⟨(F.out.setCell (p := ⟨rb, a * 2, none⟩) (.inl rfl) _).setCell (p := ⟨rb, a * 2 + 1, none⟩) (.inl rfl) _⟩, ⟨?_⟩⟩, rfl⟩
            · have h1 := (HW.out.put (a * 2) (by have := HAL.out; omega) (.int .i64 x)).put (a * 2 + 1) (by have := HAL.out; omega) (.string s)
              rw [wc_set] at h1
              exact h1
            · have hal : a < cur.length := by have := CL.out; have := HAL.out; omega
              rw [filter_succ HQ.out, ← HT.out, List.take_succ_eq_append_getElem (by rw [List.length_set]; exact hal), List.take_set_of_le (Nat.le_refl _)]
              simp [kp, HX.out]
            · rw [List.drop_set_of_lt (by have := AJ.out; omega), ← List.drop_drop, HD.out, List.drop_drop]
            · have hne : b ≠ rb := fun e => by
                subst e
                obtain ⟨rb2, rc2, cur2, hv2, -, hb2, -⟩ := HW.out.open (by have := HAL.out; omega)
                injection hv2 with e2 _ _
                injection e2 with e2
                injection e2 with e2 _ _
                subst e2
                rw [HBW.out] at hb2
                injection hb2 with hb2
                injection hb2 with _ hb2 _
                exact absurd hb2 (by decide)
              exact (Below.heap_setCell _ ⟨rb, a * 2 + 1, none⟩ (.string s) b hne).trans ((Below.heap_setCell _ ⟨rb, a * 2, none⟩ (.int .i64 x) b hne).trans HBW.out)
          case measure =>
            have := HLT.out
            show row.length - (intOf (.int .i64 ((j + 1 : Nat) : Int))).toNat < row.length - (intOf (.int .i64 (j : Int))).toNat
            simp only [intOf]; omega
      · obtain rfl : j = row.length := by have := AJ.out; omega
        clear hlt
        obtain ⟨rb2, rc2, cur2, hv2, hS2, hb2, hn2, hm2, hz2, ht2⟩ := HW.out.open (by have := AJ.out; omega)
        injection hv2 with e2 e3 e4
        injection e2 with e2
        injection e2 with e2 _ _
        subst e2
        subst e4
        clear e3
        have hal : a < row.length := AJ.out.1
        have hcl := run_clear2 wr 0 rb (a * 2) (row.length - a) (c - a) (by omega) (fun j hj => by
          have hlt : a * 2 + j < cur2.size := by rw [hz2]; omega
          rw [blk_cell hb2]
          simp [hlt]) (fun j hj => blk_frozen hb2 _)
        have h1 : (a : Int) ≤ (row.length : Int) := by omega
        have h2 : (a : Int) ≤ (c : Int) := by omega
        have h3 : (row.length : Int) ≤ (c : Int) := by omega
        have h4 : a ≤ row.length := by omega
        have h5 : a ≤ c := by omega
        have hca : ¬ c = a := by omega
        have HB2 := Aside0.mk hb2; have HT2 := Aside0.mk ht2; have HZ2 := Aside0.mk hz2; have HM2 := Aside0.mk hm2; have HN2 := Aside0.mk hn2; have HAL := Aside0.mk hal
        clear hb2 ht2 hz2 hm2 hn2 hal
        go_wp2
        go_ret
        obtain ⟨cs', g1, g2, g3⟩ := setCells_blk (zs2 (row.length - a)) (a * 2) wr cur2 HB2.out
        have hlen : (row.filter (kp i)).length = a := by
          have e := HT.out
          rw [List.take_length] at e
          rw [← e, List.length_take, CL.out]
          omega
        refine ⟨_, rfl, ⟨⟨?_, .inr ⟨rb, c, cs', ?_, Nat.zero_le _, g1, ?_, HM2.out, by rw [g2]; exact HZ2.out, ?_⟩⟩, ?_⟩, ?_, rfl⟩
        · rw [wc_length]
        · rw [hlen]; rfl
        · rw [hlen]; omega
        · rw [hlen, g3]
          have e := HT.out
          rw [List.take_length] at e
          rw [← e, ← wc_take, ← HT2.out, List.take_take, Nat.min_eq_left (by omega)]
        · intro k hk
          injection hk with hk
          subst hk
          exact HS.out
        · exact (F.out.trans (setCells_fs _ _ _)).mono fun k _ hk => by subst hk; rfl
theorem last_filter (row : List (Int × ByteArray)) (i : Int) : lastOf (row.filter (kp i)) = fun j => if j = i then none else lastOf row j := by
  funext j
  have gen : ∀ (l : List (Int × ByteArray)) (o o2 : Option ByteArray), (if j = i then o = none else o = o2) → (l.filter (kp i)).foldl (fun o p => if j = p.1 then some p.2 else o) o = if j = i then none else l.foldl (fun o p => if j = p.1 then some p.2 else o) o2 := by
    intro l
    induction l with
    | nil =>
      intro o o2 h
      by_cases e : j = i
      · rw [if_pos e] at h ⊢; exact h
      · rw [if_neg e] at h ⊢; exact h
    | cons p r ih =>
      intro o o2 h
      by_cases hp : p.1 = i
      · have hk : kp i p = false := by simp [kp, hp]
        rw [List.filter_cons, if_neg (by simp [hk]), List.foldl_cons]
        refine ih o _ ?_
        by_cases e : j = i
        · rw [if_pos e] at h ⊢; exact h
        · rw [if_neg e] at h ⊢
          rw [if_neg (by rw [hp]; exact e)]
          exact h
      · have hk : kp i p = true := by simp [kp, hp]
        rw [List.filter_cons, if_pos hk, List.foldl_cons, List.foldl_cons]
        refine ih _ _ ?_
        by_cases e : j = i
        · rw [if_pos e] at h ⊢
          rw [if_neg (by rw [e]; exact fun h => hp h.symm)]
          exact h
        · rw [if_neg e] at h ⊢
          rw [h]
  unfold lastOf
  exact gen row none none (by split <;> rfl)
/-- 'delete' in a region that draws, its run known. -/
theorem del_ {P : Program} {ops : Array Oper} {Q : Exit → Act → World → Prop} {oi : Oper} {N : Option Tmp} {a : Act} {w w1 : World} {v : Value} {K : Act → World → Prop} (s x : Operand) (t t2 : TypeId) (hw : Region.wanted oi (yielded ops a.tmps) = true) (hN : oi.dst = N)
    (ho : oi.op = .call { callee := .builtin .delete, args := #[s, x], argTypes := #[t, t2] }) (v1 v2 : Value) (hs : a.eval s = v1) (hx : a.eval x = v2) (hr : (Builtin.delete_ #[t, t2] oi.type #[v1, v2]).run P w = .ok v w1)
    (h : K (a.put N v) w1) : if Region.wanted oi (yielded ops a.tmps) = true then Oper.wp P oi a w K Q else K (a.put N undef) w := by
  refine value_ hw hN ?_ h
  unfold execOp
  simp only [ho, resolve, invoke, builtin, Sem.run_bind, Sem.run_pure, Result.andThen_ok, List.map_toArray, List.map_cons, List.map_nil, hs, hx, hr]
def loseE (d : DS) (i : Int) : Int := if d.gone = true then 4 else if thereD d i = false then 2 else 0
def loseD (d : DS) (i : Int) : DS := if loseE d i ≠ 0 then d else { d with row := d.row.filter (kp i), safe := d.safe.set i.toNat (noughts 128) }
theorem DV.refill {w w' : World} {S : Nat → Prop} {g : Nat} {d : DS} {f : Int → Option ByteArray} {sv rv rv' : Value} {m : Nat} {row' : List (Int × ByteArray)} (h : DV w S g d f sv rv m) (hf : FS (fun k => rv.ownBlock = some k) w w') (hr : Ow w' S TW 2 rv' row'.length (wc row')) :
    w'.heap[g]? = some (.cells #[sv, rv, .map (some m), .bool d.gone, .int .i64 d.fuse] TD (0, 0)) ∧ DV (w'.setCell ⟨g, 1, none⟩ rv') S g { d with row := row' } f sv rv' m := by
  have hb := hf.old h.blk (fun e => ow_ne h.row h.blk (by decide) g e rfl)
  refine ⟨hb, ?_⟩
  have hs : Ow w' S TS 1 sv d.safe.length (d.safe.map .string) := h.safe.same fun k hk => hf.block k (h.safe.own.lt k hk).2 (fun e => ow_ne2 h.safe h.row (by decide) k hk e)
  have hm : MP w' m f := h.map.same (hf.block m h.map.lt (fun e => ow_nem h.row h.map m e rfl))
  have hb2 : (w'.setCell ⟨g, 1, none⟩ rv').heap[g]? = some (.cells #[sv, rv', .map (some m), .bool d.gone, .int .i64 d.fuse] TD (0, 0)) := by
    simp only [World.setCell]
    rw [Array.getElem?_modify, if_pos rfl, hb]
    rfl
  exact ⟨hb2, hs.same fun k hk => Below.heap_setCell w' ⟨g, 1, none⟩ rv' k (ow_ne hs hb (by decide) k hk), hr.same fun k hk => Below.heap_setCell w' ⟨g, 1, none⟩ rv' k (ow_ne hr hb (by decide) k hk), hm.same (Below.heap_setCell w' ⟨g, 1, none⟩ rv' m (MP.ne_cells hm hb)), h.sg, h.sm⟩
set_option maxHeartbeats 8000000 in
set_option maxRecDepth 20000 in
theorem lose_calls (d : DS) (g : Nat) (i : Int) (S : Nat → Prop) (w : World) (hS : Top S w) (h : DK w S g d) (ho : OkD d) : Calls Try.prog 29 #[.pointer (some ⟨g, 0, none⟩), .int .i64 i] w fun e w' => e = .returned (.int .i64 (loseE d i)) ∧ DK w' S g (loseD d i) ∧ FS S w w' := by
  obtain ⟨sv, rv, m, hv⟩ := h
  obtain ⟨A, c, rfl, -⟩ := hv.safe.shape
  obtain ⟨A1, c1_, rfl, -⟩ := hv.row.shape
  have HGL := Aside0.mk hv.lt
  have hbb := (Below.refl w.heap.size w).alloc (Nat.le_refl _) (.cells #[.int .i64 i] 3)
  have hta := heap_alloc_new w (.cells #[.int .i64 i] 3)
  have hv1 := hv.below hbb
  have HF0 := Aside0.mk ((FS.refl S w).below hbb)
  have HO := Aside0.mk ho; have HS := Aside0.mk hS; have HSW := Aside0.mk (show w.heap.size ≤ (w.alloc (.cells #[.int .i64 i] 3)).heap.size by simp)
  have HV := Aside0.mk hv1; have HTA := Aside0.mk hta
  clear ho hS hbb hta hv hv1
  obtain ⟨⟨c0, c1, c2, c3, c4⟩, fr_⟩ := HV.out.cells; have f0 := fr_ 0; have f1 := fr_ 1; have f2 := fr_ 2; have f3 := fr_ 3; have f4 := fr_ 4; clear fr_
  cases hg : d.gone with
  | true =>
    have e1 : loseE d i = 4 := by simp [loseE, hg]
    have e2 : loseD d i = d := by simp [loseD, e1]
    rw [e1, e2]
    rw [hg] at c3
    clear e1 e2 hg
    go_enter Try.func29, Try.ntmps29
    go_wp2
    go_ret
    exact ⟨rfl, ⟨_, _, m, HV.out⟩, HF0.out⟩
  | false =>
    rw [hg] at c3
    cases hT : thereD d i with
    | false =>
      have e1 : loseE d i = 2 := by simp [loseE, hg, hT]
      have e2 : loseD d i = d := by simp [loseD, e1]
      rw [e1, e2]
      have q0 : (w.alloc (.cells #[.int .i64 i] 3)).cell? ⟨w.heap.size, 0, none⟩ = some (.int .i64 i) := blk_cell HTA.out 0
      clear e1 e2 hg
      go_enter Try.func29, Try.ntmps29
      go_wp2_with (go_at_call 40; (with_reducible refine (there_calls d g i S _ HV.out.dk HO.out).mono ?_); rintro e w1 ⟨rfl, hb1⟩; have HV_n := Aside0.mk (HV.out.below hb1); have F := Aside0.mk (HF0.out.below hb1); clear hb1)
      go_ret
      exact ⟨rfl, ⟨_, _, m, HV_n.out⟩, F.out⟩
    | true =>
      have e1 : loseE d i = 0 := by simp [loseE, hg, hT]
      have e2 : loseD d i = { d with row := d.row.filter (kp i), safe := d.safe.set i.toNat (noughts 128) } := by simp [loseD, e1]
      rw [e1, e2]
      have q0 : (w.alloc (.cells #[.int .i64 i] 3)).cell? ⟨w.heap.size, 0, none⟩ = some (.int .i64 i) := blk_cell HTA.out 0
      have HI := Aside0.mk (show 0 ≤ i ∧ i < d.safe.length by simpa [thereD] using hT)
      clear e1 e2 hg
      go_enter Try.func29, Try.ntmps29
      go_upto_region 7 with (go_at_call 40; (with_reducible refine (there_calls d g i S _ HV.out.dk HO.out).mono ?_); rintro e w1 ⟨rfl, hb1⟩; have HV_n := Aside0.mk (HV.out.below hb1); have F := Aside0.mk (HF0.out.below hb1); have HTA_n := Aside0.mk (blk_below HTA.out hb1); have HSW_n := Aside0.mk (Nat.le_trans HSW.out hb1.size); clear hb1 HV HTA HF0 HSW c0 c1 c2 c3 c4 f0 f1 f2 f3 f4 q0; have HV := HV_n; have HTA := HTA_n; have HSW := HSW_n; clear HV_n HTA_n HSW_n)
      obtain ⟨⟨c0, c1, c2, c3, c4⟩, fr_⟩ := HV.out.cells; have f0 := fr_ 0; have f1 := fr_ 1; have f2 := fr_ 2; have f3 := fr_ 3; have f4 := fr_ 4; clear fr_
      clear hT
      have hdel := delete_calls _ d.row S i w.heap.size w1 HV.out.row HO.out.1 HTA.out
      go_upto_region 8 with (go_at_call 48; refine hdel.mono ?_; rintro e w2 ⟨rv', rfl, hr2, hf2, ho2⟩; obtain ⟨A2, c2_, rfl, -⟩ := hr2.shape; have hrf := HV.out.refill hf2 hr2; have HV2 := Aside0.mk hrf.2; have k1 : w2.cell? ⟨g, 1, none⟩ = some _ := blk_cell hrf.1 1; have k2 : w2.frozen? ⟨g, 1, none⟩ = false := blk_frozen hrf.1 1; have F2 := Aside0.mk ((F.out.trans (hf2.mono fun k hk e => HV.out.row.mem k e)).setCell (p := ⟨g, 1, none⟩) (.inl HV.out.sg) (.slice A2 (d.row.filter (kp i)).length c2_)); have HW2 := Aside0.mk (Nat.le_trans HSW.out hf2.size); have HT2 := Aside0.mk (hf2.old HTA.out (fun e => ow_ne HV.out.row HTA.out (by decide) w.heap.size e rfl)); clear hrf hf2 hr2 ho2)
      have HT3 := Aside0.mk ((Below.heap_setCell w2 ⟨g, 1, none⟩ (.slice A2 (d.row.filter (kp i)).length c2_) w.heap.size (Nat.ne_of_gt HGL.out)).trans HT2.out)
      clear HV F HTA HSW c0 c1 c2 c3 c4 f0 f1 f2 f3 f4 k1 k2 hdel HT2
      generalize w2.setCell ⟨g, 1, none⟩ (.slice A2 (d.row.filter (kp i)).length c2_) = X at *
      have HV := Aside0.mk HV2.out.drew; have F := Aside0.mk F2.out.drew
      have HTX := Aside0.mk (show X.drew.heap[w.heap.size]? = some (.cells #[.int .i64 i] 3 (0, 0)) from HT3.out)
      clear HV2 F2 HT3
      have c2 : X.drew.cell? ⟨g, 2, none⟩ = some (.map (some m)) := HV.out.cells.1.2.2.1
      have q0 : X.drew.cell? ⟨w.heap.size, 0, none⟩ = some (.int .i64 i) := blk_cell HTX.out 0
      obtain ⟨ob, hrun, hmp⟩ := run_delete_mp (P := Try.prog) (t := 78) (k := 3) (e := 9) (by kernel_rfl) (by kernel_rfl) HV.out.map i 0
      have HM := Aside0.mk hmp; clear hmp
      refine start_ (n := 6) (S := fun w' => w'.cell? ⟨g, 2, none⟩ = some (.map (some m)) ∧ w'.cell? ⟨w.heap.size, 0, none⟩ = some (.int .i64 i)) (ds := [5]) #[false, false, false, false, false, false] (by kernel_rfl) rfl rfl ⟨c2, q0⟩ (fun hHeld => ?_)
      refine pure_ (i := 0) (N := some 27) (v := ?_) (a' := ?_) #[true, false, false, false, false, false] rfl rfl (by kernel_rfl) (fun _ _ _ h => h) (Or.inl ⟨by kernel_rfl, ?_⟩) ?_ ?_
      rotate_left
      · intro w'
        go_simp
        with_reducible rfl
      rotate_left
      · simp only [Act.put, List.setIfInBounds_toArray, List.set_cons_zero, List.set_cons_succ, i64_w, i32_w]
        rfl
      refine pure_ (i := 1) (N := some 28) (v := ?_) (a' := ?_) #[true, true, false, false, false, false] rfl rfl (by kernel_rfl) (fun _ _ _ h => h) (Or.inl ⟨by kernel_rfl, ?_⟩) ?_ ?_
      rotate_left
      · intro w'
        go_simp
        with_reducible rfl
      rotate_left
      · simp only [Act.put, List.setIfInBounds_toArray, List.set_cons_zero, List.set_cons_succ, i64_w, i32_w]
        rfl
      refine pure_ (i := 2) (N := some 29) (v := ?_) (a' := ?_) #[true, true, true, false, false, false] rfl rfl (by kernel_rfl) (fun _ _ _ h => h) (Or.inl ⟨by kernel_rfl, ?_⟩) ?_ ?_
      rotate_left
      · intro w'
        go_simp
        with_reducible rfl
      rotate_left
      · simp only [Act.put, List.setIfInBounds_toArray, List.set_cons_zero, List.set_cons_succ, i64_w, i32_w]
        rfl
      refine take_ (i := 3) (N := some 30) (v := ?_) (a' := ?_) #[true, true, true, true, false, false] rfl rfl (by kernel_rfl) (fun _ _ _ h => h) (Or.inl ⟨by kernel_rfl, ?_⟩) hHeld ?_ ?_
      rotate_left
      · rintro w' ⟨s0_, s1_⟩
        go_simp
        with_reducible rfl
      rotate_left
      · simp only [Act.put, List.setIfInBounds_toArray, List.set_cons_zero, List.set_cons_succ, i64_w, i32_w]
        rfl
      refine take_ (i := 4) (N := some 31) (v := ?_) (a' := ?_) #[true, true, true, true, true, false] rfl rfl (by kernel_rfl) (fun _ _ _ h => h) (Or.inl ⟨by kernel_rfl, ?_⟩) hHeld ?_ ?_
      rotate_left
      · rintro w' ⟨s0_, s1_⟩
        go_simp
        with_reducible rfl
      rotate_left
      · simp only [Act.put, List.setIfInBounds_toArray, List.set_cons_zero, List.set_cons_succ, i64_w, i32_w]
        rfl
      refine last_ (i := 5) (N := none) #[true, true, true, true, true, true] rfl rfl (by kernel_rfl) (by decide) (fun K hK => ?_)
      refine del_ _ _ _ _ (by kernel_rfl) rfl rfl _ _ rfl rfl hrun ?_
      refine hK _ _ ?_
      clear hK K
      refine done_ (by kernel_rfl) ?_
      go_upto_region 9 with (fail)
      have HV3 := Aside0.mk (HV.out.set_map HM.out); have F3 := Aside0.mk (F.out.setBlock (.inl HV.out.sm) ob)
      have HT3 := Aside0.mk ((setBlock_other X.drew m ob (MP.ne_cells HV.out.map HTX.out).symm).trans HTX.out)
      clear HV F HTX c2 q0 hrun HM
      generalize setBlock X.drew m ob = Y at *
      have HV := Aside0.mk HV3.out.drew; have F := Aside0.mk F3.out.drew
      have HTX := Aside0.mk (show Y.drew.heap[w.heap.size]? = some (.cells #[.int .i64 i] 3 (0, 0)) from HT3.out)
      clear HV3 F3 HT3
      have q0 : Y.drew.cell? ⟨w.heap.size, 0, none⟩ = some (.int .i64 i) := blk_cell HTX.out 0
      have z0 : Y.drew.cell? ⟨g, 0, none⟩ = some (.slice A d.safe.length c) := HV.out.cells.1.1
      have hi0 := HI.out.1; have hi1 := HI.out.2
      obtain ⟨bs, cc, cur, hsv, hSb, hbs, -, -, -, htk⟩ := HV.out.safe.open (show 0 < d.safe.length by omega)
      injection hsv with e5 e6 e7
      subst e5
      subst e7
      clear e6
      obtain ⟨ux, hx⟩ : ∃ u, (d.safe.map Value.string)[i.toNat]? = some u := ⟨_, List.getElem?_eq_getElem (by simp only [List.length_map]; omega)⟩
      have HB := Aside0.mk hbs; have HTK := Aside0.mk htk; have HX := Aside0.mk hx; have HSB := Aside0.mk hSb
      clear hbs htk hx hSb
      refine start_ (n := 8) (S := fun w' => w'.cell? ⟨g, 0, none⟩ = some (.slice (some ⟨bs, 0, none⟩) d.safe.length c) ∧ w'.cell? ⟨w.heap.size, 0, none⟩ = some (.int .i64 i)) (ds := [7]) #[false, false, false, false, false, false, false, false] (by kernel_rfl) rfl rfl ⟨z0, q0⟩ (fun hHeld => ?_)
      refine pure_ (i := 0) (N := some 32) (v := ?_) (a' := ?_) #[true, false, false, false, false, false, false, false] rfl rfl (by kernel_rfl) (fun _ _ _ h => h) (Or.inl ⟨by kernel_rfl, ?_⟩) ?_ ?_
      rotate_left
      · intro w'
        go_simp
        with_reducible rfl
      rotate_left
      · simp only [Act.put, List.setIfInBounds_toArray, List.set_cons_zero, List.set_cons_succ, i64_w, i32_w]
        rfl
      refine pure_ (i := 1) (N := some 33) (v := ?_) (a' := ?_) #[true, true, false, false, false, false, false, false] rfl rfl (by kernel_rfl) (fun _ _ _ h => h) (Or.inl ⟨by kernel_rfl, ?_⟩) ?_ ?_
      rotate_left
      · intro w'
        go_simp
        with_reducible rfl
      rotate_left
      · simp only [Act.put, List.setIfInBounds_toArray, List.set_cons_zero, List.set_cons_succ, i64_w, i32_w]
        rfl
      refine pure_ (i := 2) (N := some 34) (v := ?_) (a' := ?_) #[true, true, true, false, false, false, false, false] rfl rfl (by kernel_rfl) (fun _ _ _ h => h) (Or.inl ⟨by kernel_rfl, ?_⟩) ?_ ?_
      rotate_left
      · intro w'
        go_simp
        with_reducible rfl
      rotate_left
      · simp only [Act.put, List.setIfInBounds_toArray, List.set_cons_zero, List.set_cons_succ, i64_w, i32_w]
        rfl
      refine take_ (i := 3) (N := some 35) (v := ?_) (a' := ?_) #[true, true, true, true, false, false, false, false] rfl rfl (by kernel_rfl) (fun _ _ _ h => h) (Or.inl ⟨by kernel_rfl, ?_⟩) hHeld ?_ ?_
      rotate_left
      · rintro w' ⟨s0_, s1_⟩
        go_simp
        with_reducible rfl
      rotate_left
      · simp only [Act.put, List.setIfInBounds_toArray, List.set_cons_zero, List.set_cons_succ, i64_w, i32_w]
        rfl
      refine take_ (i := 4) (N := some 36) (v := ?_) (a' := ?_) #[true, true, true, true, true, false, false, false] rfl rfl (by kernel_rfl) (fun _ _ _ h => h) (Or.inl ⟨by kernel_rfl, ?_⟩) hHeld ?_ ?_
      rotate_left
      · rintro w' ⟨s0_, s1_⟩
        go_simp
        with_reducible rfl
      rotate_left
      · simp only [Act.put, List.setIfInBounds_toArray, List.set_cons_zero, List.set_cons_succ, i64_w, i32_w]
        rfl
      refine one_ (i := 5) (N := some 37) #[true, true, true, true, true, true, false, false] rfl rfl (by kernel_rfl) (by decide) (fun K hK => ?_)
      refine goes_ Try.func39 (by kernel_rfl) rfl #[] (by rfl) rfl rfl (by (try simp only [List.map_toArray, List.map_cons, List.map_nil]); first | done | rfl) ?_
      refine (zero_calls _).mono ?_
      rintro e v1_ ⟨rfl, hb1⟩
      refine ⟨_, rfl, ?_⟩
      have HB3 := Aside0.mk (blk_below HB.out hb1)
      have HV3 := Aside0.mk (HV.out.below hb1)
      have F3 := Aside0.mk (F.out.below hb1)
      refine hK _ _ ⟨pw_cell_below hb1 hHeld.1, pw_cell_below hb1 hHeld.2⟩ (fun hHeld => ?_)
      clear hK K hb1
      refine norm_ (a' := ?_) ?_ ?_
      rotate_left
      · show Act.put _ (some 37) _ = _
        simp only [Act.put, List.setIfInBounds_toArray, List.set_cons_zero, List.set_cons_succ, i64_w, i32_w]
        rfl
      refine pure_ (i := 6) (N := some 38) (v := ?_) (a' := ?_) #[true, true, true, true, true, true, true, false] rfl rfl (by kernel_rfl) (fun _ _ _ h => h) (Or.inl ⟨by kernel_rfl, ?_⟩) ?_ ?_
      rotate_left
      · intro w'
        go_simp
        with_reducible rfl
      rotate_left
      · simp only [Act.put, List.setIfInBounds_toArray, List.set_cons_zero, List.set_cons_succ, i64_w, i32_w]
        rfl
      refine last_ (i := 7) (N := none) #[true, true, true, true, true, true, true, true] rfl rfl (by kernel_rfl) (by decide) (fun K hK => ?_)
      have cz : v1_.cell? ⟨bs, i.toNat, none⟩ = some _ := cell_of (w := v1_) HB3.out HTK.out HX.out
      have fz : v1_.frozen? ⟨bs, i.toNat, none⟩ = false := blk_frozen (w := v1_) HB3.out _
      refine skip_ (w1 := ?_) (by kernel_rfl) rfl ?_ ?_
      rotate_left
      · go_simp
        rfl
      refine hK _ _ ?_
      clear hK K cz fz
      have HV4 := Aside0.mk (HV3.out.set_safe i.toNat (show i.toNat < d.safe.length by omega) (noughts 128))
      have F4 := Aside0.mk (F3.out.setCell (p := ⟨bs, i.toNat, none⟩) (.inl HSB.out) (.string (noughts 128)))
      refine done_ (by kernel_rfl) ?_
      go_wp2
      go_ret
      have q := HV4.out
      rw [← last_filter] at q
      exact ⟨rfl, ⟨_, _, m, q⟩, F4.out⟩
end Go.Proofs.Ytbdfdfahpdilpaa.Dk

/-! A disk with power, no fuse: plain laws. -/
namespace Go.Proofs.Ytbdfdfahpdilpaa.Lv
open Go Go.RowKit Go.ChangeMaps Go.Proofs.Ytbdfdfahpdilpaa.Arr Go.Proofs.Ytbdfdfahpdilpaa.Mp Go.Proofs.Ytbdfdfahpdilpaa.Ow Go.Proofs.Ytbdfdfahpdilpaa.Dk Go.Proofs.YtbdfdfahpdilpaaW.PrintWords
set_option linter.unusedVariables false
set_option linter.unusedSimpArgs false
/-- The disk has power, no fuse, and n sectors. -/
def Live (n : Nat) (d : DS) : Prop := d.gone = false ∧ d.fuse = -1 ∧ d.safe.length = n
theorem live_new (n : Nat) : Live n (newD n) := ⟨rfl, rfl, by simp [newD]⟩
theorem live_bears {n : Nat} {d : DS} (h : Live n d) : bearsD d = d ∧ bearsE d = 0 := by
  obtain ⟨h1, h2, h3⟩ := h
  refine ⟨?_, ?_⟩
  · simp [bearsD, h1, h2]
  · simp [bearsE, h1, h2]
theorem live_write {n : Nat} {d : DS} (i : Int) (s : ByteArray) (h : Live n d) : Live n (writeD d i s) := by
  unfold writeD
  rw [(live_bears h).1, (live_bears h).2]
  split
  · exact h
  · split
    · exact h
    · split
      · exact h
      · exact h
theorem live_sync {n : Nat} {d : DS} (h : Live n d) : Live n (syncD d) := by
  unfold syncD
  rw [(live_bears h).1, (live_bears h).2]
  split
  · exact h
  · obtain ⟨h1, h2, h3⟩ := h
    exact ⟨h1, h2, by simpa [settleD, over_length] using h3⟩
theorem live_there {n : Nat} {d : DS} (h : Live n d) (i : Int) (h0 : 0 ≤ i) (h1 : i < n) : thereD d i = true := by
  unfold thereD
  rw [h.2.2, decide_eq_true h0, decide_eq_true h1]
  rfl
theorem live_writeE {n : Nat} {d : DS} (h : Live n d) (i : Int) (s : ByteArray) (hs : s.size = 128) (h0 : 0 ≤ i) (h1 : i < n) : writeE d i s = 0 := by
  unfold writeE
  rw [live_there h i h0 h1, (live_bears h).2, hs]
  simp
theorem live_writeD {n : Nat} {d : DS} (h : Live n d) (i : Int) (s : ByteArray) (hs : s.size = 128) (h0 : 0 ≤ i) (h1 : i < n) : writeD d i s = pushD d i s := by
  unfold writeD
  rw [live_there h i h0 h1, (live_bears h).2, hs, (live_bears h).1]
  simp
theorem live_readE {n : Nat} {d : DS} (h : Live n d) (i : Int) (h0 : 0 ≤ i) (h1 : i < n) : readE d i = 0 := by
  unfold readE
  rw [live_there h i h0 h1, h.1]
  simp
theorem live_readS {n : Nat} {d : DS} (h : Live n d) (i : Int) (h0 : 0 ≤ i) (h1 : i < n) : readS d i = (lastOf d.row i).getD ((d.safe[i.toNat]?).getD ⟨#[]⟩) := by
  unfold readS
  rw [live_readE h i h0 h1]
  simp
theorem live_push {n : Nat} {d : DS} (h : Live n d) (i j : Int) (s : ByteArray) (hs : s.size = 128) (i0 : 0 ≤ i) (i1 : i < n) (j0 : 0 ≤ j) (j1 : j < n) : readS (writeD d i s) j = if j = i then s else readS d j := by
  rw [live_readS (live_write i s h) j j0 j1, live_readS h j j0 j1, live_writeD h i s hs i0 i1]
  show (lastOf (d.row ++ [(i, s)]) j).getD _ = _
  rw [last_push]
  by_cases e : j = i
  · subst e; simp
  · simp only [if_neg e]
    rfl
theorem mod_ok (n : Int) (i : Int) (h0 : 0 < n) (h1 : n < 4294967296) : 0 ≤ wrap64 ((IntKind.u64.wrap i).tmod n) ∧ wrap64 ((IntKind.u64.wrap i).tmod n) < n := by
  have hp : 0 ≤ IntKind.u64.wrap i ∧ IntKind.u64.wrap i < 18446744073709551616 := by constructor <;> simp [IntKind.wrap, IntKind.bits, IntKind.signed] <;> omega
  rw [Int.tmod_eq_emod_of_nonneg hp.1]
  have h2 := Int.emod_nonneg (IntKind.u64.wrap i) (show n ≠ 0 by omega)
  have h3 := Int.emod_lt_of_pos (IntKind.u64.wrap i) h0
  unfold wrap64
  omega
theorem crash_keep (n : Nat) (row : List (Int × ByteArray)) (safe : List ByteArray) (p : Nat → Nat) (hp : ∀ j, fateN n p j = 0) : ∀ k, crashT n p row safe k = safe := by
  intro k
  induction k with
  | zero => rfl
  | succ k ih =>
    cases hq : row[k]? with
    | none => show (match row[k]? with | some q => _ | none => _) = safe; rw [hq]; exact ih
    | some q => rw [crashT_succ hq, hp, ih]; rfl
theorem crash_all (n : Nat) (row : List (Int × ByteArray)) (safe : List ByteArray) (p : Nat → Nat) (hp : ∀ j, fateN n p j = 1) (hr : ∀ q ∈ row, 0 ≤ q.1) : ∀ k, k ≤ row.length → crashT n p row safe k = overF (lastOf (row.take k)) safe := by
  intro k
  induction k with
  | zero => intro _; rw [List.take_zero, last_nil, over_none]; rfl
  | succ k ih =>
    intro hk
    have hq : row[k]? = some row[k] := List.getElem?_eq_getElem (by omega)
    rw [crashT_succ hq, hp, ih (by omega), List.take_succ_eq_append_getElem (by omega)]
    exact over_set _ _ safe (row[k]).1 (row[k]).2 (hr _ (List.getElem_mem _)) (fun i => by rw [show (lastOf (row.take k ++ [row[k]])) = _ from last_push (row.take k) (row[k]).1 (row[k]).2])
theorem fate_one (n : Nat) (v : Nat) (j : Nat) (hn : 0 < n) (hv : v < 3) : fateN n (fun _ => v) j = v := by
  unfold fateN
  rw [if_neg (by omega)]
  show v % 3 = v
  omega
theorem live_crash {n a : Nat} {p : Nat → Nat} {d : DS} (h : Live n d) : Live n (crashD a p d) := ⟨rfl, rfl, by simp [crashD, crashT_length, h.2.2]⟩
theorem live_syncD {n : Nat} {d : DS} (h : Live n d) : syncD d = settleD { d with safe := overF (lastOf d.row) d.safe } := by
  unfold syncD
  rw [(live_bears h).1, (live_bears h).2]
  simp
theorem all_same {n : Nat} {d : DS} (h : Live n d) (ho : OkD d) : crashD 1 (fun _ => 1) d = syncD d := by
  rw [live_syncD h]
  obtain ⟨h1, h2, h3⟩ := h
  cases d
  subst h1
  subst h2
  simp only [crashD, settleD]
  rw [crash_all 1 _ _ _ (fun j => fate_one 1 1 j (by decide) (by decide)) (fun q hq => (ho.2.2.2.2 q hq).1) _ (Nat.le_refl _), List.take_length]
theorem none_same {n : Nat} {d : DS} (h : Live n d) (i : Int) (h0 : 0 ≤ i) (h1 : i < n) : readS (crashD 1 (fun _ => 0) d) i = (d.safe[i.toNat]?).getD ⟨#[]⟩ := by
  rw [live_readS (live_crash h) i h0 h1]
  simp only [crashD]
  rw [crash_keep 1 _ _ _ (fun j => fate_one 1 0 j (by decide) (by decide))]
  rfl
theorem clean_read {n : Nat} {d : DS} (h : Live n d) (hr : d.row = []) (i : Int) (h0 : 0 ≤ i) (h1 : i < n) : readS d i = (d.safe[i.toNat]?).getD ⟨#[]⟩ := by
  rw [live_readS h i h0 h1, hr]
  rfl
theorem pk_in {l : List Int} {A : Option Addr} {w W : World} {c : Nat → Nat} {x : Nat} (h : Kd.C (Kd.int .u8) w A l.length l) (hb : ∀ y ∈ l, 0 ≤ y ∧ y < 256) (hw : Below w.heap.size w W) (hc : Olds c w.heap.size) (hx : x ≠ 0) : Pk W (Col c x) A l.length (fun j => (l.getD j 0).toNat) := fun hn => by
  obtain ⟨ad, cs, e, hl, hk, hcell⟩ := Kd.C_get h (0 : Int) 0 (by omega) (by omega)
  have h0 := hcell
  refine ⟨ad, e, fun j hj => ?_, .inl fun hcol => ?_⟩
  · obtain ⟨ad', cs', e', hl', hk', hcell'⟩ := Kd.C_get h (0 : Int) j (by omega) (by omega)
    rw [e] at e'
    injection e' with e'
    subst e'
    have hv : cs'[0]? = some (.int .u8 (l.getD j 0)) := by
      have : cs' = [.int .u8 (l.getD (j : Int).toNat 0)] := hk'
      rw [this]; rfl
    have := hcell' 0 _ hv
    have e1 : (j : Int).toNat * (Kd.int .u8).sz + 0 = j := by
      show (j : Int).toNat * 1 + 0 = j
      omega
    rw [e1] at this
    rw [show (((l.getD j 0).toNat : Nat) : Int) = l.getD j 0 by
      have hm : l.getD j 0 ∈ l := by
        rw [List.getD_eq_getElem?_getD, List.getElem?_eq_getElem hj]
        exact List.getElem_mem hj
      have := hb _ hm
      omega]
    exact (hw.cell (World.block_lt_of_cell? w _ this)).trans this
  · have hv : cs[0]? = some (.int .u8 (l.getD 0 0)) := by
      have : cs = [.int .u8 (l.getD (0 : Int).toNat 0)] := hk
      rw [this]; rfl
    have := World.block_lt_of_cell? w _ (hcell 0 _ hv)
    rw [Dk.add_block] at this
    exact hx (hcol.symm.trans (hc _ this))
theorem pk_lt {l : List Int} (hb : ∀ y ∈ l, 0 ≤ y ∧ y < 256) (i : Nat) : (fun j => (l.getD j 0).toNat) i < 256 := by
  show (l.getD i 0).toNat < 256
  rw [List.getD_eq_getElem?_getD]
  cases h : l[i]? with
  | none => simp
  | some x =>
    have := hb x (List.mem_of_getElem? h)
    simp only [Option.getD_some]
    omega
end Go.Proofs.Ytbdfdfahpdilpaa.Lv
