import Derived.Test.YtbdfdfahpdilpaaD4
/-! Layer 3: Crash. -/
namespace Go.Proofs.Ytbdfdfahpdilpaa.Dk
open Go Go.RowKit Go.ChangeMaps Go.Proofs.Ytbdfdfahpdilpaa.Arr Go.Proofs.Ytbdfdfahpdilpaa.Mp Go.Proofs.Ytbdfdfahpdilpaa.Ow Go.Proofs.YtbdfdfahpdilpaaW.PrintWords Go.Proofs.YtbdfdfahpdilpaaW.PrintLast Go.Proofs.YtbdfdfahpdilpaaW.PrintMore
set_option linter.unusedVariables false
set_option linter.unusedSimpArgs false
def fateN (n : Nat) (p : Nat → Nat) (j : Nat) : Nat := if n = 0 then 0 else p (j % n) % 3
def crashStep (f : Nat) (safe : List ByteArray) (q : Int × ByteArray) : List ByteArray := if f = 1 then safe.set q.1.toNat q.2 else if f = 2 then safe.set q.1.toNat (noughts 128) else safe
def crashT (n : Nat) (p : Nat → Nat) (row : List (Int × ByteArray)) (safe : List ByteArray) : Nat → List ByteArray
  | 0 => safe
  | k + 1 => match row[k]? with
    | some q => crashStep (fateN n p k) (crashT n p row safe k) q
    | none => crashT n p row safe k
def crashD (n : Nat) (p : Nat → Nat) (d : DS) : DS := { safe := crashT n p d.row d.safe d.row.length, row := [], gone := false, fuse := -1 }
theorem step_length (f : Nat) (safe : List ByteArray) (q : Int × ByteArray) : (crashStep f safe q).length = safe.length := by
  unfold crashStep
  split
  · simp
  · split <;> simp
theorem crashT_length (n : Nat) (p : Nat → Nat) (row : List (Int × ByteArray)) (safe : List ByteArray) (k : Nat) : (crashT n p row safe k).length = safe.length := by
  induction k with
  | zero => rfl
  | succ k ih =>
    unfold crashT
    split
    · rw [step_length, ih]
    · exact ih
theorem crashT_succ {n : Nat} {p : Nat → Nat} {row : List (Int × ByteArray)} {safe : List ByteArray} {k : Nat} {q : Int × ByteArray} (h : row[k]? = some q) : crashT n p row safe (k + 1) = crashStep (fateN n p k) (crashT n p row safe k) q := by
  conv => lhs; unfold crashT
  rw [h]
/-- The picks: n numbers, in a block that is none of the disk's. -/
def Pk (w : World) (S : Nat → Prop) (A : Option Addr) (n : Nat) (p : Nat → Nat) : Prop := 0 < n → ∃ ad, A = some ad ∧ (∀ j, j < n → w.cell? (ad.add j) = some (.int .u8 (p j : Int))) ∧ (¬ S ad.block ∨ ∃ cs fr, w.heap[ad.block]? = some (.cells cs TB fr))
theorem add_block (a : Addr) (j : Nat) : (a.add j).block = a.block := by
  unfold Addr.add
  split <;> rfl
theorem Pk.lt {w : World} {n : Nat} {p : Nat → Nat} {ad : Addr} (h0 : 0 < n) (h : ∀ j, j < n → w.cell? (ad.add j) = some (.int .u8 (p j : Int))) : ad.block < w.heap.size := by
  have h1 := h 0 h0
  rcases Nat.lt_or_ge ad.block w.heap.size with h2 | h2
  · exact h2
  · simp only [World.cell?, add_block, Array.getElem?_eq_none h2] at h1
    cases h1
set_option maxHeartbeats 8000000 in
set_option maxRecDepth 20000 in
theorem crash_calls (d : DS) (g : Nat) (A : Option Addr) (n cp : Nat) (p : Nat → Nat) (S : Nat → Prop) (w : World) (hS : Top S w) (h : DK w S g d) (ho : OkD d) (hp : Pk w S A n p) (hb : ∀ i, p i < 256) : Calls Try.prog 20 #[.pointer (some ⟨g, 0, none⟩), .slice A n cp] w fun e w' => e = .returned (.tuple #[]) ∧ DK w' S g (crashD n p d) ∧ FS S w w' := by
  obtain ⟨sv, rv, m, hv⟩ := h
  obtain ⟨A1, c1', rfl, _, _, _⟩ := hv.row.shape
  have HV := Aside0.mk hv; have HO := Aside0.mk ho; have HS := Aside0.mk hS; have HP := Aside0.mk hp; clear hv ho hS hp
  obtain ⟨⟨c0, c1, c2, c3, c4⟩, fr_⟩ := HV.out.cells; have f0 := fr_ 0; have f1 := fr_ 1; have f2 := fr_ 2; have f3 := fr_ 3; have f4 := fr_ 4; clear fr_
  go_enter Try.func20, Try.ntmps20
  go_upto_region 2 with (fail)
  clear c0 c1 c2 c3 c4 f0 f1 f2 f3 f4
  go_loopw [14] (fun i wr => ∃ j : Nat, i = .int .i64 (j : Int) ∧ Aside0 (j ≤ d.row.length) ∧ Aside0 (DV wr S g { d with safe := crashT n p d.row d.safe j } (lastOf d.row) sv (.slice A1 d.row.length c1') m) ∧ Aside0 (FS S w wr) ∧ Aside0 (∀ ad, A = some ad → 0 < n → wr.heap[ad.block]? = w.heap[ad.block]?)) (fun i _ => d.row.length - (intOf i).toNat)
  case atStart => exact ⟨0, rfl, ⟨by omega⟩, HV, ⟨FS.refl _ _⟩, ⟨fun _ _ _ => rfl⟩⟩
  case round =>
    clear HV
    obtain ⟨j, rfl, J, HV, F, HE⟩ := hrel
    have HSW := Aside0.mk (HS.out.next F.out.size)
    by_cases hlt : (j : Int) < (d.row.length : Int)
    · have hj0 : (0 : Int) ≤ (j : Int) := by omega
      have hjl : j < d.row.length := by omega
      have hwj : wrap64 ((j : Int) + 1) = ((j + 1 : Nat) : Int) := by have := HO.out.1; unfold wrap64; omega
      obtain ⟨q, hq⟩ : ∃ q, d.row[j]? = some q := ⟨_, List.getElem?_eq_getElem hjl⟩
      obtain ⟨k, s⟩ := q
      have hrange := HO.out.2.2.2.2 _ (List.mem_of_getElem? hq)
      have hk0 : 0 ≤ k := hrange.1
      have hk1 : k < d.safe.length := hrange.2
      obtain ⟨rb, rc, rcur, hrv, hrS, hrb, _, _, _, hrt⟩ := HV.out.row.open (by simp only; omega)
      injection hrv with hA1 _ _
      subst hA1
      have hw2 := wc_get d.row j k s hq
      have r0 : wr.cell? ⟨rb, j * 2, none⟩ = some (.int .i64 k) := cell_of hrb hrt hw2.1
      have r1 : wr.cell? ⟨rb, j * 2 + 1, none⟩ = some (.string s) := cell_of hrb hrt hw2.2
      have HQ := Aside0.mk hq
      clear hrange hq hrb hrt hw2 hrS
      go_upto_region 4 with (fail)
      have hta := heap_alloc_new wr (.cells #[.int .i64 k, .string s] TW)
      have hv1 := HV.out.below ((Below.refl wr.heap.size wr).alloc (Nat.le_refl _) (.cells #[.int .i64 k, .string s] TW))
      have hf1 := F.out.alloc (.cells #[.int .i64 k, .string s] TW)
      have he1 : ∀ ad, A = some ad → 0 < n → (wr.alloc (.cells #[.int .i64 k, .string s] TW)).heap[ad.block]? = w.heap[ad.block]? := fun ad ha hn => by
        obtain ⟨ad', ha', hcl, _⟩ := HP.out hn
        rw [ha] at ha'
        injection ha' with ha'
        subst ha'
        have hlt := Pk.lt hn hcl
        rw [heap_alloc_old wr _ (Nat.lt_of_lt_of_le hlt F.out.size)]
        exact HE.out ad ha hn
      clear HV F HE r0 r1
      generalize wr.alloc (.cells #[.int .i64 k, .string s] TW) = W at *
      generalize wr.heap.size = tb at *
      have HTA := Aside0.mk hta; have HV := Aside0.mk hv1; have F := Aside0.mk hf1; have HE := Aside0.mk he1
      clear hta hv1 hf1 he1
      obtain ⟨fq, hfq⟩ : ∃ fq, fq = fateN n p j := ⟨_, rfl⟩
      have HS1 := Aside0.mk (crashT_succ (n := n) (p := p) (safe := d.safe) HQ.out)
      have HFQ := Aside0.mk hfq; clear hfq
      have pre : fq = 0 ∨ fq = 1 ∨ fq = 2 := by have := HFQ.out; unfold fateN at this; split at this <;> omega
      by_cases n0 : 0 < n
      · have t0 : decide ((0 : Int) < (n : Int)) = true := decide_eq_true (by omega)
        have t0' : decide (0 < n) = true := decide_eq_true n0
        obtain ⟨ad, rfl, hcl, hap⟩ := HP.out n0
        have hjn : j % n < n := Nat.mod_lt _ n0
        have cp_ : W.cell? (ad.add (j % n)) = some (.int .u8 (p (j % n) : Int)) := by
          rw [← hcl _ hjn]
          exact World.cell?_of_block (w := w) (by rw [add_block]; exact HE.out ad rfl n0)
        have hf3 : p (j % n) % 3 = fq := by have := HFQ.out; unfold fateN at this; rw [if_neg (by omega)] at this; exact this.symm
        have HAP := Aside0.mk hap; have HF3 := Aside0.mk hf3; clear hf3; have HPRE := Aside0.mk pre; have HN0 := Aside0.mk n0
        have hz : ((n : Int) == 0) = false := by simp; omega
        have hmod : (j : Int) % (n : Int) = ((j % n : Nat) : Int) := by simp
        have hmn : (j : Int) % (n : Int) < (n : Int) := by rw [hmod]; omega
        have hm0 : (0 : Int) ≤ (j : Int) % (n : Int) := by rw [hmod]; omega
        have hmt : ((j : Int) % (n : Int)).toNat = j % n := by rw [hmod]; omega
        have hfv : (wrap64 ((p (j % n) : Nat) : Int)).tmod 3 = (fq : Int) := by
          have h1 := hb (j % n)
          rw [show wrap64 ((p (j % n) : Nat) : Int) = ((p (j % n) : Nat) : Int) by unfold wrap64; omega, Int.tmod_eq_emod_of_nonneg (by omega), ← HF3.out]
          simp
        clear hmod
        clear hcl hap pre n0 hjn
        go_upto_region 7 with (fail)
        (try simp only [hfv])
        have hs1 := HS1.out
        rw [← HFQ.out] at hs1
        clear HS1 HFQ HF3 hfv t0 t0' cp_ hz hmn hm0 hmt
        rcases HPRE.out with rfl | rfl | rfl
        · have HS2 := Aside0.mk (show crashT n p d.row d.safe (j + 1) = crashT n p d.row d.safe j from hs1)
          clear hs1
          go_wp2
          simp only [hwj]
          go_roundw
          case measure => simp only [intOf]; omega
          case rel => exact ⟨j + 1, rfl, ⟨by omega⟩, ⟨by rw [HS2.out]; exact HV.out⟩, F, HE⟩
        · have HS2 := Aside0.mk (show crashT n p d.row d.safe (j + 1) = (crashT n p d.row d.safe j).set k.toNat s from hs1)
          clear hs1
          have hl1 := crashT_length n p d.row d.safe j
          obtain ⟨bs, cc, cur, hsv, hSb, hbs, _, _, _, htk⟩ := HV.out.safe.open (by simp only [hl1]; omega)
          simp only [hl1] at hsv
          subst hsv
          obtain ⟨ux, hx⟩ : ∃ u, ((crashT n p d.row d.safe j).map Value.string)[k.toNat]? = some u := ⟨_, List.getElem?_eq_getElem (by simp only [List.length_map, hl1]; omega)⟩
          have HB := Aside0.mk hbs
          have HNE := Aside0.mk (show ad.block ≠ bs from fun e => by
            rcases HAP.out with h | ⟨cs, fr, h⟩
            · exact h (e ▸ hSb)
            · have h2 := (HE.out ad rfl HN0.out).trans h
              exact blk_ne h2 hbs (by decide) e)
          go_upto_region 9 with (fail)
          have q0 : W.drew.cell? ⟨tb, 0, none⟩ = some (.int .i64 k) := blk_cell (w := W.drew) HTA.out 0
          have q1 : W.drew.cell? ⟨tb, 1, none⟩ = some (.string s) := blk_cell (w := W.drew) HTA.out 1
          have z0 : W.drew.cell? ⟨g, 0, none⟩ = some (.slice (some ⟨bs, 0, none⟩) d.safe.length cc) := HV.out.drew.cells.1.1
          have HX := Aside0.mk hx; have HTK := Aside0.mk htk
          clear hbs
          refine start_ (n := 10) (S := fun w' => w'.cell? ⟨g, 0, none⟩ = some (.slice (some ⟨bs, 0, none⟩) d.safe.length cc) ∧ w'.cell? ⟨tb, 0, none⟩ = some (.int .i64 k) ∧ w'.cell? ⟨tb, 1, none⟩ = some (.string s)) (ds := [9]) #[false, false, false, false, false, false, false, false, false, false] (by kernel_rfl) rfl rfl ⟨z0, q0, q1⟩ (fun hHeld => ?_)
          refine pure_ (i := 0) (N := some 34) (v := ?_) (a' := ?_) #[true, false, false, false, false, false, false, false, false, false] rfl rfl (by kernel_rfl) (fun _ _ _ h => h) (Or.inl ⟨by kernel_rfl, ?_⟩) ?_ ?_
          rotate_left
          · intro w'
            go_simp
            with_reducible rfl
          rotate_left
          · simp only [Act.put, List.setIfInBounds_toArray, List.set_cons_zero, List.set_cons_succ, i64_w, i32_w]
            rfl
          refine pure_ (i := 1) (N := some 35) (v := ?_) (a' := ?_) #[true, true, false, false, false, false, false, false, false, false] rfl rfl (by kernel_rfl) (fun _ _ _ h => h) (Or.inl ⟨by kernel_rfl, ?_⟩) ?_ ?_
          rotate_left
          · intro w'
            go_simp
            with_reducible rfl
          rotate_left
          · simp only [Act.put, List.setIfInBounds_toArray, List.set_cons_zero, List.set_cons_succ, i64_w, i32_w]
            rfl
          refine pure_ (i := 2) (N := some 36) (v := ?_) (a' := ?_) #[true, true, true, false, false, false, false, false, false, false] rfl rfl (by kernel_rfl) (fun _ _ _ h => h) (Or.inl ⟨by kernel_rfl, ?_⟩) ?_ ?_
          rotate_left
          · intro w'
            go_simp
            with_reducible rfl
          rotate_left
          · simp only [Act.put, List.setIfInBounds_toArray, List.set_cons_zero, List.set_cons_succ, i64_w, i32_w]
            rfl
          refine pure_ (i := 4) (N := some 38) (v := ?_) (a' := ?_) #[true, true, true, false, true, false, false, false, false, false] rfl rfl (by kernel_rfl) (fun _ _ _ h => h) (Or.inl ⟨by kernel_rfl, ?_⟩) ?_ ?_
          rotate_left
          · intro w'
            go_simp
            with_reducible rfl
          rotate_left
          · simp only [Act.put, List.setIfInBounds_toArray, List.set_cons_zero, List.set_cons_succ, i64_w, i32_w]
            rfl
          refine pure_ (i := 6) (N := some 40) (v := ?_) (a' := ?_) #[true, true, true, false, true, false, true, false, false, false] rfl rfl (by kernel_rfl) (fun _ _ _ h => h) (Or.inl ⟨by kernel_rfl, ?_⟩) ?_ ?_
          rotate_left
          · intro w'
            go_simp
            with_reducible rfl
          rotate_left
          · simp only [Act.put, List.setIfInBounds_toArray, List.set_cons_zero, List.set_cons_succ, i64_w, i32_w]
            rfl
          refine take_ (i := 3) (N := some 37) (v := ?_) (a' := ?_) #[true, true, true, true, true, false, true, false, false, false] rfl rfl (by kernel_rfl) (fun _ _ _ h => h) (Or.inl ⟨by kernel_rfl, ?_⟩) hHeld ?_ ?_
          rotate_left
          · rintro w' ⟨s0_, s1_, s2_⟩
            go_simp
            with_reducible rfl
          rotate_left
          · simp only [Act.put, List.setIfInBounds_toArray, List.set_cons_zero, List.set_cons_succ, i64_w, i32_w]
            rfl
          refine take_ (i := 5) (N := some 39) (v := ?_) (a' := ?_) #[true, true, true, true, true, true, true, false, false, false] rfl rfl (by kernel_rfl) (fun _ _ _ h => h) (Or.inl ⟨by kernel_rfl, ?_⟩) hHeld ?_ ?_
          rotate_left
          · rintro w' ⟨s0_, s1_, s2_⟩
            go_simp
            with_reducible rfl
          rotate_left
          · simp only [Act.put, List.setIfInBounds_toArray, List.set_cons_zero, List.set_cons_succ, i64_w, i32_w]
            rfl
          refine take_ (i := 7) (N := some 41) (v := ?_) (a' := ?_) #[true, true, true, true, true, true, true, true, false, false] rfl rfl (by kernel_rfl) (fun _ _ _ h => h) (Or.inl ⟨by kernel_rfl, ?_⟩) hHeld ?_ ?_
          rotate_left
          · rintro w' ⟨s0_, s1_, s2_⟩
            go_simp
            with_reducible rfl
          rotate_left
          · simp only [Act.put, List.setIfInBounds_toArray, List.set_cons_zero, List.set_cons_succ, i64_w, i32_w]
            rfl
          refine pure_ (i := 8) (N := some 42) (v := ?_) (a' := ?_) #[true, true, true, true, true, true, true, true, true, false] rfl rfl (by kernel_rfl) (fun _ _ _ h => h) (Or.inl ⟨by kernel_rfl, ?_⟩) ?_ ?_
          rotate_left
          · intro w'
            go_simp
            with_reducible rfl
          rotate_left
          · simp only [Act.put, List.setIfInBounds_toArray, List.set_cons_zero, List.set_cons_succ, i64_w, i32_w]
            rfl
          refine last_ (i := 9) (N := none) #[true, true, true, true, true, true, true, true, true, true] rfl rfl (by kernel_rfl) (by decide) (fun K hK => ?_)
          have cz : W.drew.cell? ⟨bs, k.toNat, none⟩ = some _ := cell_of (w := W.drew) HB.out HTK.out HX.out
          have fz : W.drew.frozen? ⟨bs, k.toNat, none⟩ = false := blk_frozen (w := W.drew) HB.out _
          refine skip_ (w1 := ?_) (by kernel_rfl) rfl ?_ ?_
          rotate_left
          · go_simp
            rfl
          refine hK _ _ ?_
          clear hK K cz fz
          refine done_ (by kernel_rfl) ?_
          have v3 := HV.out.drew.set_safe k.toNat (by simp only [hl1]; omega) s
          simp only [← HS2.out] at v3
          have HV4 := Aside0.mk v3
          have F4 := Aside0.mk (F.out.drew.setCell (p := ⟨bs, k.toNat, none⟩) (.inl hSb) (.string s))
          have HE4 := Aside0.mk (show ∀ ad', some ad = some ad' → 0 < n → (W.drew.setCell ⟨bs, k.toNat, none⟩ (.string s)).heap[ad'.block]? = w.heap[ad'.block]? from fun ad' ha hn => by
            injection ha with ha
            subst ha
            exact (Below.heap_setCell W.drew ⟨bs, k.toNat, none⟩ (.string s) ad.block HNE.out).trans (HE.out ad rfl hn))
          clear v3
          simp only [Exit.inBlock, Exit.then]
          go_wp2
          simp only [hwj]
          go_roundw
          case measure =>
            show d.row.length - (intOf (.int .i64 ((j + 1 : Nat) : Int))).toNat < d.row.length - (intOf (.int .i64 (j : Int))).toNat
            simp only [intOf]; omega
          case rel => exact ⟨j + 1, rfl, ⟨by omega⟩, HV4, F4, HE4⟩
        · have HS2 := Aside0.mk (show crashT n p d.row d.safe (j + 1) = (crashT n p d.row d.safe j).set k.toNat (noughts 128) from hs1)
          clear hs1
          have hl1 := crashT_length n p d.row d.safe j
          obtain ⟨bs, cc, cur, hsv, hSb, hbs, _, _, _, htk⟩ := HV.out.safe.open (by simp only [hl1]; omega)
          simp only [hl1] at hsv
          subst hsv
          obtain ⟨ux, hx⟩ : ∃ u, ((crashT n p d.row d.safe j).map Value.string)[k.toNat]? = some u := ⟨_, List.getElem?_eq_getElem (by simp only [List.length_map, hl1]; omega)⟩
          have HB := Aside0.mk hbs
          have HNE := Aside0.mk (show ad.block ≠ bs from fun e => by
            rcases HAP.out with h | ⟨cs, fr, h⟩
            · exact h (e ▸ hSb)
            · have h2 := (HE.out ad rfl HN0.out).trans h
              exact blk_ne h2 hbs (by decide) e)
          go_upto_region 11 with (fail)
          have q0 : W.drew.cell? ⟨tb, 0, none⟩ = some (.int .i64 k) := blk_cell (w := W.drew) HTA.out 0
          have z0 : W.drew.cell? ⟨g, 0, none⟩ = some (.slice (some ⟨bs, 0, none⟩) d.safe.length cc) := HV.out.drew.cells.1.1
          have HV2 := Aside0.mk HV.out.drew; have F2 := Aside0.mk F.out.drew
          have HX := Aside0.mk hx; have HTK := Aside0.mk htk
          clear hbs
          refine start_ (n := 9) (S := fun w' => w'.cell? ⟨g, 0, none⟩ = some (.slice (some ⟨bs, 0, none⟩) d.safe.length cc) ∧ w'.cell? ⟨tb, 0, none⟩ = some (.int .i64 k)) (ds := [8]) #[false, false, false, false, false, false, false, false, false] (by kernel_rfl) rfl rfl ⟨z0, q0⟩ (fun hHeld => ?_)
          refine pure_ (i := 0) (N := some 45) (v := ?_) (a' := ?_) #[true, false, false, false, false, false, false, false, false] rfl rfl (by kernel_rfl) (fun _ _ _ h => h) (Or.inl ⟨by kernel_rfl, ?_⟩) ?_ ?_
          rotate_left
          · intro w'
            go_simp
            with_reducible rfl
          rotate_left
          · simp only [Act.put, List.setIfInBounds_toArray, List.set_cons_zero, List.set_cons_succ, i64_w, i32_w]
            rfl
          refine pure_ (i := 1) (N := some 46) (v := ?_) (a' := ?_) #[true, true, false, false, false, false, false, false, false] rfl rfl (by kernel_rfl) (fun _ _ _ h => h) (Or.inl ⟨by kernel_rfl, ?_⟩) ?_ ?_
          rotate_left
          · intro w'
            go_simp
            with_reducible rfl
          rotate_left
          · simp only [Act.put, List.setIfInBounds_toArray, List.set_cons_zero, List.set_cons_succ, i64_w, i32_w]
            rfl
          refine pure_ (i := 2) (N := some 47) (v := ?_) (a' := ?_) #[true, true, true, false, false, false, false, false, false] rfl rfl (by kernel_rfl) (fun _ _ _ h => h) (Or.inl ⟨by kernel_rfl, ?_⟩) ?_ ?_
          rotate_left
          · intro w'
            go_simp
            with_reducible rfl
          rotate_left
          · simp only [Act.put, List.setIfInBounds_toArray, List.set_cons_zero, List.set_cons_succ, i64_w, i32_w]
            rfl
          refine pure_ (i := 4) (N := some 49) (v := ?_) (a' := ?_) #[true, true, true, false, true, false, false, false, false] rfl rfl (by kernel_rfl) (fun _ _ _ h => h) (Or.inl ⟨by kernel_rfl, ?_⟩) ?_ ?_
          rotate_left
          · intro w'
            go_simp
            with_reducible rfl
          rotate_left
          · simp only [Act.put, List.setIfInBounds_toArray, List.set_cons_zero, List.set_cons_succ, i64_w, i32_w]
            rfl
          refine take_ (i := 3) (N := some 48) (v := ?_) (a' := ?_) #[true, true, true, true, true, false, false, false, false] rfl rfl (by kernel_rfl) (fun _ _ _ h => h) (Or.inl ⟨by kernel_rfl, ?_⟩) hHeld ?_ ?_
          rotate_left
          · rintro w' ⟨s0_, s1_⟩
            go_simp
            with_reducible rfl
          rotate_left
          · simp only [Act.put, List.setIfInBounds_toArray, List.set_cons_zero, List.set_cons_succ, i64_w, i32_w]
            rfl
          refine take_ (i := 5) (N := some 50) (v := ?_) (a' := ?_) #[true, true, true, true, true, true, false, false, false] rfl rfl (by kernel_rfl) (fun _ _ _ h => h) (Or.inl ⟨by kernel_rfl, ?_⟩) hHeld ?_ ?_
          rotate_left
          · rintro w' ⟨s0_, s1_⟩
            go_simp
            with_reducible rfl
          rotate_left
          · simp only [Act.put, List.setIfInBounds_toArray, List.set_cons_zero, List.set_cons_succ, i64_w, i32_w]
            rfl
          refine one_ (i := 6) (N := some 51) #[true, true, true, true, true, true, true, false, false] rfl rfl (by kernel_rfl) (by decide) (fun K hK => ?_)
          refine goes_ Try.func39 (by kernel_rfl) rfl #[] (by rfl) rfl rfl (by (try simp only [List.map_toArray, List.map_cons, List.map_nil]); first | done | rfl) ?_
          refine (zero_calls _).mono ?_
          rintro e v1_ ⟨rfl, hb1⟩
          refine ⟨_, rfl, ?_⟩
          have b_ := (hb1.block bs (blk_lt HB.out)).trans HB.out
          have HB3 := Aside0.mk b_
          have HV3 := Aside0.mk (HV2.out.below hb1)
          have F3 := Aside0.mk (F2.out.below hb1)
          have HE3 := Aside0.mk (show ∀ ad', some ad = some ad' → 0 < n → v1_.heap[ad'.block]? = w.heap[ad'.block]? from fun ad' ha hn => by
            injection ha with ha
            subst ha
            obtain ⟨ad2, ha2, hcl2, _⟩ := HP.out hn
            injection ha2 with ha2
            subst ha2
            exact (hb1.block ad.block (Nat.lt_of_lt_of_le (Pk.lt hn hcl2) F2.out.size)).trans (HE.out ad rfl hn))
          refine hK _ _ ⟨pw_cell_below hb1 hHeld.1, pw_cell_below hb1 hHeld.2⟩ (fun hHeld => ?_)
          clear hK K hb1 b_
          refine norm_ (a' := ?_) ?_ ?_
          rotate_left
          · show Act.put _ (some 51) _ = _
            simp only [Act.put, List.setIfInBounds_toArray, List.set_cons_zero, List.set_cons_succ, i64_w, i32_w]
            rfl
          refine pure_ (i := 7) (N := some 52) (v := ?_) (a' := ?_) #[true, true, true, true, true, true, true, true, false] rfl rfl (by kernel_rfl) (fun _ _ _ h => h) (Or.inl ⟨by kernel_rfl, ?_⟩) ?_ ?_
          rotate_left
          · intro w'
            go_simp
            with_reducible rfl
          rotate_left
          · simp only [Act.put, List.setIfInBounds_toArray, List.set_cons_zero, List.set_cons_succ, i64_w, i32_w]
            rfl
          refine last_ (i := 8) (N := none) #[true, true, true, true, true, true, true, true, true] rfl rfl (by kernel_rfl) (by decide) (fun K hK => ?_)
          have cz : v1_.cell? ⟨bs, k.toNat, none⟩ = some _ := cell_of (w := v1_) HB3.out HTK.out HX.out
          have fz : v1_.frozen? ⟨bs, k.toNat, none⟩ = false := blk_frozen (w := v1_) HB3.out _
          refine skip_ (w1 := ?_) (by kernel_rfl) rfl ?_ ?_
          rotate_left
          · go_simp
            rfl
          refine hK _ _ ?_
          clear hK K cz fz
          have v3 := HV3.out.set_safe k.toNat (by simp only [hl1]; omega) (noughts 128)
          simp only [← HS2.out] at v3
          have HV4 := Aside0.mk v3
          have F4 := Aside0.mk (F3.out.setCell (p := ⟨bs, k.toNat, none⟩) (.inl hSb) (.string (noughts 128)))
          have HE4 := Aside0.mk (show ∀ ad', some ad = some ad' → 0 < n → (v1_.setCell ⟨bs, k.toNat, none⟩ (.string (noughts 128))).heap[ad'.block]? = w.heap[ad'.block]? from fun ad' ha hn => by
            injection ha with ha
            subst ha
            exact (Below.heap_setCell v1_ ⟨bs, k.toNat, none⟩ (.string (noughts 128)) ad.block HNE.out).trans (HE3.out ad rfl hn))
          clear v3
          refine done_ (by kernel_rfl) ?_
          simp only [Exit.inBlock, Exit.then]
          go_wp2
          simp only [hwj]
          go_roundw
          case measure =>
            show d.row.length - (intOf (.int .i64 ((j + 1 : Nat) : Int))).toNat < d.row.length - (intOf (.int .i64 (j : Int))).toNat
            simp only [intOf]; omega
          case rel => exact ⟨j + 1, rfl, ⟨by omega⟩, HV4, F4, HE4⟩
      · have hn : n = 0 := by omega
        have t0 : decide ((0 : Int) < (n : Int)) = false := decide_eq_false (by omega)
        have t0' : decide (0 < n) = false := decide_eq_false n0
        have h0 : fq = 0 := by have := HFQ.out; unfold fateN at this; rw [if_pos hn] at this; exact this
        have hs1 := HS1.out
        rw [← HFQ.out, h0] at hs1
        have hs2 : crashT n p d.row d.safe (j + 1) = crashT n p d.row d.safe j := hs1
        have HS2 := Aside0.mk hs2
        clear hs1 hs2 h0 pre n0 hn HS1 HFQ
        go_wp2
        simp only [hwj]
        go_roundw
        case measure => simp only [intOf]; omega
        case rel => exact ⟨j + 1, rfl, ⟨by omega⟩, ⟨by rw [HS2.out]; exact HV.out⟩, F, HE⟩
    · have hjl : j = d.row.length := by have := J.out; omega
      subst hjl
      go_upto_region 14 with (go_at_call 42; with_reducible refine (settle_calls _ g S _ sv _ m _ HV.out).mono ?_; rintro e w5 ⟨rfl, hk5, hf5⟩; have HK0 := Aside0.mk hk5; have F5 := Aside0.mk (F.out.trans hf5); clear hk5 hf5)
      obtain ⟨sv5, rv5, m5, hv5⟩ := HK0.out
      have HK := Aside0.mk hv5
      clear HV F HK0 hv5
      have HV := HK
      clear HK
      obtain ⟨⟨c0, c1, c2, c3, c4⟩, fr_⟩ := HV.out.cells; have f0 := fr_ 0; have f1 := fr_ 1; have f2 := fr_ 2; have f3 := fr_ 3; have f4 := fr_ 4; clear fr_
      go_wp2
      (try simp only [Exit.inBlock, Exit.then])
      refine bodyPost_end (results_none rfl _ _ _) rfl ?_
      exact ⟨rfl, ⟨sv5, rv5, m5, (HV.out.set_gone false).set_fuse (-1)⟩, (F5.out.setCell (p := ⟨g, 3, none⟩) (.inl HV.out.sg) _).setCell (p := ⟨g, 4, none⟩) (.inl HV.out.sg) _⟩
end Go.Proofs.Ytbdfdfahpdilpaa.Dk
