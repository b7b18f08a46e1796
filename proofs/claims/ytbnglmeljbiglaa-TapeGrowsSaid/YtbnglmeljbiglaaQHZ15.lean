import Derived.Test.YtbnglmeljbiglaaQHZ0
import Derived.Test.YtbnglmeljbiglaaQHZ1
import Derived.Test.YtbnglmeljbiglaaQHZ2
import Derived.Test.YtbnglmeljbiglaaQHZ3
import Derived.Test.YtbnglmeljbiglaaQHZ4
import Derived.Test.YtbnglmeljbiglaaQHZ5
import Derived.Test.YtbnglmeljbiglaaQHZ6
import Derived.Test.YtbnglmeljbiglaaQHZ7
import Derived.Test.YtbnglmeljbiglaaQHZ8
import Derived.Test.YtbnglmeljbiglaaQHZ9
import Derived.Test.YtbnglmeljbiglaaQHZ10
import Derived.Test.YtbnglmeljbiglaaQHZ11
import Derived.Test.YtbnglmeljbiglaaQHZ12
import Derived.Test.YtbnglmeljbiglaaQHZ13
import Derived.Test.YtbnglmeljbiglaaQHZ14
set_option maxRecDepth 8192
namespace Go.Proofs.Ytbnglmeljbiglaa.Wl
open Go.Proofs.Ytbnglmeljbiglaa.Rgn
open Go.Proofs.Ytbnglmeljbiglaa.X4 Go.Proofs.Ytbnglmeljbiglaa.Pt Go.Proofs.Ytbnglmeljbiglaa.Ptb Go Go.RowKit Go.ChangeMaps Go.Proofs.Ytbnglmeljbiglaa.Arr Go.Proofs.Ytbnglmeljbiglaa.Mp Go.Proofs.Ytbnglmeljbiglaa.Ow Go.Proofs.Ytbnglmeljbiglaa.Dk Go.Proofs.Ytbnglmeljbiglaa.Fr Go.Proofs.YtbnglmeljbiglaaW.PrintWords Go.Proofs.YtbnglmeljbiglaaW.PrintLast Go.Proofs.YtbnglmeljbiglaaW.PrintMore
set_option linter.unusedVariables false
set_option linter.unusedSimpArgs false
theorem tadd_nil (q : Value) (hq : q = .pointer none ∨ ∃ p, q = .pointer (some p)) (w : World) : Calls Try.prog 38 #[.pointer none, q] w fun e w' => e = .returned (.tuple #[.int .i64 0, .int .i64 10]) ∧ Below w.heap.size w w' := by
  have HQ := Aside0.mk hq
  clear hq
  go_enter Try.func38, Try.ntmps38
  go_upto_region 2 with (go_at_call 58; (with_reducible refine (joins_nil _ HQ.out _).mono ?_); rintro e w1 ⟨rfl, hb1⟩; have HB := Aside0.mk hb1; clear hb1)
  go_wp2
  go_ret2
  exact ⟨rfl, HB.out⟩
theorem tadd_none (p : Addr) (w : World) : Calls Try.prog 38 #[.pointer (some p), .pointer none] w fun e w' => e = .returned (.tuple #[.int .i64 0, .int .i64 10]) ∧ Below w.heap.size w w' := by
  go_enter Try.func38, Try.ntmps38
  go_upto_region 2 with (go_at_call 58; (with_reducible refine (joins_none _ _).mono ?_); rintro e w1 ⟨rfl, hb1⟩; have HB := Aside0.mk hb1; clear hb1)
  go_wp2
  go_ret2
  exact ⟨rfl, HB.out⟩
/-- What a tape takes of a log. -/
def tk (W : WS) (E : Int) : List En_ := (scanF W (E * 128)).takeWhile fun x => safeW W x.f0
theorem tk_take {W : WS} {L : List En_} {j : Nat} (h1 : ∀ x ∈ L.take j, safeW W x.f0 = true) (h2 : ∀ h : j < L.length, safeW W (L[j]).f0 = false) : L.takeWhile (fun x => safeW W x.f0) = L.take j := by
  induction L generalizing j with
  | nil => simp
  | cons a t ih =>
    cases j with
    | zero =>
      have := h2 (by simp)
      simp only [List.getElem_cons_zero] at this
      simp [List.takeWhile, this]
    | succ j =>
      have ha := h1 a (by simp)
      rw [List.takeWhile_cons, if_pos ha, List.take_succ_cons]
      rw [ih (fun x hx => h1 x (by rw [List.take_succ_cons]; exact List.mem_cons_of_mem _ hx)) (fun h => by have := h2 (by simpa using h); simpa using this)]
theorem scan_at {W : WS} (F : Fit W) (hbd : ∀ i, (bdy W i).size ≤ 112) (hg : W.op - W.low ≤ 1000) (from_ : Int) : ∀ x ∈ scanF W from_, 0 ≤ x.f0 ∧ x.f0 < 9000000000000000 := by
  intro x hx
  unfold scanF scanK at hx
  obtain ⟨q, hq, hx⟩ := List.mem_flatMap.1 hx
  have hq := List.mem_range.1 hq
  obtain ⟨y, hy, rfl⟩ := List.mem_map.1 (List.mem_filter.1 hx).1
  have h1 := allS_at y hy
  have h2 := hbd (W.low + (q : Int))
  have h3 := F.low; have h4 := F.op
  show 0 ≤ y.f0 + (W.low + (q : Int)) * 128 ∧ y.f0 + (W.low + (q : Int)) * 128 < _
  omega
/-- A row that is only read, beside a row of one's own. -/
def EF (n0 : Nat) (w : World) (c : Nat → Nat) (v : Value) (A : Option Addr) (n : Nat) (L : List En_) : Prop := Kd.F X4.k44 w (fun q => okC n0 c 5 q ∧ some q ≠ v.ownBlock) A n L
section
variable {M : List Nat} {n0 : Nat} {w0 w w' : World} {c c' : Nat → Nat} {gt gl m g : Nat} {E : Int} {v : Value} {xs L : List En_} {W : WS} {A : Option Addr} {n : Nat}
theorem TP.cast {ys : List En_} (h : TP w0 w c gt E v xs) (e : xs = ys) : TP w0 w c gt E v ys := e ▸ h
theorem EF.below (h : EF n0 w c v A n L) (hb : Below w.heap.size w w') : EF n0 w' c v A n L := Kd.F_below h hb
theorem EF.recol (h : EF n0 w c v A n L) (hc : ∀ k, k < w.heap.size → c' k = c k) : EF n0 w c' v A n L := Kd.F_mono (Kd.F_bound h) (fun k hk => ⟨by
  rcases hk.1.1 with h1 | h1
  · exact .inl h1
  · exact .inr ((hc k hk.2).trans h1), hk.1.2⟩)
theorem EF.keepcol (h : EF n0 w c v A n L) (hf : Fr M w c w' c') (hb : Below w.heap.size w w') : EF n0 w' c' v A n L := (h.recol hf.col).below hb
theorem EF.after {v1 : Value} (h : EF n0 w c v A n L) (hg : w.grownBy w' v.ownBlock) (hat : v1.ownBlock = v.ownBlock ∨ ∃ b, v1.ownBlock = some b ∧ w.heap.size ≤ b) (hc : ∀ k, k < w.heap.size → c' k = c k) : EF n0 w' c' v1 A n L := Kd.F_after (h.recol hc) hg hat
theorem fk_recol {x : En_} {cs : List Value} {b : Option Nat} (h : Kd.FK X4.k44 w (fun q => okC n0 c 5 q ∧ some q ≠ b) x cs) (hc : ∀ k, k < w.heap.size → c' k = c k) : Kd.FK X4.k44 w (fun q => okC n0 c' 5 q ∧ some q ≠ b) x cs := Kd.FK_mono (Kd.FK_bound h) (fun k hk => ⟨by
  rcases hk.1.1 with h1 | h1
  · exact .inl h1
  · exact .inr ((hc k hk.2).trans h1), hk.1.2⟩)
theorem EF.cell (h : EF n0 w c v A n L) (g : Nat) (hg : ∀ k, okC n0 c 5 k → k ≠ g) (p : Addr) (hp : p.block = g) (u : Value) : EF n0 (w.setCell p u) c v A n L := Kd.F_far h (fun k hk => by rw [hp]; exact hg k hk.1) u
/-- Elder blocks but the tape's own stay. -/
def ZS (w w' : World) (gt : Nat) (v : Value) : Prop := ∀ k, k < w.heap.size → k ≠ gt → some k ≠ v.ownBlock → w'.heap[k]? = w.heap[k]?
theorem ZS.refl (w : World) (gt : Nat) (v : Value) : ZS w w gt v := fun _ _ _ _ => rfl
theorem ZS.keep {w1 w2 : World} {c1 c2 : Nat → Nat} (h : ZS w w1 gt v) (hz : w.heap.size ≤ w1.heap.size) (hf : Fr [] w1 c1 w2 c2) : ZS w w2 gt v := fun k hk h1 h2 => (hf.blk k (Nat.lt_of_lt_of_le hk hz) (by simp)).trans (h k hk h1 h2)
theorem ZS.below {w1 w2 : World} (h : ZS w w1 gt v) (hz : w.heap.size ≤ w1.heap.size) (hb : Below w1.heap.size w1 w2) : ZS w w2 gt v := fun k hk h1 h2 => (hb.block k (Nat.lt_of_lt_of_le hk hz)).trans (h k hk h1 h2)
theorem ZS.cell {w1 : World} (h : ZS w w1 gt v) (i : Nat) (u : Value) : ZS w (w1.setCell ⟨gt, i, none⟩ u) gt v := fun k hk h1 h2 => (Below.heap_setCell w1 ⟨gt, i, none⟩ u k h1).trans (h k hk h1 h2)
/-- What a tape's row is now: as it was, or new. -/
def VO (w : World) (v v1 : Value) : Prop := ∀ k, v1.ownBlock = some k → k < w.heap.size → v.ownBlock = some k
theorem ZS.grown {w1 w2 : World} {v1 : Value} (h : ZS w w1 gt v) (hz : w.heap.size ≤ w1.heap.size) (ho : VO w v v1) (hg : w1.grownBy w2 v1.ownBlock) : ZS w w2 gt v := fun k hk h1 h2 => (hg.block k (Nat.lt_of_lt_of_le hk hz) (fun e1 => h2 (ho k e1.symm hk).symm)).trans (h k hk h1 h2)
theorem VO.next {w1 : World} {v1 v2 : Value} (h : VO w v v1) (hz : w.heap.size ≤ w1.heap.size) (hat : v2.ownBlock = v1.ownBlock ∨ ∃ b, v2.ownBlock = some b ∧ w1.heap.size ≤ b) : VO w v v2 := fun k hk hlt => by
  rcases hat with e1 | ⟨b, e1, hb⟩
  · exact h k (e1 ▸ hk) hlt
  · rw [e1] at hk
    injection hk with hk
    omega
set_option maxHeartbeats 16000000 in
set_option maxRecDepth 20000 in
theorem tadd_calls (h : TP w0 w c gt E v xs) (G : Gr w0 w c) (hl : LO w c gl m g W) (F : Fit W) (hbd : ∀ i, (bdy W i).size ≤ 112) (hgap : W.low ≤ W.op + 1 ∧ W.op - W.low ≤ 1000) (hE : 0 ≤ E ∧ E ≤ 1000000000) (hj : W.low ≤ E) (hx : xs.length ≤ 1000000000) :
    Calls Try.prog 38 #[.pointer (some ⟨gt, 0, none⟩), .pointer (some ⟨gl, 0, none⟩)] w fun e w' => ∃ v' c', e = .returned (.tuple #[.int .i64 ((tk W E).length : Nat), .int .i64 0]) ∧ Fr [2, 5] w c w' c' ∧ TP w0 w' c' gt (max E W.first) v' (xs ++ tk W E) ∧ ZS w w' gt v := by
  have HT := Aside0.mk h; have G := Aside0.mk G; have HL := Aside0.mk hl; have HF := Aside0.mk F; have HBD := Aside0.mk hbd; have HGP := Aside0.mk hgap; have HE := Aside0.mk hE; have HX := Aside0.mk hx
  have HJ := Aside0.mk (show joinE W E = 0 from if_neg (by omega)); have HRR := Aside0.mk (Fr.refl [2, 5] w c); have HZS := Aside0.mk (ZS.refl w gt v)
  have hwe : wrap64 (E * 128) = E * 128 := by unfold wrap64; omega
  clear h hl F hbd hgap hE hj hx
  go_enter Try.func38, Try.ntmps38
  go_upto_region 4 with (go_at_call 58; (with_reducible refine (joins_calls HT.out HL.out).mono ?_); rintro e w1 ⟨rfl, hb1⟩; rw [HJ.out]; have HT_n := Aside0.mk (TP.below HT.out hb1); have G_n := Aside0.mk (G.out.below hb1); have HL_n := Aside0.mk (HL.out.below hb1); have HRR_n := Aside0.mk (Fr.trans HRR.out (Fr.of_below hb1)); have HZS_n := Aside0.mk (ZS.below HZS.out HRR.out.size hb1); clear HT G HL HRR HZS; have HT := HT_n; have G := G_n; have HL := HL_n; have HRR := HRR_n; have HZS := HZS_n; clear HT_n G_n HL_n HRR_n HZS_n; clear hb1)
  have c0 := HT.out.c0
  go_upto_region 5 with (go_at_call 20; (with_reducible refine (scan_calls HL.out HF.out HBD.out HGP.out (E * 128)).mono ?_); rintro e w2 ⟨v2, rfl, hn, hb1⟩; obtain ⟨As, cps, rfl⟩ := Kd.N_slice hn; have hf := Fr.of_paint (M := []) (c := c) hb1 5; have HN := Aside0.mk hn; have HV := Aside0.mk (Kd.N_lt HT.out.row); have HT_n := Aside0.mk (TP.keep HT.out G.out hf (by decide) (by decide) (by decide)); have G_n := Aside0.mk (G.out.step hf (by decide)); have HL_n := Aside0.mk (HL.out.keep hf (by decide)); have HRR_n := Aside0.mk (Fr.trans HRR.out (hf.mono (by decide))); have HZS_n := Aside0.mk (ZS.keep HZS.out HRR.out.size hf); clear HT G HL HRR HZS; have HT := HT_n; have G := G_n; have HL := HL_n; have HRR := HRR_n; have HZS := HZS_n; clear HT_n G_n HL_n HRR_n HZS_n; clear hb1 hn hf)
  clear c0 hwe
  have HAT := Aside0.mk (scan_at HF.out HBD.out HGP.out.2 (E * 128)); have HLL := Aside0.mk (show (scanF W (E * 128)).length ≤ 1000000 from scan_len W HBD.out HGP.out.2 _)
  have HTK := Aside0.mk (show tk W E = (scanF W (E * 128)).takeWhile (fun x => safeW W x.f0) from rfl)
  generalize scanF W (E * 128) = L at *
  have HEF := Aside0.mk (show EF w0.heap.size w2 (Dk.paint c w1.heap.size 5) v As L.length L from Kd.F_mono (Kd.N_F HN.out) (fun q hq => ⟨.inr (paint_new hq), fun e1 => by have := HV.out q e1.symm; omega⟩))
  clear HN HV
  generalize Dk.paint c w1.heap.size 5 = c2 at *
  have hth := HT.out
  rw [show xs = xs ++ L.take 0 by rw [List.take_zero, List.append_nil]] at hth
  clear HT
  have HT := Aside0.mk hth; clear hth
  go_loopw [4, 23] (fun nv iv wr => ∃ (j : Nat) (vr : Value) (cr : Nat → Nat), nv = .int .i64 j ∧ iv = .int .i64 j ∧ Aside0 (j ≤ L.length) ∧ Aside0 (∀ x ∈ L.take j, safeW W x.f0 = true) ∧ Aside0 (TP w0 wr cr gt E vr (xs ++ L.take j)) ∧ Aside0 (Gr w0 wr cr) ∧ Aside0 (LO wr cr gl m g W) ∧ Aside0 (Fr [2, 5] w c wr cr) ∧ Aside0 (ZS w wr gt v) ∧ Aside0 (VO w v vr) ∧ Aside0 (EF w0.heap.size wr cr vr As L.length L)) (fun _ iv _ => L.length - (intOf iv).toNat)
  case atStart => exact ⟨0, v, c2, rfl, rfl, ⟨Nat.zero_le _⟩, ⟨fun x hx => by simp at hx⟩, HT, G, HL, HRR, HZS, ⟨fun k hk _ => hk⟩, HEF⟩
  case round =>
    clear HT G HL HRR HZS HEF
    obtain ⟨j, vr, cr, rfl, rfl, J, HS, HT, G, HL, HRR, HZS, HVO, HEF⟩ := hrel
    obtain ⟨Av, cpv, hvr⟩ := HT.out.row.slice
    subst hvr
    generalize hys : xs ++ L.take j = ys at *
    have HYS := Aside0.mk hys
    clear hys
    by_cases hlt : j < L.length
    · have h1 : (j : Int) < (L.length : Int) := by omega
      have hj0 : (0 : Int) ≤ (j : Int) := by omega
      have hwj : wrap64 ((j : Int) + 1) = ((j + 1 : Nat) : Int) := by have := HLL.out; unfold wrap64; omega
      have HLT := Aside0.mk hlt
      obtain ⟨ad, cs, hA, hcl, hFK, hcc, _⟩ := Kd.F_get HEF.out X4.z44 (j : Int) (by omega) h1
      subst hA
      rw [Int.toNat_natCast] at hFK hcc
      have hxd : L.getD j X4.z44 = L[j] := by rw [List.getD_eq_getElem?_getD, List.getElem?_eq_getElem hlt]; rfl
      rw [hxd] at hFK
      have HXM := Aside0.mk (List.getElem_mem hlt)
      have HTN := Aside0.mk (show L.take (j + 1) = L.take j ++ [L[j]] by rw [List.take_add_one, List.getElem?_eq_getElem hlt]; rfl)
      have HXJ := Aside0.mk (fun (hu : safeW W (L[j]).f0 = false) => tk_take (W := W) HS.out (fun _ => hu))
      generalize L[j] = x at *
      obtain ⟨A10, c10, A11, c11, hcs, l10, g10, l11, g11⟩ := X4.k44_open (Kd.FK_now hFK)
      subst hcs
      have HFK := Aside0.mk hFK
      have HXB := Aside0.mk (HAT.out x HXM.out)
      have q0 : wr.cell? (ad.add (j * 12)) = some (.int .i64 x.f0) := hcc 0 _ rfl
      have q1 : wr.cell? ⟨(ad.add (j * 12)).block, (ad.add (j * 12)).off + 1, none⟩ = some (.int .i64 x.f1.f0) := by rw [← add_field _ _ 1 (by omega)]; exact hcc 1 _ rfl
      have q2 : wr.cell? ⟨(ad.add (j * 12)).block, (ad.add (j * 12)).off + 2, none⟩ = some (.int .i64 x.f1.f1) := by rw [← add_field _ _ 2 (by omega)]; exact hcc 2 _ rfl
      have q3 : wr.cell? ⟨(ad.add (j * 12)).block, (ad.add (j * 12)).off + 3, none⟩ = some (.int .i64 x.f1.f2) := by rw [← add_field _ _ 3 (by omega)]; exact hcc 3 _ rfl
      have q4 : wr.cell? ⟨(ad.add (j * 12)).block, (ad.add (j * 12)).off + 4, none⟩ = some (.int .i64 x.f1.f3) := by rw [← add_field _ _ 4 (by omega)]; exact hcc 4 _ rfl
      have q5 : wr.cell? ⟨(ad.add (j * 12)).block, (ad.add (j * 12)).off + 5, none⟩ = some (.int .i64 x.f1.f4) := by rw [← add_field _ _ 5 (by omega)]; exact hcc 5 _ rfl
      have q6 : wr.cell? ⟨(ad.add (j * 12)).block, (ad.add (j * 12)).off + 6, none⟩ = some (.int .i64 x.f1.f5) := by rw [← add_field _ _ 6 (by omega)]; exact hcc 6 _ rfl
      have q7 : wr.cell? ⟨(ad.add (j * 12)).block, (ad.add (j * 12)).off + 7, none⟩ = some (.int .i64 x.f1.f6) := by rw [← add_field _ _ 7 (by omega)]; exact hcc 7 _ rfl
      have q8 : wr.cell? ⟨(ad.add (j * 12)).block, (ad.add (j * 12)).off + 8, none⟩ = some (.string x.f1.f7) := by rw [← add_field _ _ 8 (by omega)]; exact hcc 8 _ rfl
      have q9 : wr.cell? ⟨(ad.add (j * 12)).block, (ad.add (j * 12)).off + 9, none⟩ = some (.string x.f1.f8) := by rw [← add_field _ _ 9 (by omega)]; exact hcc 9 _ rfl
      have q10 : wr.cell? ⟨(ad.add (j * 12)).block, (ad.add (j * 12)).off + 10, none⟩ = some (.slice A10 x.f1.f9.length c10) := by rw [← add_field _ _ 10 (by omega)]; exact hcc 10 _ rfl
      have q11 : wr.cell? ⟨(ad.add (j * 12)).block, (ad.add (j * 12)).off + 11, none⟩ = some (.slice A11 x.f1.f10.length c11) := by rw [← add_field _ _ 11 (by omega)]; exact hcc 11 _ rfl
      clear hcc hFK l10 g10 l11 g11 hcl hxd hlt
      go_upto_region 7 with (fail)
      have hbk := (Below.refl wr.heap.size wr).alloc (Nat.le_refl _) (.cells #[.int .i64 x.f0, .int .i64 x.f1.f0, .int .i64 x.f1.f1, .int .i64 x.f1.f2, .int .i64 x.f1.f3, .int .i64 x.f1.f4, .int .i64 x.f1.f5, .int .i64 x.f1.f6, .string x.f1.f7, .string x.f1.f8, .slice A10 x.f1.f9.length c10, .slice A11 x.f1.f10.length c11] 44)
      have HFK2 := Aside0.mk (Kd.FK_below (fk_recol HFK.out (c' := Dk.paint cr wr.heap.size 4) (fun k hk => paint_old hk)) hbk); clear HFK
      have hf := fr_alloc [] wr cr 4 (.cells #[.int .i64 x.f0, .int .i64 x.f1.f0, .int .i64 x.f1.f1, .int .i64 x.f1.f2, .int .i64 x.f1.f3, .int .i64 x.f1.f4, .int .i64 x.f1.f5, .int .i64 x.f1.f6, .string x.f1.f7, .string x.f1.f8, .slice A10 x.f1.f9.length c10, .slice A11 x.f1.f10.length c11] 44)
      have HT_n := Aside0.mk (TP.keep HT.out G.out hf (by decide) (by decide) (by decide)); have G_n := Aside0.mk (G.out.step hf (by decide)); have HL_n := Aside0.mk (HL.out.keep hf (by decide)); have HRR_n := Aside0.mk (Fr.trans HRR.out (hf.mono (by decide))); have HZS_n := Aside0.mk (ZS.keep HZS.out HRR.out.size hf); have HEF_n := Aside0.mk (EF.keepcol HEF.out hf hbk); clear HT G HL HRR HZS HEF; have HT := HT_n; have G := G_n; have HL := HL_n; have HRR := HRR_n; have HZS := HZS_n; have HEF := HEF_n; clear HT_n G_n HL_n HRR_n HZS_n HEF_n
      have LX := Aside0.mk (loc_alloc wr cr 4 #[.int .i64 x.f0, .int .i64 x.f1.f0, .int .i64 x.f1.f1, .int .i64 x.f1.f2, .int .i64 x.f1.f3, .int .i64 x.f1.f4, .int .i64 x.f1.f5, .int .i64 x.f1.f6, .string x.f1.f7, .string x.f1.f8, .slice A10 x.f1.f9.length c10, .slice A11 x.f1.f10.length c11] 44)
      clear hf
      generalize Dk.paint cr wr.heap.size 4 = cLX at *
      generalize wr.alloc (.cells #[.int .i64 x.f0, .int .i64 x.f1.f0, .int .i64 x.f1.f1, .int .i64 x.f1.f2, .int .i64 x.f1.f3, .int .i64 x.f1.f4, .int .i64 x.f1.f5, .int .i64 x.f1.f6, .string x.f1.f7, .string x.f1.f8, .slice A10 x.f1.f9.length c10, .slice A11 x.f1.f10.length c11] 44) = W4 at *
      generalize wr.heap.size = bx at *
      clear hbk q0 q1 q2 q3 q4 q5 q6 q7 q8 q9 q10 q11
      have hcs := LX.out.blk
      obtain ⟨x0, x1, x2, x3, x4, x5, x6, x7, x8, x9, x10, x11⟩ := cells12 W4 bx hcs
      clear hcs
      cases hs : safeW W x.f0 with
      | false =>
        have HSV := Aside0.mk hs; have HTJ := Aside0.mk (HTK.out.trans (HXJ.out hs)); have HTL := Aside0.mk (show (L.take j).length = j by rw [List.length_take]; have := HLT.out; omega)
        clear hs
        go_upto_region 11 with (go_at_call 24; (with_reducible refine (safe_calls HL.out x.f0 (by have := HXB.out; omega)).mono ?_); rintro e w6 ⟨rfl, hb1⟩; rw [HSV.out]; have HT_n := Aside0.mk (TP.below HT.out hb1); have G_n := Aside0.mk (G.out.below hb1); have HL_n := Aside0.mk (HL.out.below hb1); have HRR_n := Aside0.mk (Fr.trans HRR.out (Fr.of_below hb1)); have HZS_n := Aside0.mk (ZS.below HZS.out HRR.out.size hb1); clear HT G HL HRR HZS; have HT := HT_n; have G := G_n; have HL := HL_n; have HRR := HRR_n; have HZS := HZS_n; clear HT_n G_n HL_n HRR_n HZS_n; clear hb1)
        (try clear x0 x1 x2 x3 x4 x5 x6 x7 x8 x9 x10 x11)
        go_loopw [] (fun wq => ∃ (k : Int) (cq : Nat → Nat) (vq : Value), Aside0 (E ≤ k ∧ k ≤ max E W.first) ∧ Aside0 (TP w0 wq cq gt k vq ys) ∧ Aside0 (LO wq cq gl m g W) ∧ Aside0 (Gr w0 wq cq) ∧ Aside0 (Fr [2, 5] w c wq cq) ∧ Aside0 (ZS w wq gt v)) (fun wq => match wq.cell? ⟨gt, 0, none⟩ with | some u => (W.first - intOf u).toNat | none => 0)
        case atStart => exact ⟨E, _, _, ⟨Int.le_refl _, by omega⟩, HT, HL, G, HRR, HZS⟩
        case round =>
          clear HT HL G HRR HZS
          obtain ⟨k, cq, vq, HK, HT, HL, G, HRR, HZS⟩ := hrel
          have c0 := HT.out.c0
          have f0 := HT.out.fz 0
          have hwk : wrap64 (k * 128) = k * 128 := by have := HK.out; have := HE.out; have := HF.out.first; unfold wrap64; omega
          have hw1 : wrap64 (k + 1) = k + 1 := by have := HK.out; have := HE.out; have := HF.out.first; unfold wrap64; omega
          have HSC := Aside0.mk (show sctr (k * 128) = k by have := sctr_at (i := k) (k := 0) (by have := HK.out; have := HE.out; omega) (by decide); simpa using this)
          have HKB := Aside0.mk (show -9223372036854775808 ≤ k * 128 ∧ k * 128 < 9223372036854775808 by have := HK.out; have := HE.out; have := HF.out.first; omega)
          have HMK := Aside0.mk HT.out.c0
          by_cases hk : k < W.first
          · have HSV := Aside0.mk (show safeW W (k * 128) = true by unfold safeW; rw [HSC.out]; exact decide_eq_true hk)
            have HKF := Aside0.mk hk; clear hk
            go_upto_region 12 with (go_at_call 24; (with_reducible refine (safe_calls HL.out (k * 128) HKB.out).mono ?_); rintro e w7 ⟨rfl, hb1⟩; rw [HSV.out]; have HT_n := Aside0.mk (TP.below HT.out hb1); have G_n := Aside0.mk (G.out.below hb1); have HL_n := Aside0.mk (HL.out.below hb1); have HRR_n := Aside0.mk (Fr.trans HRR.out (Fr.of_below hb1)); have HZS_n := Aside0.mk (ZS.below HZS.out HRR.out.size hb1); clear HT G HL HRR HZS; have HT := HT_n; have G := G_n; have HL := HL_n; have HRR := HRR_n; have HZS := HZS_n; clear HT_n G_n HL_n HRR_n HZS_n; clear hb1)
            clear c0 f0
            have c0 := HT.out.c0; have f0 := HT.out.fz 0
            have hst := HT.out.blk.set 0 (.int .i64 (k + 1)); have hsf := HT.out.blk.set_fr 0 (.int .i64 (k + 1))
            have HT3 := Aside0.mk (show TP w0 (w7.setCell ⟨gt, 0, none⟩ (.int .i64 (k + 1))) cq gt (k + 1) vq ys from ⟨hst, HT.out.row.keep G.out hsf (by decide) (by decide)⟩)
            have HL3 := Aside0.mk (HL.out.keep hsf (by decide)); have G3 := Aside0.mk (G.out.step hsf (by decide)); have HRR3 := Aside0.mk (HRR.out.trans (hsf.mono (by decide))); have HZS3 := Aside0.mk (HZS.out.cell 0 (.int .i64 (k + 1)))
            clear hst hsf
            go_wp2
            clear c0 f0
            generalize w7.setCell ⟨gt, 0, none⟩ (.int .i64 (k + 1)) = w8 at *
            go_roundw
            case rel => exact ⟨k + 1, _, _, ⟨by have := HK.out; have := HKF.out; omega⟩, HT3, HL3, G3, HRR3, HZS3⟩
            case measure =>
              rw [HT3.out.c0, HMK.out]
              have := HKF.out
              simp only [intOf]
              omega
          · have HSV := Aside0.mk (show safeW W (k * 128) = false by unfold safeW; rw [HSC.out]; exact decide_eq_false hk)
            have HKM := Aside0.mk (show k = max E W.first by have := HK.out; omega)
            clear hk
            go_wp2_with (go_at_call 24; (with_reducible refine (safe_calls HL.out (k * 128) HKB.out).mono ?_); rintro e w7 ⟨rfl, hb1⟩; rw [HSV.out]; have HT_n := Aside0.mk (TP.below HT.out hb1); have G_n := Aside0.mk (G.out.below hb1); have HL_n := Aside0.mk (HL.out.below hb1); have HRR_n := Aside0.mk (Fr.trans HRR.out (Fr.of_below hb1)); have HZS_n := Aside0.mk (ZS.below HZS.out HRR.out.size hb1); clear HT G HL HRR HZS; have HT := HT_n; have G := G_n; have HL := HL_n; have HRR := HRR_n; have HZS := HZS_n; clear HT_n G_n HL_n HRR_n HZS_n; clear hb1)
            go_ret2
            exact ⟨_, _, by first | (rw [HTJ.out, HTL.out]; done) | (rw [HTJ.out, HTL.out]; rfl), HRR.out, by rw [HTJ.out, ← HKM.out, HYS.out]; exact HT.out, HZS.out⟩
      | true =>
        have HSV := Aside0.mk hs; clear hs
        go_upto_region 8 with (go_at_call 24; (with_reducible refine (safe_calls HL.out x.f0 (by have := HXB.out; omega)).mono ?_); rintro e w6 ⟨rfl, hb1⟩; rw [HSV.out]; have HT_n := Aside0.mk (TP.below HT.out hb1); have G_n := Aside0.mk (G.out.below hb1); have HL_n := Aside0.mk (HL.out.below hb1); have HRR_n := Aside0.mk (Fr.trans HRR.out (Fr.of_below hb1)); have HZS_n := Aside0.mk (ZS.below HZS.out HRR.out.size hb1); have HEF_n := Aside0.mk (EF.below HEF.out hb1); have LX_n := Aside0.mk (LX.out.below hb1); have HFK2_n := Aside0.mk (Kd.FK_below HFK2.out hb1); clear HT G HL HRR HZS HEF LX HFK2; have HT := HT_n; have G := G_n; have HL := HL_n; have HRR := HRR_n; have HZS := HZS_n; have HEF := HEF_n; have LX := LX_n; have HFK2 := HFK2_n; clear HT_n G_n HL_n HRR_n HZS_n HEF_n LX_n HFK2_n; clear hb1)
        clear x0 x1 x2 x3 x4 x5 x6 x7 x8 x9 x10 x11
        have HT_n := Aside0.mk (TP.drew HT.out); have G_n := Aside0.mk (G.out.drew); have HL_n := Aside0.mk (HL.out.drew); have HRR_n := Aside0.mk (Fr.trans HRR.out (fr_drew _ _ _)); have HZS_n := Aside0.mk (ZS.below HZS.out HRR.out.size ((Below.refl _ _).drew)); have HEF_n := Aside0.mk (EF.below HEF.out ((Below.refl _ _).drew)); have LX_n := Aside0.mk (LX.out.drew); have HFK2_n := Aside0.mk (Kd.FK_below HFK2.out ((Below.refl _ _).drew)); clear HT G HL HRR HZS HEF LX HFK2; have HT := HT_n; have G := G_n; have HL := HL_n; have HRR := HRR_n; have HZS := HZS_n; have HEF := HEF_n; have LX := LX_n; have HFK2 := HFK2_n; clear HT_n G_n HL_n HRR_n HZS_n HEF_n LX_n HFK2_n
        have hcs := LX.out.blk
        obtain ⟨x0, x1, x2, x3, x4, x5, x6, x7, x8, x9, x10, x11⟩ := cells12 w6.drew bx hcs
        clear hcs
        have t1 := HT.out.c1
        have HLM := Aside0.mk (show (ys.length + 1) * 144 ≤ 140737488355328 by have := HX.out; have := HLL.out; have h9 := congrArg List.length HYS.out; rw [List.length_append, List.length_take] at h9; omega)
        refine start_ (n := 11) (S := fun w' => w'.cell? ⟨gt, 1, none⟩ = some (.slice Av ys.length cpv) ∧ w'.cell? ⟨bx, 0, none⟩ = some (.int .i64 x.f0) ∧ w'.cell? ⟨bx, 1, none⟩ = some (.int .i64 x.f1.f0) ∧ w'.cell? ⟨bx, 2, none⟩ = some (.int .i64 x.f1.f1) ∧ w'.cell? ⟨bx, 3, none⟩ = some (.int .i64 x.f1.f2) ∧ w'.cell? ⟨bx, 4, none⟩ = some (.int .i64 x.f1.f3) ∧ w'.cell? ⟨bx, 5, none⟩ = some (.int .i64 x.f1.f4) ∧ w'.cell? ⟨bx, 6, none⟩ = some (.int .i64 x.f1.f5) ∧ w'.cell? ⟨bx, 7, none⟩ = some (.int .i64 x.f1.f6) ∧ w'.cell? ⟨bx, 8, none⟩ = some (.string x.f1.f7) ∧ w'.cell? ⟨bx, 9, none⟩ = some (.string x.f1.f8) ∧ w'.cell? ⟨bx, 10, none⟩ = some (.slice A10 x.f1.f9.length c10) ∧ w'.cell? ⟨bx, 11, none⟩ = some (.slice A11 x.f1.f10.length c11)) (ds := [10]) #[false, false, false, false, false, false, false, false, false, false, false] (by kernel_rfl) rfl rfl ⟨t1, x0, x1, x2, x3, x4, x5, x6, x7, x8, x9, x10, x11⟩ (fun hHeld => ?_)
        refine rgp 0 32 ?_
        refine rgp 1 33 ?_
        refine rgp 2 34 ?_
        refine rgp 3 35 ?_
        refine rgt 4 36 hHeld ?_
        refine rgt 5 37 hHeld ?_
        refine one_ (i := 6) (N := some 38) #[true, true, true, true, true, true, true, false, false, false, false] rfl rfl (by kernel_rfl) (by decide) (fun K hK => ?_)
        generalize hW6 : w6.drew = W6 at *
        refine value_ (w1 := W6.alloc (.cells #[.int .i64 x.f0, .int .i64 x.f1.f0, .int .i64 x.f1.f1, .int .i64 x.f1.f2, .int .i64 x.f1.f3, .int .i64 x.f1.f4, .int .i64 x.f1.f5, .int .i64 x.f1.f6, .string x.f1.f7, .string x.f1.f8, .slice A10 x.f1.f9.length c10, .slice A11 x.f1.f10.length c11] 44)) (v := .slice (some ⟨W6.heap.size, 0, none⟩) 1 1) (by kernel_rfl) rfl ?_ ?_
        · go_simp
          (try rfl)
        have hb1 := (Below.refl W6.heap.size W6).alloc (Nat.le_refl _) (.cells #[.int .i64 x.f0, .int .i64 x.f1.f0, .int .i64 x.f1.f1, .int .i64 x.f1.f2, .int .i64 x.f1.f3, .int .i64 x.f1.f4, .int .i64 x.f1.f5, .int .i64 x.f1.f6, .string x.f1.f7, .string x.f1.f8, .slice A10 x.f1.f9.length c10, .slice A11 x.f1.f10.length c11] 44)
        refine hK _ _ ⟨pw_cell_below hb1 t1, pw_cell_below hb1 x0, pw_cell_below hb1 x1, pw_cell_below hb1 x2, pw_cell_below hb1 x3, pw_cell_below hb1 x4, pw_cell_below hb1 x5, pw_cell_below hb1 x6, pw_cell_below hb1 x7, pw_cell_below hb1 x8, pw_cell_below hb1 x9, pw_cell_below hb1 x10, pw_cell_below hb1 x11⟩ (fun hHeld => ?_)
        clear hK K hb1
        refine norm_ (a' := ?_) ?_ ?_
        rotate_left
        · show Act.put _ (some 38) _ = _
          simp only [Act.put, List.setIfInBounds_toArray, List.set_cons_zero, List.set_cons_succ, i64_w, i32_w]
          rfl
        refine one_ (i := 7) (N := some 39) #[true, true, true, true, true, true, true, true, false, false, false] rfl rfl (by kernel_rfl) (by decide) (fun K hK => ?_)
        refine Kd.N_append_step X4.k44 (w0 := w0) (W := W6) w0.heap.size (by kernel_rfl) (.tmp 36) (.tmp 38) 33 44 zE 144 rfl Try.underlying33 info_ent rfl (by decide) (by decide) (.slice Av ys.length cpv) ys x [.int .i64 x.f0, .int .i64 x.f1.f0, .int .i64 x.f1.f1, .int .i64 x.f1.f2, .int .i64 x.f1.f3, .int .i64 x.f1.f4, .int .i64 x.f1.f5, .int .i64 x.f1.f6, .string x.f1.f7, .string x.f1.f8, .slice A10 x.f1.f9.length c10, .slice A11 x.f1.f10.length c11] (okC w0.heap.size (Dk.paint cLX W6.heap.size 5) 5) _ rfl rfl (fk_recol HFK2.out (c' := Dk.paint cLX W6.heap.size 5) (fun k hk => paint_old hk)) (fun _ hk => hk) (ok_new _ _ _ _) (HT.out.row.paint 5) G.out.bel G.out.bel.size HLM.out ?_
        intro v1 w7 hv hb5 hg hat
        generalize hzs : ys ++ [x] = zs at hv
        have HZQ := Aside0.mk hzs
        clear hzs
        obtain ⟨A7, c7_, hv7⟩ := Kd.N_slice hv
        subst hv7
        have hf := fr_grown hg 5 HT.out.row.own
        have HV1 := Aside0.mk (show NL X4.k44 44 w0.heap.size w7 (Dk.paint cLX W6.heap.size 5) 5 (.slice A7 zs.length c7_) zs from hv)
        have HEF_n := Aside0.mk (HEF.out.after hg hat hf.col); have HB_n := Aside0.mk (HT.out.blk.keep hf (by decide)); have HZS_n := Aside0.mk (HZS.out.grown HRR.out.size HVO.out hg); have HVO_n := Aside0.mk (HVO.out.next HRR.out.size hat); clear HZS HVO; have HZS := HZS_n; have HVO := HVO_n; clear HZS_n HVO_n; have G_n := Aside0.mk (G.out.step hf (by decide)); have HL_n := Aside0.mk (HL.out.keep hf (by decide)); have HRR_n := Aside0.mk (Fr.trans HRR.out (hf.mono (by decide))); have LX_n := Aside0.mk (LX.out.keep hf (by decide)); clear G HL HRR LX; have G := G_n; have HL := HL_n; have HRR := HRR_n; have LX := LX_n; clear G_n HL_n HRR_n LX_n; clear HT HEF HFK2; have HEF := HEF_n; have HTB := HB_n; clear HEF_n HB_n hv hb5 hg hat hf t1 x0 x1 x2 x3 x4 x5 x6 x7 x8 x9 x10 x11
        generalize Dk.paint cLX W6.heap.size 5 = c7 at *
        have hcs := LX.out.blk
        obtain ⟨x0, x1, x2, x3, x4, x5, x6, x7, x8, x9, x10, x11⟩ := cells12 w7 bx hcs
        clear hcs
        have t1 : w7.cell? ⟨gt, 1, none⟩ = some (.slice Av ys.length cpv) := blk_cell HTB.out.blk 1
        refine hK _ _ ⟨t1, x0, x1, x2, x3, x4, x5, x6, x7, x8, x9, x10, x11⟩ (fun hHeld => ?_)
        clear hK K
        refine norm_ (a' := ?_) ?_ ?_
        rotate_left
        · show Act.put _ (some 39) _ = _
          simp only [Act.put, List.setIfInBounds_toArray, List.set_cons_zero, List.set_cons_succ, i64_w, i32_w]
          rfl
        refine rgp 8 40 ?_
        refine rgp 9 41 ?_
        refine last_ (i := 10) (N := none) #[true, true, true, true, true, true, true, true, true, true, true] rfl rfl (by kernel_rfl) (by decide) (fun K hK => ?_)
        have f1 : w7.frozen? ⟨gt, 1, none⟩ = false := blk_frozen HTB.out.blk 1
        refine skip_ (w1 := ?_) (by kernel_rfl) rfl ?_ ?_
        rotate_left
        · go_simp
          rfl
        have hst := HTB.out.set 1 (.slice A7 zs.length c7_); have hsf := HTB.out.set_fr 1 (.slice A7 zs.length c7_)
        have hfar : ∀ k, okC w0.heap.size c7 5 k → k ≠ gt := fun k hk e1 => by
          have h8 := HTB.out.col
          subst e1
          rcases hk with h1 | h1
          · have h2 := G.out.olds k h1; omega
          · omega
        have HEF3 := Aside0.mk (HEF.out.cell gt hfar ⟨gt, 1, none⟩ rfl (.slice A7 zs.length c7_))
        clear hfar
        have HT3 := Aside0.mk (show TP w0 (w7.setCell ⟨gt, 1, none⟩ (.slice A7 zs.length c7_)) c7 gt E (.slice A7 zs.length c7_) zs from ⟨hst, HV1.out.keep G.out hsf (by decide) (by decide)⟩)
        have HL3 := Aside0.mk (HL.out.keep hsf (by decide)); have G3 := Aside0.mk (G.out.step hsf (by decide)); have HRR3 := Aside0.mk (HRR.out.trans (hsf.mono (by decide))); have HZS3 := Aside0.mk (HZS.out.cell 1 (.slice A7 zs.length c7_))
        clear hst hsf f1
        refine hK _ _ ?_
        clear hK K t1 x0 x1 x2 x3 x4 x5 x6 x7 x8 x9 x10 x11
        refine done_ (by kernel_rfl) ?_
        generalize w7.setCell ⟨gt, 1, none⟩ (.slice A7 zs.length c7_) = w8 at *
        simp only [Exit.inBlock, Exit.then]
        have HT4 := Aside0.mk (HT3.out.cast (show zs = xs ++ L.take (j + 1) by rw [← HZQ.out, ← HYS.out, List.append_assoc, ← HTN.out]))
        have hsn : ∀ y ∈ L.take (j + 1), safeW W y.f0 = true := fun y hy => by
          rw [HTN.out] at hy
          rcases List.mem_append.1 hy with hy | hy
          · exact HS.out y hy
          · rw [List.mem_singleton.1 hy]; exact HSV.out
        have HSN := Aside0.mk hsn; clear hsn
        go_wp2
        go_roundw
        case rel => exact ⟨j + 1, _, _, by first | rfl | (rw [hwj]) | go_num, by first | rfl | (rw [hwj]) | go_num, ⟨by have := HLT.out; omega⟩, HSN, HT4, G3, HL3, HRR3, HZS3, HVO, HEF3⟩
        case measure =>
          have := HLT.out
          (try rw [hwj])
          show L.length - (intOf (.int .i64 ((j + 1 : Nat) : Int))).toNat < L.length - (intOf (.int .i64 (j : Int))).toNat
          simp only [intOf]; omega
    · obtain rfl : j = L.length := by have := J.out; omega
      have HTJ := Aside0.mk (show tk W E = L.take L.length from HTK.out.trans (tk_take HS.out (fun h => absurd h (Nat.lt_irrefl _))))
      have HTL := Aside0.mk (show (L.take L.length).length = L.length by rw [List.take_length])
      clear hlt
      go_upto_region 11 with (fail)
      go_loopw [] (fun wq => ∃ (k : Int) (cq : Nat → Nat) (vq : Value), Aside0 (E ≤ k ∧ k ≤ max E W.first) ∧ Aside0 (TP w0 wq cq gt k vq ys) ∧ Aside0 (LO wq cq gl m g W) ∧ Aside0 (Gr w0 wq cq) ∧ Aside0 (Fr [2, 5] w c wq cq) ∧ Aside0 (ZS w wq gt v)) (fun wq => match wq.cell? ⟨gt, 0, none⟩ with | some u => (W.first - intOf u).toNat | none => 0)
      case atStart => exact ⟨E, _, _, ⟨Int.le_refl _, by omega⟩, HT, HL, G, HRR, HZS⟩
      case round =>
        clear HT HL G HRR HZS
        obtain ⟨k, cq, vq, HK, HT, HL, G, HRR, HZS⟩ := hrel
        have c0 := HT.out.c0
        have f0 := HT.out.fz 0
        have hwk : wrap64 (k * 128) = k * 128 := by have := HK.out; have := HE.out; have := HF.out.first; unfold wrap64; omega
        have hw1 : wrap64 (k + 1) = k + 1 := by have := HK.out; have := HE.out; have := HF.out.first; unfold wrap64; omega
        have HSC := Aside0.mk (show sctr (k * 128) = k by have := sctr_at (i := k) (k := 0) (by have := HK.out; have := HE.out; omega) (by decide); simpa using this)
        have HKB := Aside0.mk (show -9223372036854775808 ≤ k * 128 ∧ k * 128 < 9223372036854775808 by have := HK.out; have := HE.out; have := HF.out.first; omega)
        have HMK := Aside0.mk HT.out.c0
        by_cases hk : k < W.first
        · have HSV := Aside0.mk (show safeW W (k * 128) = true by unfold safeW; rw [HSC.out]; exact decide_eq_true hk)
          have HKF := Aside0.mk hk; clear hk
          go_upto_region 12 with (go_at_call 24; (with_reducible refine (safe_calls HL.out (k * 128) HKB.out).mono ?_); rintro e w7 ⟨rfl, hb1⟩; rw [HSV.out]; have HT_n := Aside0.mk (TP.below HT.out hb1); have G_n := Aside0.mk (G.out.below hb1); have HL_n := Aside0.mk (HL.out.below hb1); have HRR_n := Aside0.mk (Fr.trans HRR.out (Fr.of_below hb1)); have HZS_n := Aside0.mk (ZS.below HZS.out HRR.out.size hb1); clear HT G HL HRR HZS; have HT := HT_n; have G := G_n; have HL := HL_n; have HRR := HRR_n; have HZS := HZS_n; clear HT_n G_n HL_n HRR_n HZS_n; clear hb1)
          clear c0 f0
          have c0 := HT.out.c0; have f0 := HT.out.fz 0
          have hst := HT.out.blk.set 0 (.int .i64 (k + 1)); have hsf := HT.out.blk.set_fr 0 (.int .i64 (k + 1))
          have HT3 := Aside0.mk (show TP w0 (w7.setCell ⟨gt, 0, none⟩ (.int .i64 (k + 1))) cq gt (k + 1) vq ys from ⟨hst, HT.out.row.keep G.out hsf (by decide) (by decide)⟩)
          have HL3 := Aside0.mk (HL.out.keep hsf (by decide)); have G3 := Aside0.mk (G.out.step hsf (by decide)); have HRR3 := Aside0.mk (HRR.out.trans (hsf.mono (by decide))); have HZS3 := Aside0.mk (HZS.out.cell 0 (.int .i64 (k + 1)))
          clear hst hsf
          go_wp2
          clear c0 f0
          generalize w7.setCell ⟨gt, 0, none⟩ (.int .i64 (k + 1)) = w8 at *
          go_roundw
          case rel => exact ⟨k + 1, _, _, ⟨by have := HK.out; have := HKF.out; omega⟩, HT3, HL3, G3, HRR3, HZS3⟩
          case measure =>
            rw [HT3.out.c0, HMK.out]
            have := HKF.out
            simp only [intOf]
            omega
        · have HSV := Aside0.mk (show safeW W (k * 128) = false by unfold safeW; rw [HSC.out]; exact decide_eq_false hk)
          have HKM := Aside0.mk (show k = max E W.first by have := HK.out; omega)
          clear hk
          go_wp2_with (go_at_call 24; (with_reducible refine (safe_calls HL.out (k * 128) HKB.out).mono ?_); rintro e w7 ⟨rfl, hb1⟩; rw [HSV.out]; have HT_n := Aside0.mk (TP.below HT.out hb1); have G_n := Aside0.mk (G.out.below hb1); have HL_n := Aside0.mk (HL.out.below hb1); have HRR_n := Aside0.mk (Fr.trans HRR.out (Fr.of_below hb1)); have HZS_n := Aside0.mk (ZS.below HZS.out HRR.out.size hb1); clear HT G HL HRR HZS; have HT := HT_n; have G := G_n; have HL := HL_n; have HRR := HRR_n; have HZS := HZS_n; clear HT_n G_n HL_n HRR_n HZS_n; clear hb1)
          go_ret2
          exact ⟨_, _, by first | (rw [HTJ.out, HTL.out]; done) | (rw [HTJ.out, HTL.out]; rfl), HRR.out, by rw [HTJ.out, ← HKM.out, HYS.out]; exact HT.out, HZS.out⟩
end
end Go.Proofs.Ytbnglmeljbiglaa.Wl
