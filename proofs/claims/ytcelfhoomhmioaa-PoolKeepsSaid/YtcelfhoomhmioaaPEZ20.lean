import Derived.Test.YtcelfhoomhmioaaPEZ0
import Derived.Test.YtcelfhoomhmioaaPEZ1
import Derived.Test.YtcelfhoomhmioaaPEZ2
import Derived.Test.YtcelfhoomhmioaaPEZ3
import Derived.Test.YtcelfhoomhmioaaPEZ4
import Derived.Test.YtcelfhoomhmioaaPEZ5
import Derived.Test.YtcelfhoomhmioaaPEZ6
import Derived.Test.YtcelfhoomhmioaaPEZ7
import Derived.Test.YtcelfhoomhmioaaPEZ8
import Derived.Test.YtcelfhoomhmioaaPEZ9
import Derived.Test.YtcelfhoomhmioaaPEZ10
import Derived.Test.YtcelfhoomhmioaaPEZ11
import Derived.Test.YtcelfhoomhmioaaPEZ12
import Derived.Test.YtcelfhoomhmioaaPEZ13
import Derived.Test.YtcelfhoomhmioaaPEZ14
import Derived.Test.YtcelfhoomhmioaaPEZ15
import Derived.Test.YtcelfhoomhmioaaPEZ16
import Derived.Test.YtcelfhoomhmioaaPEZ17
import Derived.Test.YtcelfhoomhmioaaPEZ18
set_option maxRecDepth 8192
namespace Go.Proofs.Ytcelfhoomhmioaa.X4
open Go.Proofs.Ytcelfhoomhmioaa.Rgn
open Go Go.RowKit Go.ChangeMaps Go.Proofs.Ytcelfhoomhmioaa.Pl Go.Proofs.Ytcelfhoomhmioaa.Arr Go.Proofs.Ytcelfhoomhmioaa.Ow Go.Proofs.Ytcelfhoomhmioaa.Dk Go.Proofs.Ytcelfhoomhmioaa.Fr Go.Proofs.YtcelfhoomhmioaaW.PrintWords Go.Proofs.YtcelfhoomhmioaaW.PrintLast Go.Proofs.YtcelfhoomhmioaaW.PrintMore Go.Proofs.Ytcelfhoomhmioaa.Wl Go.Proofs.Ytcelfhoomhmioaa.St
set_option linter.unusedVariables false
set_option linter.unusedSimpArgs false
/-- Eight pages, laid. -/
def pgF (want : Int → Int × ByteArray) : Nat → Value := fun j => if j % 2 = 0 then .int .i64 (want ((j / 2 : Nat) : Int)).1 else .string (want ((j / 2 : Nat) : Int)).2
def pgC (want : Int → Int × ByteArray) : Array Value := ((List.range 16).map (pgF want)).toArray
theorem pgC_get (want : Int → Int × ByteArray) {i : Nat} (h : i < 16) : (pgC want)[i]? = some (pgF want i) := by
  unfold pgC
  simp [h]
theorem pgC_even (want : Int → Int × ByteArray) {i : Nat} (h : i < 8) : (pgC want)[i * 2]? = some (.int .i64 (want (i : Int)).1) := by
  rw [pgC_get want (by omega)]
  unfold pgF
  rw [if_pos (by omega), show i * 2 / 2 = i by omega]
theorem pgC_odd (want : Int → Int × ByteArray) {i : Nat} (h : i < 8) : (pgC want)[i * 2 + 1]? = some (.string (want (i : Int)).2) := by
  rw [pgC_get want (by omega)]
  unfold pgF
  rw [if_neg (by omega), show (i * 2 + 1) / 2 = i by omega]
theorem pgC_set (want : Int → Int × ByteArray) {i : Nat} (h : i < 8) (p : Int × ByteArray) : ((pgC want).setIfInBounds (i * 2) (.int .i64 p.1)).setIfInBounds (i * 2 + 1) (.string p.2) = pgC (St.up want i p) := by
  apply Array.ext_getElem?
  intro j
  rw [Array.getElem?_setIfInBounds, Array.getElem?_setIfInBounds]
  have hs : ∀ w, (pgC w).size = 16 := fun w => by simp [pgC]
  rw [Array.size_setIfInBounds, hs]
  by_cases hj : j < 16
  · rw [pgC_get _ hj, pgC_get _ hj]
    unfold pgF St.up
    by_cases e1 : i * 2 + 1 = j
    · rw [if_pos e1, if_pos (by omega), if_neg (by omega), if_pos (show ((j / 2 : Nat) : Int) = (i : Int) by omega)]
    · rw [if_neg e1]
      by_cases e2 : i * 2 = j
      · rw [if_pos e2, if_pos (by omega), if_pos (by omega), if_pos (show ((j / 2 : Nat) : Int) = (i : Int) by omega)]
      · rw [if_neg e2, if_neg (show ¬ ((j / 2 : Nat) : Int) = (i : Int) by omega)]
  · rw [Array.getElem?_eq_none (by rw [hs]; omega), Array.getElem?_eq_none (by rw [hs]; omega), if_neg (by omega), if_neg (by omega)]
/-- Of eight pages the first k are empty ones. -/
def fillP (k : Nat) : Int → Int × ByteArray := fun j => if j < (k : Int) then noPage else (0, ⟨#[]⟩)
theorem fillP_up (k : Nat) : St.up (fillP k) (k : Int) noPage = fillP (k + 1) := by
  funext j
  unfold St.up fillP
  by_cases e : j = (k : Int)
  · rw [if_pos e, if_pos (by omega)]
  · rw [if_neg e]
    by_cases h : j < (k : Int)
    · rw [if_pos h, if_pos (by omega)]
    · rw [if_neg h, if_neg (by omega)]
abbrev AT : TypeId := 58
theorem pg_cells {w : World} {c : Nat → Nat} {ba : Nat} {want : Int → Int × ByteArray} (h : Fr.Loc w c ba 7 (pgC want) AT) {k : Nat} (hk : k < 8) :
    w.cell? ⟨ba, k * 2, none⟩ = some (.int .i64 (want (k : Int)).1) ∧ w.cell? ⟨ba, k * 2 + 1, none⟩ = some (.string (want (k : Int)).2) ∧ w.frozen? ⟨ba, k * 2, none⟩ = false ∧ w.frozen? ⟨ba, k * 2 + 1, none⟩ = false ∧ (∀ v, (w.setCell ⟨ba, k * 2, none⟩ v).cell? ⟨ba, k * 2 + 1, none⟩ = some (.string (want (k : Int)).2)) ∧ (∀ v, (w.setCell ⟨ba, k * 2, none⟩ v).frozen? ⟨ba, k * 2 + 1, none⟩ = false) := by
  have e : ∀ {W : World} {cs : Array Value} {i : Nat} {v : Value}, W.heap[ba]? = some (.cells cs AT (0, 0)) → cs[i]? = some v → W.cell? ⟨ba, i, none⟩ = some v := fun h1 h2 => by
    rw [blk_cell h1 _, h2]
  refine ⟨e h.blk (pgC_even want hk), e h.blk (pgC_odd want hk), blk_frozen h.blk _, blk_frozen h.blk _, fun v => e (h.set _ v).blk ?_, fun v => blk_frozen (h.set _ v).blk _⟩
  rw [Array.getElem?_setIfInBounds, if_neg (by omega)]
  exact pgC_odd want hk
theorem pg_set {w : World} {c : Nat → Nat} {ba : Nat} {want : Int → Int × ByteArray} (h : Fr.Loc w c ba 7 (pgC want) AT) {k : Nat} (hk : k < 8) (p : Int × ByteArray) :
    Fr.Loc ((w.setCell ⟨ba, k * 2, none⟩ (.int .i64 p.1)).setCell ⟨ba, k * 2 + 1, none⟩ (.string p.2)) c ba 7 (pgC (St.up want k p)) AT ∧ Fr.Fr [7] w c ((w.setCell ⟨ba, k * 2, none⟩ (.int .i64 p.1)).setCell ⟨ba, k * 2 + 1, none⟩ (.string p.2)) c := by
  have h1 := h.set (k * 2) (.int .i64 p.1)
  have h2 := h1.set (k * 2 + 1) (.string p.2)
  rw [pgC_set want hk p] at h2
  exact ⟨h2, (h.set_fr _ _).trans (h1.set_fr _ _)⟩
theorem right8 (a : Int) (b : ByteArray) : careenref06_Right.f a b = some (decide (0 ≤ a ∧ a ≤ 2147483647 ∧ b.size = 220)) := by
  unfold careenref06_Right.f
  by_cases h0 : a ≥ 0
  · by_cases h1 : a ≤ 2147483647
    · rw [if_pos h0, if_pos h1]
      congr 1
      rw [Bool.eq_iff_iff]; simp only [beq_iff_eq, decide_eq_true_eq]; omega
    · rw [if_pos h0, if_neg h1]; congr 1; symm; simp; omega
  · rw [if_neg h0]; congr 1; symm; simp; omega
/-- What a record does to a page: its kind, its place on the page, its bytes. -/
def applyF (p0 : Int) (p1 : ByteArray) (at_ : Int) (kind off : Int) (after : ByteArray) : Int × ByteArray :=
  if (kind = 1 ∨ kind = 2) ∧ p0 < at_ ∧ (Page.putF p0 p1 off after at_).2.2 = 0 then ((Page.putF p0 p1 off after at_).1, (Page.putF p0 p1 off after at_).2.1) else (p0, p1)
theorem apply8 (k : Nat) (p0 : Int) (p1 : ByteArray) (at_ : Int) (a0 a1 a2 a3 a4 a5 a6 : Int) (a7 a8 : ByteArray) (l9 : List S134) (l10 : List S70) (h8 : a8.size ≤ 140737488351232) :
    careenref06_Apply.f (k + 1) p0 p1 at_ a0 a1 a2 a3 a4 a5 a6 a7 a8 l9 l10 = some (applyF p0 p1 at_ a0 a3 a8) := by
  have hp8 : careenref06_Put.f p0 p1 a3 a8 at_ = some (Page.putF p0 p1 a3 a8 at_) := if_pos h8
  have go : ∀ x : Bool, careenref06_Apply.j0 (k + 1) at_ x p0 p1 a0 a1 a2 a3 a4 a5 a6 a7 a8 l9 l10 = some (if x = false ∧ (Page.putF p0 p1 a3 a8 at_).2.2 = 0 then ((Page.putF p0 p1 a3 a8 at_).1, (Page.putF p0 p1 a3 a8 at_).2.1) else (p0, p1)) := by
    intro x
    simp only [careenref06_Apply.j0]
    cases x with
    | true => simp
    | false =>
      rw [if_neg (by simp), hp8]
      simp only [Option.bind_some]
      by_cases h : (Page.putF p0 p1 a3 a8 at_).2.2 = 0 <;> simp [h]
  unfold careenref06_Apply.f applyF
  rw [right8]
  simp only [Option.bind_some]
  by_cases hp : 0 ≤ p0 ∧ p0 ≤ 2147483647 ∧ p1.size = 220
  · rw [if_pos (by simpa using hp)]
    by_cases h1 : a0 = 1
    · rw [if_pos h1, go]; congr 1; by_cases h : p0 < at_ <;> simp [h1, h]
    · rw [if_neg h1]
      by_cases h2 : a0 = 2
      · rw [if_pos h2, go]; congr 1; by_cases h : p0 < at_ <;> simp [h2, h]
      · rw [if_neg h2, go]; simp [h1, h2]
  · have e : (Page.putF p0 p1 a3 a8 at_).2.2 = 3 := by unfold Page.putF; rw [if_neg hp]
    rw [if_neg (by simpa using hp), go]
    simp [e]
theorem applyF_ok {p0 : Int} {p1 : ByteArray} {at_ kind off : Int} {after : ByteArray} {N : Int} (hp : 0 ≤ p0 ∧ p0 < N ∧ p1.size = 220) (ha : 0 ≤ at_ ∧ at_ < N) : 0 ≤ (applyF p0 p1 at_ kind off after).1 ∧ (applyF p0 p1 at_ kind off after).1 < N ∧ (applyF p0 p1 at_ kind off after).2.size = 220 := by
  unfold applyF
  split
  · rename_i h
    have h2 := h.2.2
    unfold Page.putF at h2 ⊢
    split
    · split
      · split
        · rename_i hq
          exact ⟨ha.1, ha.2, (splice_size _ _ _ (by omega)).trans hp.2.2⟩
        · rename_i q1 q2 q3
          rw [if_pos q1, if_pos q2, if_neg q3] at h2
          exact absurd h2 (show ¬ ((2 : Int) = 0) by decide)
      · rename_i q1 q2
        rw [if_pos q1, if_neg q2] at h2
        exact absurd h2 (show ¬ ((1 : Int) = 0) by decide)
    · rename_i q1
      rw [if_neg q1] at h2
      exact absurd h2 (show ¬ ((3 : Int) = 0) by decide)
  · exact hp
theorem apply_calls8 (p0 : Int) (p1 : ByteArray) (at_ : Int) (r : S39) (A9 : Option Addr) (c9 : Nat) (A10 : Option Addr) (c10 : Nat) (w : World) (h9 : Kd.C k134 w A9 r.f9.length r.f9) (l9 : r.f9.length ≤ c9) (h10 : Kd.C k70 w A10 r.f10.length r.f10) (l10 : r.f10.length ≤ c10) (h8 : r.f8.size ≤ 1000000) :
    Calls Try.prog 23 #[.agg #[.int .i64 p0, .string p1], .int .i64 at_, .agg #[.int .i64 r.f0, .int .i64 r.f1, .int .i64 r.f2, .int .i64 r.f3, .int .i64 r.f4, .int .i64 r.f5, .int .i64 r.f6, .string r.f7, .string r.f8, .slice A9 r.f9.length c9, .slice A10 r.f10.length c10]] w fun e w' => e = .returned (.agg #[.int .i64 (applyF p0 p1 at_ r.f0 r.f3 r.f8).1, .string (applyF p0 p1 at_ r.f0 r.f3 r.f8).2]) ∧ Below w.heap.size w w' :=
  careenref06_Apply.calls 1 p0 p1 at_ r.f0 r.f1 r.f2 r.f3 r.f4 r.f5 r.f6 r.f7 r.f8 A9 c9 r.f9 A10 c10 r.f10 _ _ w h9 l9 h10 l10 (apply8 0 p0 p1 at_ r.f0 r.f1 r.f2 r.f3 r.f4 r.f5 r.f6 r.f7 r.f8 r.f9 r.f10 (by omega))
theorem few_le8 {r : S39} (h : fewB r = true) : r.f8.size ≤ 1000000 := by
  unfold fewB at h
  rw [decide_eq_true_iff] at h
  omega
end Go.Proofs.Ytcelfhoomhmioaa.X4
namespace Go.Proofs.Ytcelfhoomhmioaa.Pl
open Go Go.RowKit Go.Proofs.Ytcelfhoomhmioaa.Wl Go.Proofs.Ytcelfhoomhmioaa.St
theorem KP.same {pn nl E B : Int} {X : XS} {ws want want2 : Int → Int × ByteArray} (h : KP pn nl E B X ws want) (he : ∀ i, 0 ≤ i → i < pn → want2 i = want i) : KP pn nl E B X ws want2 := by
  refine ⟨h.wf, h.qs, h.qp, h.pnb, h.eb, h.tb, h.len, fun k f hk h0 => ?_, fun i h0 h1 hi => ?_, h.safe, fun i h0 h1 => ?_, h.az⟩
  · have hq := (h.wf.wh _ _ (h.wf.inv k f hk h0)).1
    rw [he _ h0 hq.2]
    exact h.held k f hk h0
  · rw [he i h0 h1]; exact h.free i h0 h1 hi
  · rw [he i h0 h1]; exact h.put i h0 h1
theorem KP.reads {pn nl E B : Int} {X : XS} {ws want : Int → Int × ByteArray} (h : KP pn nl E B X ws want) {k : Int} (hk : 0 ≤ k ∧ k < pn) : storeR X.d 0 pn k = ((ws k).1, (ws k).2, 0) := qs_read h.qs hk
theorem KP.sound {pn nl E B : Int} {X : XS} {ws want : Int → Int × ByteArray} (h : KP pn nl E B X ws want) {k : Int} (hk : 0 ≤ k ∧ k < pn) : (0 ≤ (ws k).1 ∧ (ws k).1 < 9223372036854775808) ∧ safeW X.W (ws k).1 = true := by
  have h1 := h.safe k hk.1 hk.2
  have h2 := h.nx
  exact ⟨by omega, (safe_iff h1.1).2 h1.2⟩
theorem sm_in {a : Int} (h : 0 ≤ a ∧ a < 9223372036854775808) : -9223372036854775808 ≤ a ∧ a < 9223372036854775808 := by omega
theorem AO.log {w w' : World} {c c' : Nat → Nat} {gp fb m gs gl ml g n cp : Nat} {b pn : Int} {X : XS} (h : AO w c gp fb m gs gl ml g n cp b pn X) {W' : WS} (hf : Fr.Fr [3] w c w' c') (hl : LO w' c' gl ml g W') : AO w' c' gp fb m gs gl ml g n cp b pn { X with W := W' } := ⟨h.po.keep hf (by decide), h.so.keep hf (by decide) (by decide), hl⟩
end Go.Proofs.Ytcelfhoomhmioaa.Pl
namespace Go.Proofs.Ytcelfhoomhmioaa.X4
open Go.Proofs.Ytcelfhoomhmioaa.Rgn Go Go.RowKit Go.ChangeMaps Go.Proofs.Ytcelfhoomhmioaa.Pl Go.Proofs.Ytcelfhoomhmioaa.Arr Go.Proofs.Ytcelfhoomhmioaa.Ow Go.Proofs.Ytcelfhoomhmioaa.Dk Go.Proofs.Ytcelfhoomhmioaa.Fr Go.Proofs.YtcelfhoomhmioaaW.PrintWords Go.Proofs.YtcelfhoomhmioaaW.PrintLast Go.Proofs.YtcelfhoomhmioaaW.PrintMore Go.Proofs.Ytcelfhoomhmioaa.Wl Go.Proofs.Ytcelfhoomhmioaa.St
set_option linter.unusedVariables false
set_option linter.unusedSimpArgs false
attribute [local go_sem high] eq_pg fld_pg1
set_option maxHeartbeats 16000000 in
set_option maxRecDepth 20000 in
theorem keeps_bad (zp zf zl : Int) (hzi : -9223372036854775808 ≤ zl ∧ zl < 9223372036854775808) (hb : zp < 1 ∨ 8 < zp ∨ zl < 8 ∨ 64 < zl ∨ zf < 1 ∨ 8 < zf) (A0 : Option Addr) (c0 : Nat) (l : List S41) (w : World) (hr : Kd.C k41 w A0 l.length l) (hc0 : l.length ≤ c0) : Calls Try.prog 6 #[.agg #[.int .i64 zp, .int .i64 zf, .int .i64 zl], .slice A0 l.length c0] w fun e w' => e = .returned (.bool true) ∧ Below w.heap.size w w' := by
  have HB := Aside0.mk hb; have HZI := Aside0.mk hzi
  clear hb hzi hr hc0
  have G := Aside0.mk (Gr.refl w)
  go_enter Try.func6, Try.ntmps6
  go_upto_region 1 with (fail)
  have hf := fr_alloc [] w (fun _ => 0) 9 (.cells #[.int .i64 zp, .int .i64 zf, .int .i64 zl] 23)
  have G_n := Aside0.mk (G.out.step hf (by decide)); clear G; have G := G_n; clear G_n
  have LZ := Aside0.mk (loc_alloc w (fun _ => 0) 9 #[.int .i64 zp, .int .i64 zf, .int .i64 zl] 23)
  clear hf
  generalize Dk.paint (fun _ => 0) w.heap.size 9 = cLZ at *
  generalize w.alloc (.cells #[.int .i64 zp, .int .i64 zf, .int .i64 zl] 23) = W0 at *
  generalize w.heap.size = zb at *
  (try clear z0 z1 z2); have z0 : W0.cell? ⟨zb, 0, none⟩ = some (.int .i64 zp) := blk_cell LZ.out.blk 0; have z1 : W0.cell? ⟨zb, 1, none⟩ = some (.int .i64 zf) := blk_cell LZ.out.blk 1; have z2 : W0.cell? ⟨zb, 2, none⟩ = some (.int .i64 zl) := blk_cell LZ.out.blk 2
  go_wp2_with (first | (go_at_call 7; (with_reducible refine (made_bad zp zf zl HZI.out HB.out _).mono ?_); rintro e w1 ⟨⟨g_, p2_, p3_, p4_, rfl⟩, hb1⟩; have G_n := Aside0.mk (G.out.below hb1); have LZ_n := Aside0.mk (LZ.out.below hb1); clear G LZ; have G := G_n; have LZ := LZ_n; clear G_n LZ_n; clear hb1) | (go_at_call 8; (with_reducible refine (awake_calls _).mono ?_); rintro e w1 ⟨rfl, hb1⟩; have G_n := Aside0.mk (G.out.below hb1); have LZ_n := Aside0.mk (LZ.out.below hb1); clear G LZ; have G := G_n; have LZ := LZ_n; clear G_n LZ_n; clear hb1))
  go_ret
  exact ⟨rfl, G.out.bel⟩
set_option maxHeartbeats 16000000 in
set_option maxRecDepth 20000 in
theorem keeps_walk (zp zl : Int) (nf : Nat) (h : 1 ≤ zp ∧ zp ≤ 8) (hl : 8 ≤ zl ∧ zl ≤ 64) (hf : 1 ≤ nf ∧ nf ≤ 8) (A0 : Option Addr) (c0 : Nat) (l : List S41) (w : World) (hr : Kd.C k41 w A0 l.length l) (hc0 : l.length ≤ c0) : Calls Try.prog 6 #[.agg #[.int .i64 zp, .int .i64 (nf : Int), .int .i64 zl], .slice A0 l.length c0] w fun e w' => e = .returned (.bool true) ∧ Below w.heap.size w w' := by
  have hm := Kd.C_max hr
  have HR := Aside0.mk hr; have HC0 := Aside0.mk hc0; have HZP := Aside0.mk h; have HZL := Aside0.mk hl; have HNF := Aside0.mk hf
  have HKP := Aside0.mk (kp_new (pn := zp) (nl := zl) (n := nf) h hl hf.1)
  clear hr hc0 h hl hf
  have G := Aside0.mk (Gr.refl w)
  go_enter Try.func6, Try.ntmps6
  go_upto_region 1 with (fail)
  have hf := fr_alloc [] w (fun _ => 0) 9 (.cells #[.int .i64 zp, .int .i64 (nf : Int), .int .i64 zl] 23)
  have G_n := Aside0.mk (G.out.step hf (by decide)); clear G; have G := G_n; clear G_n
  have LZ := Aside0.mk (loc_alloc w (fun _ => 0) 9 #[.int .i64 zp, .int .i64 (nf : Int), .int .i64 zl] 23)
  clear hf
  generalize Dk.paint (fun _ => 0) w.heap.size 9 = cLZ at *
  generalize w.alloc (.cells #[.int .i64 zp, .int .i64 (nf : Int), .int .i64 zl] 23) = W0 at *
  generalize w.heap.size = zb at *
  (try clear z0 z1 z2); have z0 : W0.cell? ⟨zb, 0, none⟩ = some (.int .i64 zp) := blk_cell LZ.out.blk 0; have z1 : W0.cell? ⟨zb, 1, none⟩ = some (.int .i64 (nf : Int)) := blk_cell LZ.out.blk 1; have z2 : W0.cell? ⟨zb, 2, none⟩ = some (.int .i64 zl) := blk_cell LZ.out.blk 2
  go_upto_region 2 with (go_at_call 7; (with_reducible refine (made_okG HZP.out HZL.out HNF.out G.out).mono ?_); rintro e w1 ⟨g, gs, gl, ml, gp, fb, m, cp, c1, rfl, hf, ha⟩; have G_n := Aside0.mk (G.out.step hf (by decide)); have LZ_n := Aside0.mk (LZ.out.keep hf (by decide)); clear G LZ; have G := G_n; have LZ := LZ_n; clear G_n LZ_n; have HA := Aside0.mk ha; clear ha hf; (try clear z0 z1 z2); have z0 : w1.cell? ⟨zb, 0, none⟩ = some (.int .i64 zp) := blk_cell LZ.out.blk 0; have z1 : w1.cell? ⟨zb, 1, none⟩ = some (.int .i64 (nf : Int)) := blk_cell LZ.out.blk 1; have z2 : w1.cell? ⟨zb, 2, none⟩ = some (.int .i64 zl) := blk_cell LZ.out.blk 2)
  generalize (⟨newP nf, 1, newW 30 zl, newD 100⟩ : XS) = X0 at *
  cases hlg : longP l with
  | true =>
    go_wp2_with (first | (go_at_call 8; (with_reducible refine (awake_calls _).mono ?_); rintro e w1 ⟨rfl, hb1⟩; have G_n := Aside0.mk (G.out.below hb1); have HA_n := Aside0.mk (HA.out.below hb1); have LZ_n := Aside0.mk (LZ.out.below hb1); clear G HA LZ; have G := G_n; have HA := HA_n; have LZ := LZ_n; clear G_n HA_n LZ_n; clear hb1; (try clear z0 z1 z2); have z0 : w1.cell? ⟨zb, 0, none⟩ = some (.int .i64 zp) := blk_cell LZ.out.blk 0; have z1 : w1.cell? ⟨zb, 1, none⟩ = some (.int .i64 (nf : Int)) := blk_cell LZ.out.blk 1; have z2 : w1.cell? ⟨zb, 2, none⟩ = some (.int .i64 zl) := blk_cell LZ.out.blk 2) | (go_at_call 9; (with_reducible refine (longP_calls _ _ _ _ (Kd.C_below HR.out G.out.bel) HC0.out).mono ?_); rintro e w1 ⟨rfl, hb1⟩; have G_n := Aside0.mk (G.out.below hb1); have HA_n := Aside0.mk (HA.out.below hb1); have LZ_n := Aside0.mk (LZ.out.below hb1); clear G HA LZ; have G := G_n; have HA := HA_n; have LZ := LZ_n; clear G_n HA_n LZ_n; clear hb1; (try clear z0 z1 z2); have z0 : w1.cell? ⟨zb, 0, none⟩ = some (.int .i64 zp) := blk_cell LZ.out.blk 0; have z1 : w1.cell? ⟨zb, 1, none⟩ = some (.int .i64 (nf : Int)) := blk_cell LZ.out.blk 1; have z2 : w1.cell? ⟨zb, 2, none⟩ = some (.int .i64 zl) := blk_cell LZ.out.blk 2))
    go_ret
    exact ⟨rfl, G.out.bel⟩
  | false =>
    have HLG := Aside0.mk (longP_no hlg)
    go_upto_region 4 with (first | (go_at_call 8; (with_reducible refine (awake_calls _).mono ?_); rintro e w1 ⟨rfl, hb1⟩; have G_n := Aside0.mk (G.out.below hb1); have HA_n := Aside0.mk (HA.out.below hb1); have LZ_n := Aside0.mk (LZ.out.below hb1); clear G HA LZ; have G := G_n; have HA := HA_n; have LZ := LZ_n; clear G_n HA_n LZ_n; clear hb1; (try clear z0 z1 z2); have z0 : w1.cell? ⟨zb, 0, none⟩ = some (.int .i64 zp) := blk_cell LZ.out.blk 0; have z1 : w1.cell? ⟨zb, 1, none⟩ = some (.int .i64 (nf : Int)) := blk_cell LZ.out.blk 1; have z2 : w1.cell? ⟨zb, 2, none⟩ = some (.int .i64 zl) := blk_cell LZ.out.blk 2) | (go_at_call 9; (with_reducible refine (longP_calls _ _ _ _ (Kd.C_below HR.out G.out.bel) HC0.out).mono ?_); rintro e w1 ⟨rfl, hb1⟩; have G_n := Aside0.mk (G.out.below hb1); have HA_n := Aside0.mk (HA.out.below hb1); have LZ_n := Aside0.mk (LZ.out.below hb1); clear G HA LZ; have G := G_n; have HA := HA_n; have LZ := LZ_n; clear G_n HA_n LZ_n; clear hb1; (try clear z0 z1 z2); have z0 : w1.cell? ⟨zb, 0, none⟩ = some (.int .i64 zp) := blk_cell LZ.out.blk 0; have z1 : w1.cell? ⟨zb, 1, none⟩ = some (.int .i64 (nf : Int)) := blk_cell LZ.out.blk 1; have z2 : w1.cell? ⟨zb, 2, none⟩ = some (.int .i64 zl) := blk_cell LZ.out.blk 2))
    clear hlg
    go_upto_region 5 with (fail)
    have hz : (#[.int .i64 0, .string ⟨#[]⟩, .int .i64 0, .string ⟨#[]⟩, .int .i64 0, .string ⟨#[]⟩, .int .i64 0, .string ⟨#[]⟩, .int .i64 0, .string ⟨#[]⟩, .int .i64 0, .string ⟨#[]⟩, .int .i64 0, .string ⟨#[]⟩, .int .i64 0, .string ⟨#[]⟩] : Array Value) = pgC (fun _ => (0, ⟨#[]⟩)) := rfl
    rw [hz]
    clear hz
    have hf := fr_alloc [] w1 c1 7 (.cells (pgC (fun _ => (0, ⟨#[]⟩))) AT)
    have G_n := Aside0.mk (G.out.step hf (by decide)); have HA_n := Aside0.mk (HA.out.keep hf (by decide) (by decide) (by decide) (by decide)); have LZ_n := Aside0.mk (LZ.out.keep hf (by decide)); clear G HA LZ; have G := G_n; have HA := HA_n; have LZ := LZ_n; clear G_n HA_n LZ_n
    have LA := Aside0.mk (loc_alloc w1 c1 7 (pgC (fun _ => (0, ⟨#[]⟩))) AT)
    clear hf
    generalize Dk.paint c1 w1.heap.size 7 = cLA at *
    generalize w1.alloc (.cells (pgC (fun _ => (0, ⟨#[]⟩))) AT) = W at *
    generalize w1.heap.size = ba at *
    clear z0 z1 z2
    go_upto_region 6 with (fail)
    go_loopw [43] (fun v wr => ∃ (k : Nat) (c : Nat → Nat), v = .int .i64 k ∧ Aside0 (k ≤ 8) ∧ Aside0 (Gr w wr c) ∧ Aside0 (AO wr c gp fb m gs gl ml g nf cp 0 zp X0) ∧ Aside0 (Fr.Loc wr c zb 9 #[.int .i64 zp, .int .i64 (nf : Int), .int .i64 zl] 23) ∧ Aside0 (Fr.Loc wr c ba 7 (pgC (fillP k)) AT)) (fun v _ => 8 - (intOf v).toNat)
    case atStart => exact ⟨0, _, rfl, ⟨by decide⟩, G, HA, LZ, LA⟩
    case round =>
      clear G HA LZ LA
      obtain ⟨k, c, rfl, R, G, HA, LZ, LA⟩ := hrel
      by_cases hlt : k < 8
      · have h1 : (k : Int) < 8 := by omega
        have hwk : wrap64 ((k : Int) + 1) = ((k + 1 : Nat) : Int) := by unfold wrap64; omega
        have HLT := Aside0.mk hlt
        go_wp2_with (go_at_call 18; (with_reducible refine (refempty_calls _).mono ?_); rintro e w1 ⟨rfl, hb1⟩; have G_n := Aside0.mk (G.out.below hb1); have HA_n := Aside0.mk (HA.out.below hb1); have LZ_n := Aside0.mk (LZ.out.below hb1); have LA_n := Aside0.mk (LA.out.below hb1); clear G HA LZ LA; have G := G_n; have HA := HA_n; have LZ := LZ_n; have LA := LA_n; clear G_n HA_n LZ_n LA_n; clear hb1; obtain ⟨e0, e1, f0, f1, e2, f2⟩ := pg_cells LA.out HLT.out)
        clear e0 e1 f0 f1 e2 f2
        have hs : Fr.Loc ((w1.setCell ⟨ba, k * 2, none⟩ (.int .i64 0)).setCell ⟨ba, k * 2 + 1, none⟩ (.string (noughts 220))) c ba 7 (pgC (fillP (k + 1))) AT ∧ Fr.Fr [7] w1 c ((w1.setCell ⟨ba, k * 2, none⟩ (.int .i64 0)).setCell ⟨ba, k * 2 + 1, none⟩ (.string (noughts 220))) c := by
          rw [← fillP_up]
          exact pg_set LA.out HLT.out noPage
        go_roundw
        case rel => exact ⟨k + 1, c, by first | rfl | (rw [hwk]) | go_num, ⟨by have := HLT.out; omega⟩, ⟨G.out.step hs.2 (by decide)⟩, ⟨HA.out.keep hs.2 (by decide) (by decide) (by decide) (by decide)⟩, ⟨LZ.out.keep hs.2 (by decide)⟩, ⟨hs.1⟩⟩
        case measure =>
          have := HLT.out
          (try rw [hwk])
          simp only [intOf]; omega
      · obtain rfl : k = 8 := by have := R.out; omega
        clear hlt R
        (try rw [show ((8 : Nat) : Int) = (8 : Int) from rfl])
        have HKP2 := Aside0.mk (HKP.out.same (want2 := fillP 8) (fun k k0 k1 => if_pos (by have := HZP.out; omega)))
        clear HKP; have HKP := HKP2; clear HKP2
        generalize fillP 8 = want0 at *
        go_upto_region 11 with (fail)
        go_loopw [52] (fun v wr => ∃ (r : Nat) (X : XS) (ws want : Int → Int × ByteArray) (c : Nat → Nat), v = .int .i64 r ∧ Aside0 (r ≤ l.length) ∧ Aside0 (Gr w wr c) ∧ Aside0 (AO wr c gp fb m gs gl ml g nf cp 0 zp X) ∧ Aside0 (Fr.Loc wr c zb 9 #[.int .i64 zp, .int .i64 (nf : Int), .int .i64 zl] 23) ∧ Aside0 (Fr.Loc wr c ba 7 (pgC want) AT) ∧ Aside0 (KP zp zl 1 (1 + (r : Int)) X ws want)) (fun v _ => l.length - (intOf v).toNat)
        case atStart => exact ⟨0, _, _, _, _, rfl, ⟨Nat.zero_le _⟩, G, HA, LZ, LA, HKP⟩
        case round =>
          clear G HA LZ LA HKP
          obtain ⟨r, X, ws, want, c, rfl, HRL, G, HA, LZ, LA, HKP⟩ := hrel
          by_cases hlt : r < l.length
          · have hlt1 : (r : Int) < (l.length : Int) := by omega
            have hwk : wrap64 ((r : Int) + 1) = ((r + 1 : Nat) : Int) := by unfold wrap64; omega
            have HLT := Aside0.mk hlt
            have HBB := Aside0.mk (show 1 + (r : Int) < 4294967280 by have := HLG.out.1; omega)
            obtain ⟨ad, A14, c14, A15, c15, hA, q0, q1, q2, q3, q4, q5, q6, q7, q8, q9, q10, q11, q12, q13, q14, q15, l14, g14, l15, g15⟩ := at_T41 HR.out (r : Int) (by omega) hlt1
            subst hA
            rw [Int.toNat_natCast] at q0 q1 q2 q3 q4 q5 q6 q7 q8 q9 q10 q11 q12 q13 q14 q15
            replace q0 := pw_cell_below G.out.bel q0
            replace q1 := pw_cell_below G.out.bel q1
            replace q2 := pw_cell_below G.out.bel q2
            replace q3 := pw_cell_below G.out.bel q3
            replace q4 := pw_cell_below G.out.bel q4
            replace q5 := pw_cell_below G.out.bel q5
            replace q6 := pw_cell_below G.out.bel q6
            replace q7 := pw_cell_below G.out.bel q7
            replace q8 := pw_cell_below G.out.bel q8
            replace q9 := pw_cell_below G.out.bel q9
            replace q10 := pw_cell_below G.out.bel q10
            replace q11 := pw_cell_below G.out.bel q11
            replace q12 := pw_cell_below G.out.bel q12
            replace q13 := pw_cell_below G.out.bel q13
            replace q14 := pw_cell_below G.out.bel q14
            replace q15 := pw_cell_below G.out.bel q15
            have G14 := Aside0.mk g14; have G15 := Aside0.mk g15; have L14 := Aside0.mk l14; have L15 := Aside0.mk l15; have HFW := Aside0.mk (HLG.out.2 _ (rd_mem8 hlt)).2
            clear l14 g14 l15 g15
            generalize rd_T41 l (r : Nat) = o_ at *
            (try clear z0 z1 z2); have z0 : wr.cell? ⟨zb, 0, none⟩ = some (.int .i64 zp) := blk_cell LZ.out.blk 0; have z1 : wr.cell? ⟨zb, 1, none⟩ = some (.int .i64 (nf : Int)) := blk_cell LZ.out.blk 1; have z2 : wr.cell? ⟨zb, 2, none⟩ = some (.int .i64 zl) := blk_cell LZ.out.blk 2
            go_upto_region 13 with (fail)
            have hf := fr_alloc [] wr c 6 (.cells #[.int .i64 o_.f0, .int .i64 o_.f1, .int .i64 o_.f2, .int .i64 o_.f3.f0, .string o_.f3.f1, .int .i64 o_.f4.f0, .int .i64 o_.f4.f1, .int .i64 o_.f4.f2, .int .i64 o_.f4.f3, .int .i64 o_.f4.f4, .int .i64 o_.f4.f5, .int .i64 o_.f4.f6, .string o_.f4.f7, .string o_.f4.f8, .slice A14 o_.f4.f9.length c14, .slice A15 o_.f4.f10.length c15] 41)
            have G_n := Aside0.mk (G.out.step hf (by decide)); have HA_n := Aside0.mk (HA.out.keep hf (by decide) (by decide) (by decide) (by decide)); have LZ_n := Aside0.mk (LZ.out.keep hf (by decide)); have LA_n := Aside0.mk (LA.out.keep hf (by decide)); clear G HA LZ LA; have G := G_n; have HA := HA_n; have LZ := LZ_n; have LA := LA_n; clear G_n HA_n LZ_n LA_n
            have LO := Aside0.mk (loc_alloc wr c 6 #[.int .i64 o_.f0, .int .i64 o_.f1, .int .i64 o_.f2, .int .i64 o_.f3.f0, .string o_.f3.f1, .int .i64 o_.f4.f0, .int .i64 o_.f4.f1, .int .i64 o_.f4.f2, .int .i64 o_.f4.f3, .int .i64 o_.f4.f4, .int .i64 o_.f4.f5, .int .i64 o_.f4.f6, .string o_.f4.f7, .string o_.f4.f8, .slice A14 o_.f4.f9.length c14, .slice A15 o_.f4.f10.length c15] 41)
            clear hf
            generalize Dk.paint c wr.heap.size 6 = cLO at *
            generalize wr.alloc (.cells #[.int .i64 o_.f0, .int .i64 o_.f1, .int .i64 o_.f2, .int .i64 o_.f3.f0, .string o_.f3.f1, .int .i64 o_.f4.f0, .int .i64 o_.f4.f1, .int .i64 o_.f4.f2, .int .i64 o_.f4.f3, .int .i64 o_.f4.f4, .int .i64 o_.f4.f5, .int .i64 o_.f4.f6, .string o_.f4.f7, .string o_.f4.f8, .slice A14 o_.f4.f9.length c14, .slice A15 o_.f4.f10.length c15] 41) = W4 at *
            generalize wr.heap.size = ob at *
            clear q0 q1 q2 q3 q4 q5 q6 q7 q8 q9 q10 q11 q12 q13 q14 q15
            have hcs := LO.out.blk
            have q0 : W4.cell? ⟨ob, 0, none⟩ = some (.int .i64 o_.f0) := blk_cell hcs 0
            have q1 : W4.cell? ⟨ob, 1, none⟩ = some (.int .i64 o_.f1) := blk_cell hcs 1
            have q2 : W4.cell? ⟨ob, 2, none⟩ = some (.int .i64 o_.f2) := blk_cell hcs 2
            have q3 : W4.cell? ⟨ob, 3, none⟩ = some (.int .i64 o_.f3.f0) := blk_cell hcs 3
            have q4 : W4.cell? ⟨ob, 4, none⟩ = some (.string o_.f3.f1) := blk_cell hcs 4
            have q5 : W4.cell? ⟨ob, 5, none⟩ = some (.int .i64 o_.f4.f0) := blk_cell hcs 5
            have q6 : W4.cell? ⟨ob, 6, none⟩ = some (.int .i64 o_.f4.f1) := blk_cell hcs 6
            have q7 : W4.cell? ⟨ob, 7, none⟩ = some (.int .i64 o_.f4.f2) := blk_cell hcs 7
            have q8 : W4.cell? ⟨ob, 8, none⟩ = some (.int .i64 o_.f4.f3) := blk_cell hcs 8
            have q9 : W4.cell? ⟨ob, 9, none⟩ = some (.int .i64 o_.f4.f4) := blk_cell hcs 9
            have q10 : W4.cell? ⟨ob, 10, none⟩ = some (.int .i64 o_.f4.f5) := blk_cell hcs 10
            have q11 : W4.cell? ⟨ob, 11, none⟩ = some (.int .i64 o_.f4.f6) := blk_cell hcs 11
            have q12 : W4.cell? ⟨ob, 12, none⟩ = some (.string o_.f4.f7) := blk_cell hcs 12
            have q13 : W4.cell? ⟨ob, 13, none⟩ = some (.string o_.f4.f8) := blk_cell hcs 13
            have q14 : W4.cell? ⟨ob, 14, none⟩ = some (.slice A14 o_.f4.f9.length c14) := blk_cell hcs 14
            have q15 : W4.cell? ⟨ob, 15, none⟩ = some (.slice A15 o_.f4.f10.length c15) := blk_cell hcs 15
            clear hcs
            (try clear z0 z1 z2); have z0 : W4.cell? ⟨zb, 0, none⟩ = some (.int .i64 zp) := blk_cell LZ.out.blk 0; have z1 : W4.cell? ⟨zb, 1, none⟩ = some (.int .i64 (nf : Int)) := blk_cell LZ.out.blk 1; have z2 : W4.cell? ⟨zb, 2, none⟩ = some (.int .i64 zl) := blk_cell LZ.out.blk 2
            have hnz : (IntKind.u64.wrap zp = 0) = False := eq_false (by rw [IntKind.wrap_u64]; have := HZP.out; omega)
            have hnz2 : (IntKind.u64.wrap (nf : Int) = 0) = False := eq_false (by rw [IntKind.wrap_u64]; have := HNF.out; omega)
            have hI := umod (n := zp) (i := o_.f1) HZP.out.1 (by have := HZP.out; omega)
            have HRD := Aside0.mk (HKP.out.rdy (by have := HBB.out; omega))
            go_upto_region 14 with (fail)
            generalize wrap64 ((IntKind.u64.wrap o_.f1).tmod (IntKind.u64.wrap zp)) = i_ at *
            obtain ⟨ik, rfl⟩ : ∃ ik : Nat, i_ = (ik : Int) := ⟨i_.toNat, by omega⟩
            have HI := Aside0.mk hI; have HI8 := Aside0.mk (show ik < 8 by have := HZP.out; omega)
            clear hI
            go_upto_block 4 with fail
            go_cut [52] (fun v wx => ∃ (X' : XS) (ws' want' : Int → Int × ByteArray) (c' : Nat → Nat), v = .int .i64 (r : Int) ∧ Aside0 (Gr w wx c') ∧ Aside0 (AO wx c' gp fb m gs gl ml g nf cp 0 zp X') ∧ Aside0 (Fr.Loc wx c' zb 9 #[.int .i64 zp, .int .i64 (nf : Int), .int .i64 zl] 23) ∧ Aside0 (Fr.Loc wx c' ba 7 (pgC want') AT) ∧ Aside0 (KP zp zl 1 (1 + ((r + 1 : Nat) : Int)) X' ws' want'))
            case first =>
              by_cases hk3 : o_.f0 = 3
              · have hb3 : (o_.f0 == (3 : Int)) = true := beq_iff_eq.2 hk3
                clear hk3
                obtain ⟨_, _, ws', hKP'⟩ := HKP.out.evict (by have := HBB.out; omega) (wrap64 ((IntKind.u64.wrap o_.f2).tmod (IntKind.u64.wrap (nf : Int))))
                have HKP2 := Aside0.mk (show KP zp zl 1 (1 + ((r + 1 : Nat) : Int)) _ ws' want from (by rw [show 1 + ((r + 1 : Nat) : Int) = 1 + (r : Int) + 1 by omega]; exact hKP'))
                clear hKP'
                go_wp2_with (go_at_call 10; (with_reducible refine (evict_calls HA.out HRD.out (by decide) (wrap64 ((IntKind.u64.wrap o_.f2).tmod (IntKind.u64.wrap (nf : Int))))).mono ?_); rintro e w1 ⟨rfl, c1, hf, ha⟩; have G_n := Aside0.mk (G.out.step hf (by decide)); have LZ_n := Aside0.mk (LZ.out.keep hf (by decide)); have LA_n := Aside0.mk (LA.out.keep hf (by decide)); clear G LZ LA; have G := G_n; have LZ := LZ_n; have LA := LA_n; clear G_n LZ_n LA_n; clear HA; have HA := Aside0.mk ha; clear ha hf; (try clear z0 z1 z2); have z0 : w1.cell? ⟨zb, 0, none⟩ = some (.int .i64 zp) := blk_cell LZ.out.blk 0; have z1 : w1.cell? ⟨zb, 1, none⟩ = some (.int .i64 (nf : Int)) := blk_cell LZ.out.blk 1; have z2 : w1.cell? ⟨zb, 2, none⟩ = some (.int .i64 zl) := blk_cell LZ.out.blk 2)
                go_meet
                exact ⟨_, ws', want, _, rfl, G, HA, LZ, LA, HKP2⟩
              · have hb3 : (o_.f0 == (3 : Int)) = false := beq_eq_false_iff_ne.2 hk3
                clear hk3
                go_upto_if 93 with (fail)
                go_cut [93] (fun v wx => v = .bool (o_.f0 == (5 : Int) || o_.f0 == (2 : Int)) ∧ wx = W4)
                case first =>
                  by_cases hk5 : o_.f0 = 5
                  · have hb4 : (o_.f0 == (5 : Int)) = true := beq_iff_eq.2 hk5
                    clear hk5
                    go_wp2
                    go_meet
                    exact ⟨by simp only [hb4, Bool.true_or], rfl⟩
                  · have hb4 : (o_.f0 == (5 : Int)) = false := beq_eq_false_iff_ne.2 hk5
                    clear hk5
                    go_wp2
                    go_meet
                    exact ⟨by simp only [hb4, Bool.false_or], rfl⟩
                case rest =>
                  obtain ⟨rfl, rfl⟩ := hcut
                  cases hb5 : (o_.f0 == (5 : Int) || o_.f0 == (2 : Int)) with
                  | true =>
                    have f7 : wc.frozen? ⟨ob, 7, none⟩ = false := blk_frozen LO.out.blk 7
                    go_upto_region 23 with (fail)
                    clear f7
                    have hf := LO.out.set_fr 7 (.int .i64 (ik : Int))
                    have LO_n := Aside0.mk (LO.out.set 7 (.int .i64 (ik : Int)))
                    have G_n := Aside0.mk (G.out.step hf (by decide)); have HA_n := Aside0.mk (HA.out.keep hf (by decide) (by decide) (by decide) (by decide)); have LZ_n := Aside0.mk (LZ.out.keep hf (by decide)); have LA_n := Aside0.mk (LA.out.keep hf (by decide)); clear G HA LZ LA; have G := G_n; have HA := HA_n; have LZ := LZ_n; have LA := LA_n; clear G_n HA_n LZ_n LA_n
                    clear hf LO; have LO := LO_n; clear LO_n
                    generalize wc.setCell ⟨ob, 7, none⟩ (.int .i64 (ik : Int)) = W5 at *
                    clear q0 q1 q2 q3 q4 q5 q6 q7 q8 q9 q10 q11 q12 q13 q14 q15
                    obtain ⟨rc, hrc⟩ : ∃ rc : S39, rc = ⟨o_.f4.f0, o_.f4.f1, (ik : Int), o_.f4.f3, o_.f4.f4, o_.f4.f5, o_.f4.f6, o_.f4.f7, o_.f4.f8, o_.f4.f9, o_.f4.f10⟩ := ⟨_, rfl⟩
                    have LO_n := Aside0.mk (show Fr.Loc W5 cLO ob 6 #[.int .i64 o_.f0, .int .i64 o_.f1, .int .i64 o_.f2, .int .i64 o_.f3.f0, .string o_.f3.f1, .int .i64 rc.f0, .int .i64 rc.f1, .int .i64 rc.f2, .int .i64 rc.f3, .int .i64 rc.f4, .int .i64 rc.f5, .int .i64 rc.f6, .string rc.f7, .string rc.f8, .slice A14 rc.f9.length c14, .slice A15 rc.f10.length c15] 41 by rw [hrc]; exact LO.out)
                    clear LO; have LO := LO_n; clear LO_n
                    have G14_n := Aside0.mk (show Kd.C k134 w A14 rc.f9.length rc.f9 by rw [hrc]; exact G14.out); have G15_n := Aside0.mk (show Kd.C k70 w A15 rc.f10.length rc.f10 by rw [hrc]; exact G15.out); have L14_n := Aside0.mk (show rc.f9.length ≤ c14 by rw [hrc]; exact L14.out); have L15_n := Aside0.mk (show rc.f10.length ≤ c15 by rw [hrc]; exact L15.out); have HZ8 := Aside0.mk (show rc.f8.size ≤ 1000000 by rw [hrc]; exact few_le8 HFW.out)
                    clear G14 G15 L14 L15 hrc; have G14 := G14_n; have G15 := G15_n; have L14 := L14_n; have L15 := L15_n; clear G14_n G15_n L14_n L15_n
                    have hcs := LO.out.blk
                    have q5 : W5.cell? ⟨ob, 5, none⟩ = some (.int .i64 rc.f0) := blk_cell hcs 5
                    have q6 : W5.cell? ⟨ob, 6, none⟩ = some (.int .i64 rc.f1) := blk_cell hcs 6
                    have q7 : W5.cell? ⟨ob, 7, none⟩ = some (.int .i64 rc.f2) := blk_cell hcs 7
                    have q8 : W5.cell? ⟨ob, 8, none⟩ = some (.int .i64 rc.f3) := blk_cell hcs 8
                    have q9 : W5.cell? ⟨ob, 9, none⟩ = some (.int .i64 rc.f4) := blk_cell hcs 9
                    have q10 : W5.cell? ⟨ob, 10, none⟩ = some (.int .i64 rc.f5) := blk_cell hcs 10
                    have q11 : W5.cell? ⟨ob, 11, none⟩ = some (.int .i64 rc.f6) := blk_cell hcs 11
                    have q12 : W5.cell? ⟨ob, 12, none⟩ = some (.string rc.f7) := blk_cell hcs 12
                    have q13 : W5.cell? ⟨ob, 13, none⟩ = some (.string rc.f8) := blk_cell hcs 13
                    have q14 : W5.cell? ⟨ob, 14, none⟩ = some (.slice A14 rc.f9.length c14) := blk_cell hcs 14
                    have q15 : W5.cell? ⟨ob, 15, none⟩ = some (.slice A15 rc.f10.length c15) := blk_cell hcs 15
                    clear hcs
                    have HFIT := Aside0.mk (HKP.out.qp.fit HKP.out.eb); have HBD := Aside0.mk HKP.out.qp.bd1
                    obtain ⟨p, er, W', ea, ha1, hKP1⟩ := HKP.out.app rc
                    have HAP := Aside0.mk ea; have HAT := Aside0.mk ha1; clear ea ha1
                    clear HKP; have HKP := Aside0.mk hKP1; clear hKP1
                    go_upto_region 24 with (go_at_call 22; (with_reducible refine (append_calls HA.out.lo HFIT.out HBD.out rc A14 c14 A15 c15 (Kd.C_below G14.out G.out.bel) L14.out (Kd.C_below G15.out G.out.bel) L15.out HZ8.out).mono ?_); rintro e w1 ⟨rfl, hf, hl⟩; rw [HAP.out] at hl ⊢; simp only [] at hl ⊢; have HA_n := Aside0.mk (HA.out.log hf hl); have G_n := Aside0.mk (G.out.step hf (by decide)); have LZ_n := Aside0.mk (LZ.out.keep hf (by decide)); have LA_n := Aside0.mk (LA.out.keep hf (by decide)); have LO_n := Aside0.mk (LO.out.keep hf (by decide)); clear G LZ LA LO; have G := G_n; have LZ := LZ_n; have LA := LA_n; have LO := LO_n; clear G_n LZ_n LA_n LO_n; clear HA hf hl; have HA := HA_n; clear HA_n; (try clear z0 z1 z2))
                    clear HFIT HBD HRD
                    by_cases her : er = 0
                    · have hb5 : (er != (0 : Int)) = false := by simp [her]
                      have HAT2 := Aside0.mk (HAT.out her)
                      subst her
                      have HWF := Aside0.mk HKP.out.wf; have HOR := Aside0.mk (HKP.out.okr (by have := HBB.out; omega)); have HRD2 := Aside0.mk (HKP.out.rdy (by have := HBB.out; omega))
                      have HPUT := Aside0.mk (HKP.out.put (ik : Int) HI.out.1 HI.out.2)
                      obtain ⟨e1, e2, e3, e4, ⟨kf, e5⟩, ws', hKP'⟩ := HKP.out.get (by have := HBB.out; omega) HI.out
                      generalize hgp : getP 0 zp { X with W := W' } (ik : Int) = gq at *
                      obtain ⟨⟨pa, pb⟩, pe, X'⟩ := gq
                      have HGP := Aside0.mk hgp
                      simp only [] at e1 e2 e4 e5 hKP'
                      subst e2
                      have HW := Aside0.mk e1.symm; have HHK := Aside0.mk (show ∃ k : Nat, X'.P.wh (ik : Int) = some (k : Int) from ⟨kf, e5⟩); have HNX := Aside0.mk e4
                      clear hgp e1 e3 e4 e5
                      have HKP2 := Aside0.mk (show KP zp zl 1 (1 + ((r + 1 : Nat) : Int)) X' ws' want from (by rw [show 1 + ((r + 1 : Nat) : Int) = 1 + (r : Int) + 1 by omega]; exact hKP'))
                      clear hKP'
                      (try clear q5 q6 q7 q8 q9 q10 q11 q12 q13 q14 q15)
                      go_upto_region 26 with (go_at_call 11; (with_reducible refine (get_calls HA.out HRD2.out (by decide) HWF.out HOR.out (ik : Int)).mono ?_); rintro e w1 ⟨rfl, c1, hf, ha⟩; rw [HGP.out] at ha ⊢; simp only [] at ha ⊢; have G_n := Aside0.mk (G.out.step hf (by decide)); have LZ_n := Aside0.mk (LZ.out.keep hf (by decide)); have LA_n := Aside0.mk (LA.out.keep hf (by decide)); have LO_n := Aside0.mk (LO.out.keep hf (by decide)); clear G LZ LA LO; have G := G_n; have LZ := LZ_n; have LA := LA_n; have LO := LO_n; clear G_n LZ_n LA_n LO_n; clear HA; have HA := Aside0.mk ha; clear ha hf; (try clear z0 z1 z2))
                      have hf := fr_alloc [] w1 c1 9 (.cells #[.int .i64 pa, .string pb] 35)
                      have G_n := Aside0.mk (G.out.step hf (by decide)); have HA_n := Aside0.mk (HA.out.keep hf (by decide) (by decide) (by decide) (by decide)); have LZ_n := Aside0.mk (LZ.out.keep hf (by decide)); have LA_n := Aside0.mk (LA.out.keep hf (by decide)); have LO_n := Aside0.mk (LO.out.keep hf (by decide)); clear G HA LZ LA LO; have G := G_n; have HA := HA_n; have LZ := LZ_n; have LA := LA_n; have LO := LO_n; clear G_n HA_n LZ_n LA_n LO_n
                      have LP := Aside0.mk (loc_alloc w1 c1 9 #[.int .i64 pa, .string pb] 35)
                      clear hf
                      generalize Dk.paint c1 w1.heap.size 9 = cLP at *
                      generalize w1.alloc (.cells #[.int .i64 pa, .string pb] 35) = W6 at *
                      generalize w1.heap.size = bp_ at *
                      have G_n := Aside0.mk (G.out.drew); have HA_n := Aside0.mk (HA.out.drew); have LZ_n := Aside0.mk (LZ.out.drew); have LA_n := Aside0.mk (LA.out.drew); have LO_n := Aside0.mk (LO.out.drew); have LP_n := Aside0.mk (LP.out.drew); clear G HA LZ LA LO LP; have G := G_n; have HA := HA_n; have LZ := LZ_n; have LA := LA_n; have LO := LO_n; have LP := LP_n; clear G_n HA_n LZ_n LA_n LO_n LP_n
                      obtain ⟨e0, e1, f0, f1, e2, f2⟩ := pg_cells LA.out HI8.out
                      clear f0 f1 e2 f2
                      rw [HW.out] at e0 e1
                      dsimp only at e0 e1
                      have h8i : (ik : Int) < 8 := by have := HI8.out; omega
                      refine start_ (n := 9) (S := fun w' => w'.cell? ⟨bp_, 0, none⟩ = some (.int .i64 pa) ∧ w'.cell? ⟨bp_, 1, none⟩ = some (.string pb) ∧ w'.cell? ⟨ba, ik * 2, none⟩ = some (.int .i64 pa) ∧ w'.cell? ⟨ba, ik * 2 + 1, none⟩ = some (.string pb)) (ds := []) #[false, false, false, false, false, false, false, false, false] (by kernel_rfl) rfl rfl ⟨blk_cell LP.out.blk 0, blk_cell LP.out.blk 1, e0, e1⟩ (fun hHeld => ?_)
                      refine rgp 0 114 ?_
                      refine rgp 1 115 ?_
                      refine rgp 2 116 ?_
                      refine rgp 4 118 ?_
                      refine rgp 5 119 ?_
                      refine rgt 3 117 hHeld ?_
                      refine rgt 6 120 hHeld ?_
                      refine rgp 7 121 ?_
                      refine rgp 8 122 ?_
                      refine done_ (by kernel_rfl) ?_
                      clear e0 e1 hHeld
                      go_upto_region 28 with (fail)
                      have x0 := blk_cell LP.out.blk 0; have x1 := blk_cell LP.out.blk 1
                      have HPP := Aside0.mk (show 0 ≤ pa ∧ pa < nxL W' * 128 ∧ pb.size = 220 by have h := HPUT.out; rw [HW.out] at h; exact h)
                      have hap := applyF_ok (kind := rc.f0) (off := rc.f3) (after := rc.f8) HPP.out HAT2.out
                      generalize hqq : applyF pa pb p rc.f0 rc.f3 rc.f8 = qq at *
                      obtain ⟨qa, qb⟩ := qq
                      have HQQ := Aside0.mk hqq; have HQP := Aside0.mk hap; clear hqq hap
                      have hcs := LO.out.blk
                      have q5 : W6.drew.cell? ⟨ob, 5, none⟩ = some (.int .i64 rc.f0) := blk_cell hcs 5
                      have q6 : W6.drew.cell? ⟨ob, 6, none⟩ = some (.int .i64 rc.f1) := blk_cell hcs 6
                      have q7 : W6.drew.cell? ⟨ob, 7, none⟩ = some (.int .i64 rc.f2) := blk_cell hcs 7
                      have q8 : W6.drew.cell? ⟨ob, 8, none⟩ = some (.int .i64 rc.f3) := blk_cell hcs 8
                      have q9 : W6.drew.cell? ⟨ob, 9, none⟩ = some (.int .i64 rc.f4) := blk_cell hcs 9
                      have q10 : W6.drew.cell? ⟨ob, 10, none⟩ = some (.int .i64 rc.f5) := blk_cell hcs 10
                      have q11 : W6.drew.cell? ⟨ob, 11, none⟩ = some (.int .i64 rc.f6) := blk_cell hcs 11
                      have q12 : W6.drew.cell? ⟨ob, 12, none⟩ = some (.string rc.f7) := blk_cell hcs 12
                      have q13 : W6.drew.cell? ⟨ob, 13, none⟩ = some (.string rc.f8) := blk_cell hcs 13
                      have q14 : W6.drew.cell? ⟨ob, 14, none⟩ = some (.slice A14 rc.f9.length c14) := blk_cell hcs 14
                      have q15 : W6.drew.cell? ⟨ob, 15, none⟩ = some (.slice A15 rc.f10.length c15) := blk_cell hcs 15
                      clear hcs
                      have x0 : W6.drew.cell? ⟨bp_, 0, none⟩ = some (.int .i64 pa) := blk_cell LP.out.blk 0; have x1 : W6.drew.cell? ⟨bp_, 1, none⟩ = some (.string pb) := blk_cell LP.out.blk 1
                      go_upto_region 29 with (go_at_call 23; (with_reducible refine (apply_calls8 pa pb p rc A14 c14 A15 c15 _ (Kd.C_below G14.out G.out.bel) L14.out (Kd.C_below G15.out G.out.bel) L15.out HZ8.out).mono ?_); rintro e w1 ⟨rfl, hb1⟩; rw [HQQ.out]; simp only []; have G_n := Aside0.mk (G.out.below hb1); have HA_n := Aside0.mk (HA.out.below hb1); have LZ_n := Aside0.mk (LZ.out.below hb1); have LA_n := Aside0.mk (LA.out.below hb1); have LO_n := Aside0.mk (LO.out.below hb1); have LP_n := Aside0.mk (LP.out.below hb1); clear G HA LZ LA LO LP; have G := G_n; have HA := HA_n; have LZ := LZ_n; have LA := LA_n; have LO := LO_n; have LP := LP_n; clear G_n HA_n LZ_n LA_n LO_n LP_n; clear hb1; obtain ⟨e0, e1, f0, f1, e2, f2⟩ := pg_cells LA.out HI8.out)
                      clear e0 e1 f0 f1 e2 f2 x0 x1 h8i
                      have hs := pg_set LA.out HI8.out (qa, qb)
                      dsimp only at hs
                      have hf := hs.2
                      have LA_n := Aside0.mk hs.1
                      clear LO hs LA
                      have G_n := Aside0.mk (G.out.step hf (by decide)); have LZ_n := Aside0.mk (LZ.out.keep hf (by decide)); have LP_n := Aside0.mk (LP.out.keep hf (by decide)); have HA_n := Aside0.mk (HA.out.keep hf (by decide) (by decide) (by decide) (by decide)); clear G LZ LP HA; have G := G_n; have LZ := LZ_n; have LP := LP_n; have HA := HA_n; clear G_n LZ_n LP_n HA_n
                      clear hf; have LA := LA_n; clear LA_n
                      generalize (w1.setCell ⟨ba, ik * 2, none⟩ (.int .i64 qa)).setCell ⟨ba, ik * 2 + 1, none⟩ (.string qb) = W7 at *
                      have hPU := HKP2.out.puts (i := (ik : Int)) (a := qa) (dt := qb) HI.out HHK.out ⟨HQP.out.1, by have := HQP.out.2.1; rw [HNX.out]; exact this⟩ HQP.out.2.2
                      obtain ⟨hu1, _, hKP3⟩ := hPU
                      have HKP3 := Aside0.mk hKP3; have HU1 := Aside0.mk hu1; clear hKP3 hu1
                      obtain ⟨e0, e1, f0, f1, e2, f2⟩ := pg_cells LA.out HI8.out
                      clear f0 f1 e2 f2
                      rw [St.up_at] at e0 e1
                      dsimp only at e0 e1
                      have h8i : (ik : Int) < 8 := by have := HI8.out; omega
                      have HE0 := Aside0.mk e0; have HE1 := Aside0.mk e1; clear e0 e1
                      have G_n := Aside0.mk (G.out.drew); have LZ_n := Aside0.mk (LZ.out.drew); have LA_n := Aside0.mk (LA.out.drew); have LP_n := Aside0.mk (LP.out.drew); have HA_n := Aside0.mk (HA.out.drew); clear G LZ LA LP HA; have G := G_n; have LZ := LZ_n; have LA := LA_n; have LP := LP_n; have HA := HA_n; clear G_n LZ_n LA_n LP_n HA_n
                      by_cases hsame : qa = pa ∧ qb = pb
                      · have t1 : (qa == pa && (qb.toList == pb.toList)) = true := by rw [hsame.1, hsame.2]; simp
                        have HKP4 := Aside0.mk (show KP zp zl 1 (1 + ((r + 1 : Nat) : Int)) X' ws' (St.up want (ik : Int) (qa, qb)) by rw [hsame.1, hsame.2, ← HW.out, St.up_same]; exact HKP2.out)
                        clear hsame
                        refine start_ (n := 14) (S := fun w' => w'.cell? ⟨bp_, 0, none⟩ = some (.int .i64 pa) ∧ w'.cell? ⟨bp_, 1, none⟩ = some (.string pb) ∧ w'.cell? ⟨ba, ik * 2, none⟩ = some (.int .i64 qa) ∧ w'.cell? ⟨ba, ik * 2 + 1, none⟩ = some (.string qb)) (ds := []) #[false, false, false, false, false, false, false, false, false, false, false, false, false, false] (by kernel_rfl) rfl rfl ⟨blk_cell LP.out.blk 0, blk_cell LP.out.blk 1, HE0.out, HE1.out⟩ (fun hHeld => ?_)
                        refine rgp 0 130 ?_
                        refine rgp 1 131 ?_
                        refine rgt 2 132 hHeld ?_
                        refine rgt 3 133 hHeld ?_
                        refine rgp 4 134 ?_
                        refine rgp 5 135 ?_
                        refine pure_ (i := 6) (N := some 136) (v := undef) (a' := ?_) #[true, true, true, true, true, true, true, false, false, false, false, false, false, false] rfl rfl (by kernel_rfl) (fun _ _ _ h => h) (Or.inr ⟨by rfl, rfl⟩) ?_ ?_
                        rotate_left
                        · simp only [Act.put, List.setIfInBounds_toArray, List.set_cons_zero, List.set_cons_succ, i64_w, i32_w]
                          rfl
                        refine pure_ (i := 7) (N := some 137) (v := undef) (a' := ?_) #[true, true, true, true, true, true, true, true, false, false, false, false, false, false] rfl rfl (by kernel_rfl) (fun _ _ _ h => h) (Or.inr ⟨by rfl, rfl⟩) ?_ ?_
                        rotate_left
                        · simp only [Act.put, List.setIfInBounds_toArray, List.set_cons_zero, List.set_cons_succ, i64_w, i32_w]
                          rfl
                        refine pure_ (i := 8) (N := some 138) (v := undef) (a' := ?_) #[true, true, true, true, true, true, true, true, true, false, false, false, false, false] rfl rfl (by kernel_rfl) (fun _ _ _ h => h) (Or.inr ⟨by rfl, rfl⟩) ?_ ?_
                        rotate_left
                        · simp only [Act.put, List.setIfInBounds_toArray, List.set_cons_zero, List.set_cons_succ, i64_w, i32_w]
                          rfl
                        refine pure_ (i := 9) (N := some 139) (v := undef) (a' := ?_) #[true, true, true, true, true, true, true, true, true, true, false, false, false, false] rfl rfl (by kernel_rfl) (fun _ _ _ h => h) (Or.inr ⟨by rfl, rfl⟩) ?_ ?_
                        rotate_left
                        · simp only [Act.put, List.setIfInBounds_toArray, List.set_cons_zero, List.set_cons_succ, i64_w, i32_w]
                          rfl
                        refine pure_ (i := 10) (N := some 140) (v := undef) (a' := ?_) #[true, true, true, true, true, true, true, true, true, true, true, false, false, false] rfl rfl (by kernel_rfl) (fun _ _ _ h => h) (Or.inr ⟨by rfl, rfl⟩) ?_ ?_
                        rotate_left
                        · simp only [Act.put, List.setIfInBounds_toArray, List.set_cons_zero, List.set_cons_succ, i64_w, i32_w]
                          rfl
                        refine pure_ (i := 11) (N := some 141) (v := undef) (a' := ?_) #[true, true, true, true, true, true, true, true, true, true, true, true, false, false] rfl rfl (by kernel_rfl) (fun _ _ _ h => h) (Or.inr ⟨by rfl, rfl⟩) ?_ ?_
                        rotate_left
                        · simp only [Act.put, List.setIfInBounds_toArray, List.set_cons_zero, List.set_cons_succ, i64_w, i32_w]
                          rfl
                        refine pure_ (i := 12) (N := some 142) (v := undef) (a' := ?_) #[true, true, true, true, true, true, true, true, true, true, true, true, true, false] rfl rfl (by kernel_rfl) (fun _ _ _ h => h) (Or.inr ⟨by rfl, rfl⟩) ?_ ?_
                        rotate_left
                        · simp only [Act.put, List.setIfInBounds_toArray, List.set_cons_zero, List.set_cons_succ, i64_w, i32_w]
                          rfl
                        refine rgp 13 143 ?_
                        refine done_ (by kernel_rfl) ?_
                        clear hHeld t1 HE0 HE1 HKP2
                        have HKP2 := HKP4
                        go_wp2
                        go_meet
                        exact ⟨X', ws', _, _, rfl, G, HA, LZ, LA, HKP2⟩
                      · have t1 : (qa == pa && (qb.toList == pb.toList)) = false := by
                          cases h : (qa == pa && (qb.toList == pb.toList)) with
                          | false => rfl
                          | true => rw [Bool.and_eq_true, beq_iff_eq, beq_iff_eq, toList_eq] at h; exact absurd h hsame
                        clear hsame
                        have HWF3 := Aside0.mk HKP2.out.wf
                        refine start_ (n := 14) (S := fun w' => w'.cell? ⟨bp_, 0, none⟩ = some (.int .i64 pa) ∧ w'.cell? ⟨bp_, 1, none⟩ = some (.string pb) ∧ w'.cell? ⟨ba, ik * 2, none⟩ = some (.int .i64 qa) ∧ w'.cell? ⟨ba, ik * 2 + 1, none⟩ = some (.string qb)) (ds := []) #[false, false, false, false, false, false, false, false, false, false, false, false, false, false] (by kernel_rfl) rfl rfl ⟨blk_cell LP.out.blk 0, blk_cell LP.out.blk 1, HE0.out, HE1.out⟩ (fun hHeld => ?_)
                        refine rgp 0 130 ?_
                        refine rgp 1 131 ?_
                        refine rgt 2 132 hHeld ?_
                        refine rgt 3 133 hHeld ?_
                        refine rgp 4 134 ?_
                        refine rgp 5 135 ?_
                        refine rgp 6 136 ?_
                        refine rgp 7 137 ?_
                        refine rgp 8 138 ?_
                        refine rgp 9 139 ?_
                        refine rgt 10 140 hHeld ?_
                        refine one_ (i := 11) (N := some 141) #[true, true, true, true, true, true, true, true, true, true, true, true, false, false] rfl rfl (by kernel_rfl) (by decide) (fun K hK => ?_)
                        refine goes_ Try.func14 (by kernel_rfl) rfl #[.pointer (some ⟨gp, 0, none⟩), .int .i64 (ik : Int), .agg #[.int .i64 qa, .string qb]] (by rfl) rfl rfl (by (try simp only [List.map_toArray, List.map_cons, List.map_nil]); first | done | rfl) ?_
                        refine (put_calls HA.out HWF3.out (ik : Int) qa qb).mono ?_
                        rintro e v1_ ⟨rfl, c1', hf, ha⟩
                        rw [HU1.out]
                        refine ⟨_, rfl, ?_⟩
                        have HA_n := Aside0.mk ha; have G_n := Aside0.mk (G.out.step hf (by decide)); have LZ_n := Aside0.mk (LZ.out.keep hf (by decide)); have LA_n := Aside0.mk (LA.out.keep hf (by decide)); have LP_n := Aside0.mk (LP.out.keep hf (by decide)); clear G LZ LA LP; have G := G_n; have LZ := LZ_n; have LA := LA_n; have LP := LP_n; clear G_n LZ_n LA_n LP_n; clear HA ha hf; have HA := HA_n; clear HA_n
                        obtain ⟨e0, e1, f0, f1, e2, f2⟩ := pg_cells LA.out HI8.out
                        clear f0 f1 e2 f2
                        rw [St.up_at] at e0 e1
                        dsimp only at e0 e1
                        refine hK _ _ ⟨blk_cell (w := v1_) LP.out.blk 0, blk_cell (w := v1_) LP.out.blk 1, e0, e1⟩ (fun hHeld => ?_)
                        clear hK K
                        refine norm_ (a' := ?_) ?_ ?_
                        rotate_left
                        · show Act.put _ (some 141) _ = _
                          simp only [Act.put, List.setIfInBounds_toArray, List.set_cons_zero, List.set_cons_succ, i64_w, i32_w]
                          rfl
                        refine rgp 12 142 ?_
                        refine rgp 13 143 ?_
                        refine done_ (by kernel_rfl) ?_
                        clear hHeld t1 HE0 HE1 HKP2 e0 e1
                        have HKP2 := HKP3
                        (try simp only [Exit.inBlock, Exit.then])
                        go_wp2
                        go_meet
                        exact ⟨_, ws', _, _, rfl, G, HA, LZ, LA, HKP2⟩
                    · have hb5 : (er != (0 : Int)) = true := by simpa using her
                      clear her
                      (try clear q5 q6 q7 q8 q9 q10 q11 q12 q13 q14 q15)
                      have HKP2 := Aside0.mk (HKP.out.b (B' := 1 + ((r + 1 : Nat) : Int)) (by omega))
                      go_wp2
                      go_roundw
                      case rel => first | exact ⟨r + 1, _, ws, want, _, by first | rfl | (rw [hwk]) | go_num, ⟨HLT.out⟩, G, HA, LZ, LA, HKP2⟩ | ((repeat apply Exists.intro); exact ⟨⟨r + 1, _, ws, want, _, by first | rfl | (rw [hwk]) | go_num, ⟨HLT.out⟩, G, HA, LZ, LA, HKP2⟩, rfl⟩)
                      case measure => first | exact r_ms HLT.out | (rw [hwk]; exact r_ms HLT.out)
                  | false =>
                    have HWF := Aside0.mk HKP.out.wf; have HOR := Aside0.mk (HKP.out.okr (by have := HBB.out; omega)); have HRD2 := Aside0.mk (HKP.out.rdy (by have := HBB.out; omega))
                    have HPUT := Aside0.mk (HKP.out.put (ik : Int) HI.out.1 HI.out.2)
                    obtain ⟨e1, e2, e3, e4, ⟨kf, e5⟩, ws', hKP'⟩ := HKP.out.get (by have := HBB.out; omega) HI.out
                    generalize hgp : getP 0 zp X (ik : Int) = gq at *
                    obtain ⟨⟨pa, pb⟩, pe, X'⟩ := gq
                    have HGP := Aside0.mk hgp
                    simp only [] at e1 e2 e4 e5 hKP'
                    subst e2
                    have HW := Aside0.mk e1.symm; have HHK := Aside0.mk (show ∃ k : Nat, X'.P.wh (ik : Int) = some (k : Int) from ⟨kf, e5⟩); have HNX := Aside0.mk e4
                    clear hgp e1 e3 e4 e5
                    have HKP2 := Aside0.mk (show KP zp zl 1 (1 + ((r + 1 : Nat) : Int)) X' ws' want from (by rw [show 1 + ((r + 1 : Nat) : Int) = 1 + (r : Int) + 1 by omega]; exact hKP'))
                    clear hKP'
                    go_upto_region 16 with (go_at_call 11; (with_reducible refine (get_calls HA.out HRD2.out (by decide) HWF.out HOR.out (ik : Int)).mono ?_); rintro e w1 ⟨rfl, c1, hf, ha⟩; rw [HGP.out] at ha ⊢; simp only [] at ha ⊢; have G_n := Aside0.mk (G.out.step hf (by decide)); have LZ_n := Aside0.mk (LZ.out.keep hf (by decide)); have LA_n := Aside0.mk (LA.out.keep hf (by decide)); clear G LZ LA; have G := G_n; have LZ := LZ_n; have LA := LA_n; clear G_n LZ_n LA_n; clear HA; have HA := Aside0.mk ha; clear ha hf; (try clear z0 z1 z2))
                    clear LO q0 q1 q2 q3 q4 q5 q6 q7 q8 q9 q10 q11 q12 q13 q14 q15
                    have hf := fr_alloc [] w1 c1 9 (.cells #[.int .i64 pa, .string pb] 35)
                    have G_n := Aside0.mk (G.out.step hf (by decide)); have HA_n := Aside0.mk (HA.out.keep hf (by decide) (by decide) (by decide) (by decide)); have LZ_n := Aside0.mk (LZ.out.keep hf (by decide)); have LA_n := Aside0.mk (LA.out.keep hf (by decide)); clear G HA LZ LA; have G := G_n; have HA := HA_n; have LZ := LZ_n; have LA := LA_n; clear G_n HA_n LZ_n LA_n
                    have LP := Aside0.mk (loc_alloc w1 c1 9 #[.int .i64 pa, .string pb] 35)
                    clear hf
                    generalize Dk.paint c1 w1.heap.size 9 = cLP at *
                    generalize w1.alloc (.cells #[.int .i64 pa, .string pb] 35) = W6 at *
                    generalize w1.heap.size = bp_ at *
                    have G_n := Aside0.mk (G.out.drew); have HA_n := Aside0.mk (HA.out.drew); have LZ_n := Aside0.mk (LZ.out.drew); have LA_n := Aside0.mk (LA.out.drew); have LP_n := Aside0.mk (LP.out.drew); clear G HA LZ LA LP; have G := G_n; have HA := HA_n; have LZ := LZ_n; have LA := LA_n; have LP := LP_n; clear G_n HA_n LZ_n LA_n LP_n
                    obtain ⟨e0, e1, f0, f1, e2, f2⟩ := pg_cells LA.out HI8.out
                    clear f0 f1 e2 f2
                    rw [HW.out] at e0 e1
                    dsimp only at e0 e1
                    have h8i : (ik : Int) < 8 := by have := HI8.out; omega
                    refine start_ (n := 9) (S := fun w' => w'.cell? ⟨bp_, 0, none⟩ = some (.int .i64 pa) ∧ w'.cell? ⟨bp_, 1, none⟩ = some (.string pb) ∧ w'.cell? ⟨ba, ik * 2, none⟩ = some (.int .i64 pa) ∧ w'.cell? ⟨ba, ik * 2 + 1, none⟩ = some (.string pb)) (ds := []) #[false, false, false, false, false, false, false, false, false] (by kernel_rfl) rfl rfl ⟨blk_cell LP.out.blk 0, blk_cell LP.out.blk 1, e0, e1⟩ (fun hHeld => ?_)
                    refine rgp 0 72 ?_
                    refine rgp 1 73 ?_
                    refine rgp 2 74 ?_
                    refine rgp 4 76 ?_
                    refine rgp 5 77 ?_
                    refine rgt 3 75 hHeld ?_
                    refine rgt 6 78 hHeld ?_
                    refine rgp 7 79 ?_
                    refine rgp 8 80 ?_
                    refine done_ (by kernel_rfl) ?_
                    clear e0 e1 hHeld
                    go_wp2
                    go_meet
                    exact ⟨X', ws', want, _, rfl, G, HA, LZ, LA, HKP2⟩
            case rest =>
              clear G HA LZ LA LO HKP z0 z1 z2 q0 q1 q2 q3 q4 q5 q6 q7 q8 q9 q10 q11 q12 q13 q14 q15
              obtain ⟨X', ws', want', c', rfl, G, HA, LZ, LA, HKP2⟩ := hcut
              (try clear z0 z1 z2); have z0 : wc.cell? ⟨zb, 0, none⟩ = some (.int .i64 zp) := blk_cell LZ.out.blk 0; have z1 : wc.cell? ⟨zb, 1, none⟩ = some (.int .i64 (nf : Int)) := blk_cell LZ.out.blk 1; have z2 : wc.cell? ⟨zb, 2, none⟩ = some (.int .i64 zl) := blk_cell LZ.out.blk 2
              go_upto_region 32 with (fail)
              have HOKD := Aside0.mk HKP2.out.qp.ok; have HHI := Aside0.mk (HKP2.out.rdy (by have := HBB.out; omega)).hi
              go_loopw [146] (fun v wr => ∃ (k : Nat) (c : Nat → Nat), v = .int .i64 k ∧ Aside0 ((k : Int) ≤ zp) ∧ Aside0 (Gr w wr c) ∧ Aside0 (AO wr c gp fb m gs gl ml g nf cp 0 zp X') ∧ Aside0 (Fr.Loc wr c zb 9 #[.int .i64 zp, .int .i64 (nf : Int), .int .i64 zl] 23) ∧ Aside0 (Fr.Loc wr c ba 7 (pgC want') AT)) (fun v _ => zp.toNat - (intOf v).toNat)
              case atStart => exact ⟨0, _, rfl, ⟨Int.le_trans (by decide) HZP.out.1⟩, G, HA, LZ, LA⟩
              case round =>
                clear G HA LZ LA
                obtain ⟨k, c', rfl, HK, G, HA, LZ, LA⟩ := hrel
                (try clear z0 z1 z2)
                (try clear z0 z1 z2); have z0 : wr.cell? ⟨zb, 0, none⟩ = some (.int .i64 zp) := blk_cell LZ.out.blk 0; have z1 : wr.cell? ⟨zb, 1, none⟩ = some (.int .i64 (nf : Int)) := blk_cell LZ.out.blk 1; have z2 : wr.cell? ⟨zb, 2, none⟩ = some (.int .i64 zl) := blk_cell LZ.out.blk 2
                by_cases hlk : (k : Int) < zp
                · have hwj := k_wr hlk HZP.out.2
                  have HKL := Aside0.mk hlk
                  have HRE := Aside0.mk (HKP2.out.reads (k := (k : Int)) ⟨Int.natCast_nonneg k, hlk⟩)
                  obtain ⟨hxb, hsf⟩ := HKP2.out.sound (k := (k : Int)) ⟨Int.natCast_nonneg k, hlk⟩
                  generalize hxx : ws' (k : Int) = xx at *
                  obtain ⟨xa, xb⟩ := xx
                  clear hxx
                  simp only [] at hxb hsf HRE
                  have HXB := Aside0.mk (sm_in hxb); have HSF := Aside0.mk hsf
                  clear hsf
                  by_cases hx0 : 0 < xa
                  · skip
                    clear hxb
                    go_upto_region 35 with (go_at_call 17; (with_reducible refine (read_o HA.out.so HOKD.out HHI.out (k : Int)).mono ?_); rintro e w1 ⟨rfl, hb1⟩; rw [HRE.out]; simp only []; have G_n := Aside0.mk (G.out.below hb1); have HA_n := Aside0.mk (HA.out.below hb1); have LZ_n := Aside0.mk (LZ.out.below hb1); have LA_n := Aside0.mk (LA.out.below hb1); clear G HA LZ LA; have G := G_n; have HA := HA_n; have LZ := LZ_n; have LA := LA_n; clear G_n HA_n LZ_n LA_n; clear hb1; (try clear z0 z1 z2))
                    have hf := fr_alloc [] w1 c' 9 (.cells #[.int .i64 xa, .string xb] 35)
                    have G_n := Aside0.mk (G.out.step hf (by decide)); have HA_n := Aside0.mk (HA.out.keep hf (by decide) (by decide) (by decide) (by decide)); have LZ_n := Aside0.mk (LZ.out.keep hf (by decide)); have LA_n := Aside0.mk (LA.out.keep hf (by decide)); clear G HA LZ LA; have G := G_n; have HA := HA_n; have LZ := LZ_n; have LA := LA_n; clear G_n HA_n LZ_n LA_n
                    have LQ := Aside0.mk (loc_alloc w1 c' 9 #[.int .i64 xa, .string xb] 35)
                    clear hf
                    generalize Dk.paint c' w1.heap.size 9 = cLQ at *
                    generalize w1.alloc (.cells #[.int .i64 xa, .string xb] 35) = W9 at *
                    generalize w1.heap.size = bq at *
                    have x0 : W9.cell? ⟨bq, 0, none⟩ = some (.int .i64 xa) := blk_cell LQ.out.blk 0
                    go_wp2_with (go_at_call 24; (with_reducible refine (safe_calls HA.out.lo xa HXB.out).mono ?_); rintro e w1 ⟨rfl, hb1⟩; rw [HSF.out]; have G_n := Aside0.mk (G.out.below hb1); have HA_n := Aside0.mk (HA.out.below hb1); have LZ_n := Aside0.mk (LZ.out.below hb1); have LA_n := Aside0.mk (LA.out.below hb1); clear G HA LZ LA; have G := G_n; have HA := HA_n; have LZ := LZ_n; have LA := LA_n; clear G_n HA_n LZ_n LA_n; clear hb1)
                    go_roundw
                    case rel => first | exact ⟨k + 1, _, by first | rfl | (rw [hwj]) | go_num, ⟨k_le HKL.out⟩, G, HA, LZ, LA⟩ | ((repeat apply Exists.intro); exact ⟨⟨k + 1, _, by first | rfl | (rw [hwj]) | go_num, ⟨k_le HKL.out⟩, G, HA, LZ, LA⟩, rfl⟩)
                    case measure => first | exact k_ms HKL.out | (rw [hwj]; exact k_ms HKL.out)
                  · skip
                    clear hxb
                    go_upto_region 35 with (go_at_call 17; (with_reducible refine (read_o HA.out.so HOKD.out HHI.out (k : Int)).mono ?_); rintro e w1 ⟨rfl, hb1⟩; rw [HRE.out]; simp only []; have G_n := Aside0.mk (G.out.below hb1); have HA_n := Aside0.mk (HA.out.below hb1); have LZ_n := Aside0.mk (LZ.out.below hb1); have LA_n := Aside0.mk (LA.out.below hb1); clear G HA LZ LA; have G := G_n; have HA := HA_n; have LZ := LZ_n; have LA := LA_n; clear G_n HA_n LZ_n LA_n; clear hb1; (try clear z0 z1 z2))
                    have hf := fr_alloc [] w1 c' 9 (.cells #[.int .i64 xa, .string xb] 35)
                    have G_n := Aside0.mk (G.out.step hf (by decide)); have HA_n := Aside0.mk (HA.out.keep hf (by decide) (by decide) (by decide) (by decide)); have LZ_n := Aside0.mk (LZ.out.keep hf (by decide)); have LA_n := Aside0.mk (LA.out.keep hf (by decide)); clear G HA LZ LA; have G := G_n; have HA := HA_n; have LZ := LZ_n; have LA := LA_n; clear G_n HA_n LZ_n LA_n
                    have LQ := Aside0.mk (loc_alloc w1 c' 9 #[.int .i64 xa, .string xb] 35)
                    clear hf
                    generalize Dk.paint c' w1.heap.size 9 = cLQ at *
                    generalize w1.alloc (.cells #[.int .i64 xa, .string xb] 35) = W9 at *
                    generalize w1.heap.size = bq at *
                    have x0 : W9.cell? ⟨bq, 0, none⟩ = some (.int .i64 xa) := blk_cell LQ.out.blk 0
                    go_wp2
                    go_roundw
                    case rel => first | exact ⟨k + 1, _, by first | rfl | (rw [hwj]) | go_num, ⟨k_le HKL.out⟩, G, HA, LZ, LA⟩ | ((repeat apply Exists.intro); exact ⟨⟨k + 1, _, by first | rfl | (rw [hwj]) | go_num, ⟨k_le HKL.out⟩, G, HA, LZ, LA⟩, rfl⟩)
                    case measure => first | exact k_ms HKL.out | (rw [hwj]; exact k_ms HKL.out)
                · go_wp2
                  go_roundw
                  case rel => first | exact ⟨r + 1, X', ws', want', _, by first | rfl | (rw [hwk]) | go_num, ⟨HLT.out⟩, G, HA, LZ, LA, HKP2⟩ | ((repeat apply Exists.intro); exact ⟨⟨r + 1, X', ws', want', _, by first | rfl | (rw [hwk]) | go_num, ⟨HLT.out⟩, G, HA, LZ, LA, HKP2⟩, rfl⟩)
                  case measure => first | exact r_ms HLT.out | (rw [hwk]; exact r_ms HLT.out)
          · obtain rfl : r = l.length := by have := HRL.out; omega
            clear hlt
            go_wp2
            go_ret
            exact ⟨rfl, G.out.bel⟩
theorem careenlaw08_PoolKeeps.wfz {x : Int} (h : (Lit.int .i64 x).wf = true) : -9223372036854775808 ≤ x ∧ x < 9223372036854775808 := by
  simp only [Lit.wf, Bool.and_eq_true, decide_eq_true_eq] at h
  have h2 : IntKind.i64.min ≤ x ∧ x ≤ IntKind.i64.max := h
  simp only [show IntKind.i64.min = -9223372036854775808 from rfl, show IntKind.i64.max = 9223372036854775807 from rfl] at h2
  omega
def careenlaw08_PoolKeeps.f (a0_0 a0_1 a0_2 : Int) (l1 : List S41) : Option Bool := if -9223372036854775808 ≤ a0_2 ∧ a0_2 < 9223372036854775808 then some true else none
theorem careenlaw08_PoolKeeps.calls (a0_0 a0_1 a0_2 : Int) (A1 : Option Addr) (c1 : Nat) (l1 : List S41) (r : Bool) (w : World) (hr1 : Kd.C k41 w A1 l1.length l1) (hc1 : l1.length ≤ c1) (h : careenlaw08_PoolKeeps.f a0_0 a0_1 a0_2 l1 = some r) :
    Calls Try.prog 6 #[.agg #[.int .i64 a0_0, .int .i64 a0_1, .int .i64 a0_2], .slice A1 l1.length c1] w fun e w' => e = .returned (.bool r) ∧ Below w.heap.size w w' := by
  unfold careenlaw08_PoolKeeps.f at h
  by_cases hz : -9223372036854775808 ≤ a0_2 ∧ a0_2 < 9223372036854775808
  · rw [if_pos hz] at h
    obtain rfl := Option.some.inj h
    by_cases hb : a0_0 < 1 ∨ 8 < a0_0 ∨ a0_2 < 8 ∨ 64 < a0_2 ∨ a0_1 < 1 ∨ 8 < a0_1
    · exact keeps_bad a0_0 a0_1 a0_2 hz hb A1 c1 l1 w hr1 hc1
    · obtain ⟨nf, hn⟩ : ∃ nf : Nat, a0_1 = (nf : Int) := ⟨a0_1.toNat, by omega⟩
      subst hn
      exact keeps_walk a0_0 a0_2 nf (by omega) (by omega) (by omega) A1 c1 l1 w hr1 hc1
  · rw [if_neg hz] at h
    cases h
end Go.Proofs.Ytcelfhoomhmioaa.X4
