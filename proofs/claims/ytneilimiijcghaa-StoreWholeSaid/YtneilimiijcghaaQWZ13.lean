import Derived.Test.YtneilimiijcghaaQWZ0
import Derived.Test.YtneilimiijcghaaQWZ1
import Derived.Test.YtneilimiijcghaaQWZ2
import Derived.Test.YtneilimiijcghaaQWZ3
import Derived.Test.YtneilimiijcghaaQWZ4
import Derived.Test.YtneilimiijcghaaQWZ5
import Derived.Test.YtneilimiijcghaaQWZ6
import Derived.Test.YtneilimiijcghaaQWZ7
import Derived.Test.YtneilimiijcghaaQWZ8
import Derived.Test.YtneilimiijcghaaQWZ9
import Derived.Test.YtneilimiijcghaaQWZ10
import Derived.Test.YtneilimiijcghaaQWZ11
import Derived.Test.YtneilimiijcghaaQWZ12
namespace Go.Proofs.Ytneilimiijcghaa.X12
open Go.Proofs.Ytneilimiijcghaa.Rgn
open Go Go.RowKit Go.ChangeMaps Go.Proofs.Ytneilimiijcghaa.Arr Go.Proofs.Ytneilimiijcghaa.Mp Go.Proofs.Ytneilimiijcghaa.Ow Go.Proofs.Ytneilimiijcghaa.Dk Go.Proofs.Ytneilimiijcghaa.Fr Go.Proofs.Ytneilimiijcghaa.St Go.Proofs.YtneilimiijcghaaW.PrintWords Go.Proofs.YtneilimiijcghaaW.PrintLast Go.Proofs.YtneilimiijcghaaW.PrintMore
set_option linter.unusedVariables false
set_option linter.unusedSimpArgs false
attribute [local go_sem high] eqA34
/-- Eight pages, laid. -/
def pgF (want : Int → Int × ByteArray) : Nat → Value := fun j => if j % 2 = 0 then .int .i64 (want ((j / 2 : Nat) : Int)).1 else .string (want ((j / 2 : Nat) : Int)).2
def pgC (want : Int → Int × ByteArray) : Array Value := ((List.range 16).map (pgF want)).toArray
theorem pgC_get (want : Int → Int × ByteArray) {i : Nat} (h : i < 16) : (pgC want)[i]? = some (pgF want i) := by
  unfold pgC
  simp [h]
theorem pgC_even (want : Int → Int × ByteArray) {i : Nat} (h : i < 8) : (pgC want)[i * 2]? = some (.int .i64 (want (i : Int)).1) := by
  rw [pgC_get want (by omega)]
  unfold pgF
  rw [if_pos (by omega), show i * 2 / 2 = i by omega]
theorem pgC_odd (want : Int → Int × ByteArray) {i : Nat} (h : i < 8) : (pgC want)[i * 2 + 1]? = some (.string (want (i : Int)).2) := by
  rw [pgC_get want (by omega)]
  unfold pgF
  rw [if_neg (by omega), show (i * 2 + 1) / 2 = i by omega]
theorem pgC_set (want : Int → Int × ByteArray) {i : Nat} (h : i < 8) (p : Int × ByteArray) : ((pgC want).setIfInBounds (i * 2) (.int .i64 p.1)).setIfInBounds (i * 2 + 1) (.string p.2) = pgC (St.up want i p) := by
  apply Array.ext_getElem?
  intro j
  rw [Array.getElem?_setIfInBounds, Array.getElem?_setIfInBounds]
  have hs : ∀ w, (pgC w).size = 16 := fun w => by simp [pgC]
  rw [Array.size_setIfInBounds, hs]
  by_cases hj : j < 16
  · rw [pgC_get _ hj, pgC_get _ hj]
    unfold pgF St.up
    by_cases e1 : i * 2 + 1 = j
    · rw [if_pos e1, if_pos (by omega), if_neg (by omega), if_pos (show ((j / 2 : Nat) : Int) = (i : Int) by omega)]
    · rw [if_neg e1]
      by_cases e2 : i * 2 = j
      · rw [if_pos e2, if_pos (by omega), if_pos (by omega), if_pos (show ((j / 2 : Nat) : Int) = (i : Int) by omega)]
      · rw [if_neg e2, if_neg (show ¬ ((j / 2 : Nat) : Int) = (i : Int) by omega)]
  · rw [Array.getElem?_eq_none (by rw [hs]; omega), Array.getElem?_eq_none (by rw [hs]; omega), if_neg (by omega), if_neg (by omega)]
/-- Of eight pages the first k are empty ones. -/
def fillP (k : Nat) : Int → Int × ByteArray := fun j => if j < (k : Int) then noPage else (0, ⟨#[]⟩)
theorem fillP_up (k : Nat) : St.up (fillP k) (k : Int) noPage = fillP (k + 1) := by
  funext j
  unfold St.up fillP
  by_cases e : j = (k : Int)
  · rw [if_pos e, if_pos (by omega)]
  · rw [if_neg e]
    by_cases h : j < (k : Int)
    · rw [if_pos h, if_pos (by omega)]
    · rw [if_neg h, if_neg (by omega)]
abbrev AT : TypeId := 35
theorem pg_cells {w : World} {c : Nat → Nat} {ba : Nat} {want : Int → Int × ByteArray} (h : Fr.Loc w c ba 3 (pgC want) AT) {k : Nat} (hk : k < 8) :
    w.cell? ⟨ba, k * 2, none⟩ = some (.int .i64 (want (k : Int)).1) ∧ w.cell? ⟨ba, k * 2 + 1, none⟩ = some (.string (want (k : Int)).2) ∧ w.frozen? ⟨ba, k * 2, none⟩ = false ∧ w.frozen? ⟨ba, k * 2 + 1, none⟩ = false ∧ (∀ v, (w.setCell ⟨ba, k * 2, none⟩ v).cell? ⟨ba, k * 2 + 1, none⟩ = some (.string (want (k : Int)).2)) ∧ (∀ v, (w.setCell ⟨ba, k * 2, none⟩ v).frozen? ⟨ba, k * 2 + 1, none⟩ = false) := by
  have e : ∀ {W : World} {cs : Array Value} {i : Nat} {v : Value}, W.heap[ba]? = some (.cells cs AT (0, 0)) → cs[i]? = some v → W.cell? ⟨ba, i, none⟩ = some v := fun h1 h2 => by
    rw [blk_cell h1 _, h2]
  refine ⟨e h.blk (pgC_even want hk), e h.blk (pgC_odd want hk), blk_frozen h.blk _, blk_frozen h.blk _, fun v => e (h.set _ v).blk ?_, fun v => blk_frozen (h.set _ v).blk _⟩
  rw [Array.getElem?_setIfInBounds, if_neg (by omega)]
  exact pgC_odd want hk
theorem pg_set {w : World} {c : Nat → Nat} {ba : Nat} {want : Int → Int × ByteArray} (h : Fr.Loc w c ba 3 (pgC want) AT) {k : Nat} (hk : k < 8) (p : Int × ByteArray) :
    Fr.Loc ((w.setCell ⟨ba, k * 2, none⟩ (.int .i64 p.1)).setCell ⟨ba, k * 2 + 1, none⟩ (.string p.2)) c ba 3 (pgC (St.up want k p)) AT ∧ Fr.Fr [3] w c ((w.setCell ⟨ba, k * 2, none⟩ (.int .i64 p.1)).setCell ⟨ba, k * 2 + 1, none⟩ (.string p.2)) c := by
  have h1 := h.set (k * 2) (.int .i64 p.1)
  have h2 := h1.set (k * 2 + 1) (.string p.2)
  rw [pgC_set want hk p] at h2
  exact ⟨h2, (h.set_fr _ _).trans (h1.set_fr _ _)⟩
set_option maxHeartbeats 16000000 in
set_option maxRecDepth 20000 in
theorem whole_walk (n : Int) (A0 : Option Addr) (c0 : Nat) (l : List S39) (A2 : Option Addr) (c2 : Nat) (l2 : List S39) (w : World) (hr : Kd.C k39 w A0 l.length l) (hc0 : l.length ≤ c0) (ho : OkOps l) (hr2 : Kd.C k39 w A2 l2.length l2) (hc2 : l2.length ≤ c2) (ho2 : OkOps l2) : Calls Try.prog 3 #[.int .i64 n, .slice A0 l.length c0, .slice A2 l2.length c2] w fun e w' => e = .returned (.bool true) ∧ Below w.heap.size w w' := by
  have hm := Kd.C_max hr; have hm2 := Kd.C_max hr2
  have HR := Aside0.mk hr; have HC0 := Aside0.mk hc0; have HOPS := Aside0.mk ho
  have HR2 := Aside0.mk hr2; have HC2 := Aside0.mk hc2; have HOPS2 := Aside0.mk ho2
  clear hr hc0 ho hr2 hc2 ho2
  have G := Aside0.mk (Gr.refl w)
  go_enter Try.func3, Try.ntmps3
  have hi := Lv.mod_ok 8 n (by decide) (by decide)
  have hwn : wrap64 (1 + wrap64 ((IntKind.u64.wrap n).tmod 8)) = 1 + wrap64 ((IntKind.u64.wrap n).tmod 8) := by
    generalize wrap64 ((IntKind.u64.wrap n).tmod 8) = z at *
    unfold wrap64; omega
  go_upto_region 2 with (fail)
  (try simp only [hwn])
  clear hwn
  obtain ⟨n', hn'⟩ : ∃ n', n' = 1 + wrap64 ((IntKind.u64.wrap n).tmod 8) := ⟨_, rfl⟩
  rw [← hn']
  have hn1 : 1 ≤ n' ∧ n' ≤ 8 := by omega
  clear hn' hi
  have HN1 := Aside0.mk hn1.1; have HN8 := Aside0.mk (show 0 ≤ n' ∧ n' ≤ 8 by omega)
  have hnew : ∀ {w0 w : World} {c : Nat → Nat} (_ : Gr w0 w c), Calls Try.prog 7 #[.int .i64 20] w fun e w' => ∃ g, e = .returned (.tuple #[.pointer (some ⟨g, 0, none⟩), .int .i64 0]) ∧ DK w' (Col (Dk.paint c w.heap.size 1) 1) g (newD 20) ∧ Fr [] w c w' (Dk.paint c w.heap.size 1) := fun {_ w c} _ => newdisk 20 (by decide) (by decide) w c
  have HQ := Aside0.mk (qs_new (base := 1) (n := n') 20 (by decide) (by decide) HN8.out (by omega))
  clear hn1
  go_upto_region 3 with (go_at_call 7; (with_reducible refine (hnew G.out).mono ?_); rintro e w1 ⟨g, rfl, hk, hf⟩; have G_n := Aside0.mk (G.out.step hf (by decide)); clear G; have G := G_n; clear G_n; have HD := Aside0.mk hk; clear hk hf)
  clear hnew
  generalize newD 20 = d0 at *
  go_upto_region 4 with (go_at_call 8; (with_reducible refine (new_o HD.out HQ.out.ok (by decide) (HQ.out.cs.newOk HN1.out)).mono ?_); rintro e w1 ⟨gs, c1, rfl, hf, hs⟩; have G_n := Aside0.mk (G.out.step hf (by decide)); clear G; have G := G_n; clear G_n; have HS := Aside0.mk hs; clear hs hf HD)
  cases hlg : longF l with
  | true =>
    go_wp2_with (first | (go_at_call 9; (with_reducible refine (awake_calls _).mono ?_); rintro e w1 ⟨rfl, hb1⟩; have G_n := Aside0.mk (G.out.below hb1); have HS_n := Aside0.mk (HS.out.below hb1); clear G HS; have G := G_n; have HS := HS_n; clear G_n HS_n; clear hb1) | (go_at_call 10; (with_reducible refine (long_calls _ _ _ _ (Kd.C_below HR.out G.out.bel) HC0.out).mono ?_); rintro e w1 ⟨rfl, hb1⟩; have G_n := Aside0.mk (G.out.below hb1); have HS_n := Aside0.mk (HS.out.below hb1); clear G HS; have G := G_n; have HS := HS_n; clear G_n HS_n; clear hb1) | (go_at_call 10; (with_reducible refine (long_calls _ _ _ _ (Kd.C_below HR2.out G.out.bel) HC2.out).mono ?_); rintro e w1 ⟨rfl, hb1⟩; have G_n := Aside0.mk (G.out.below hb1); have HS_n := Aside0.mk (HS.out.below hb1); clear G HS; have G := G_n; have HS := HS_n; clear G_n HS_n; clear hb1))
    go_ret
    exact ⟨rfl, G.out.bel⟩
  | false =>
    have HL200 := Aside0.mk (show l.length ≤ 200 from by
      have := hlg
      unfold longF at this
      simp only [Bool.or_eq_false_iff, decide_eq_false_iff_not] at this
      omega)
    by_cases h20 : (20 : Int) < (l2.length : Int)
    · skip
      go_wp2_with (first | (go_at_call 9; (with_reducible refine (awake_calls _).mono ?_); rintro e w1 ⟨rfl, hb1⟩; have G_n := Aside0.mk (G.out.below hb1); have HS_n := Aside0.mk (HS.out.below hb1); clear G HS; have G := G_n; have HS := HS_n; clear G_n HS_n; clear hb1) | (go_at_call 10; (with_reducible refine (long_calls _ _ _ _ (Kd.C_below HR.out G.out.bel) HC0.out).mono ?_); rintro e w1 ⟨rfl, hb1⟩; have G_n := Aside0.mk (G.out.below hb1); have HS_n := Aside0.mk (HS.out.below hb1); clear G HS; have G := G_n; have HS := HS_n; clear G_n HS_n; clear hb1) | (go_at_call 10; (with_reducible refine (long_calls _ _ _ _ (Kd.C_below HR2.out G.out.bel) HC2.out).mono ?_); rintro e w1 ⟨rfl, hb1⟩; have G_n := Aside0.mk (G.out.below hb1); have HS_n := Aside0.mk (HS.out.below hb1); clear G HS; have G := G_n; have HS := HS_n; clear G_n HS_n; clear hb1))
      go_ret
      exact ⟨rfl, G.out.bel⟩
    cases hlg2 : longF l2 with
    | true =>
      go_wp2_with (first | (go_at_call 9; (with_reducible refine (awake_calls _).mono ?_); rintro e w1 ⟨rfl, hb1⟩; have G_n := Aside0.mk (G.out.below hb1); have HS_n := Aside0.mk (HS.out.below hb1); clear G HS; have G := G_n; have HS := HS_n; clear G_n HS_n; clear hb1) | (go_at_call 10; (with_reducible refine (long_calls _ _ _ _ (Kd.C_below HR.out G.out.bel) HC0.out).mono ?_); rintro e w1 ⟨rfl, hb1⟩; have G_n := Aside0.mk (G.out.below hb1); have HS_n := Aside0.mk (HS.out.below hb1); clear G HS; have G := G_n; have HS := HS_n; clear G_n HS_n; clear hb1) | (go_at_call 10; (with_reducible refine (long_calls _ _ _ _ (Kd.C_below HR2.out G.out.bel) HC2.out).mono ?_); rintro e w1 ⟨rfl, hb1⟩; have G_n := Aside0.mk (G.out.below hb1); have HS_n := Aside0.mk (HS.out.below hb1); clear G HS; have G := G_n; have HS := HS_n; clear G_n HS_n; clear hb1))
      go_ret
      exact ⟨rfl, G.out.bel⟩
    | false =>
      have HL20 := Aside0.mk (show l2.length ≤ 20 from by omega)
      go_upto_region 6 with (first | (go_at_call 9; (with_reducible refine (awake_calls _).mono ?_); rintro e w1 ⟨rfl, hb1⟩; have G_n := Aside0.mk (G.out.below hb1); have HS_n := Aside0.mk (HS.out.below hb1); clear G HS; have G := G_n; have HS := HS_n; clear G_n HS_n; clear hb1) | (go_at_call 10; (with_reducible refine (long_calls _ _ _ _ (Kd.C_below HR.out G.out.bel) HC0.out).mono ?_); rintro e w1 ⟨rfl, hb1⟩; have G_n := Aside0.mk (G.out.below hb1); have HS_n := Aside0.mk (HS.out.below hb1); clear G HS; have G := G_n; have HS := HS_n; clear G_n HS_n; clear hb1) | (go_at_call 10; (with_reducible refine (long_calls _ _ _ _ (Kd.C_below HR2.out G.out.bel) HC2.out).mono ?_); rintro e w1 ⟨rfl, hb1⟩; have G_n := Aside0.mk (G.out.below hb1); have HS_n := Aside0.mk (HS.out.below hb1); clear G HS; have G := G_n; have HS := HS_n; clear G_n HS_n; clear hb1))
      clear hlg hlg2 h20
      go_upto_region 7 with (fail)
      have hz : (#[.int .i64 0, .string ⟨#[]⟩, .int .i64 0, .string ⟨#[]⟩, .int .i64 0, .string ⟨#[]⟩, .int .i64 0, .string ⟨#[]⟩, .int .i64 0, .string ⟨#[]⟩, .int .i64 0, .string ⟨#[]⟩, .int .i64 0, .string ⟨#[]⟩, .int .i64 0, .string ⟨#[]⟩] : Array Value) = pgC (fun _ => (0, ⟨#[]⟩)) := rfl
      rw [hz]
      clear hz
      have hf := fr_alloc [] w1 c1 3 (.cells (pgC (fun _ => (0, ⟨#[]⟩))) AT)
      have G_n := Aside0.mk (G.out.step hf (by decide)); have HS_n := Aside0.mk (HS.out.keep hf (by decide) (by decide)); clear G HS; have G := G_n; have HS := HS_n; clear G_n HS_n
      have LA := Aside0.mk (loc_alloc w1 c1 3 (pgC (fun _ => (0, ⟨#[]⟩))) AT)
      clear hf
      generalize Dk.paint c1 w1.heap.size 3 = cLA at *
      generalize w1.alloc (.cells (pgC (fun _ => (0, ⟨#[]⟩))) AT) = W at *
      generalize w1.heap.size = ba at *
      go_upto_region 8 with (fail)
      go_loopw [63] (fun v wr => ∃ (k : Nat) (c : Nat → Nat), v = .int .i64 k ∧ Aside0 (k ≤ 8) ∧ Aside0 (Gr w wr c) ∧ Aside0 (SO wr c gs g 1 n' 1 d0) ∧ Aside0 (Fr.Loc wr c ba 3 (pgC (fillP k)) AT)) (fun v _ => 8 - (intOf v).toNat)
      case atStart => exact ⟨0, _, rfl, ⟨by decide⟩, G, HS, LA⟩
      case round =>
        clear G HS LA
        obtain ⟨k, c, rfl, R, G, HS, LA⟩ := hrel
        by_cases hlt : k < 8
        · have h1 : (k : Int) < 8 := by omega
          have hwk : wrap64 ((k : Int) + 1) = ((k + 1 : Nat) : Int) := by unfold wrap64; omega
          have HLT := Aside0.mk hlt
          go_wp2_with (go_at_call 11; (with_reducible refine (refempty_calls _).mono ?_); rintro e w1 ⟨rfl, hb1⟩; have G_n := Aside0.mk (G.out.below hb1); have HS_n := Aside0.mk (HS.out.below hb1); have LA_n := Aside0.mk (LA.out.below hb1); clear G HS LA; have G := G_n; have HS := HS_n; have LA := LA_n; clear G_n HS_n LA_n; clear hb1; obtain ⟨e0, e1, f0, f1, e2, f2⟩ := pg_cells LA.out HLT.out)
          clear e0 e1 f0 f1 e2 f2
          have hs : Fr.Loc ((w1.setCell ⟨ba, k * 2, none⟩ (.int .i64 0)).setCell ⟨ba, k * 2 + 1, none⟩ (.string (noughts 220))) c ba 3 (pgC (fillP (k + 1))) AT ∧ Fr.Fr [3] w1 c ((w1.setCell ⟨ba, k * 2, none⟩ (.int .i64 0)).setCell ⟨ba, k * 2 + 1, none⟩ (.string (noughts 220))) c := by
            rw [← fillP_up]
            exact pg_set LA.out HLT.out noPage
          go_roundw
          case rel => exact ⟨k + 1, c, by first | rfl | (rw [hwk]) | go_num, ⟨by have := HLT.out; omega⟩, ⟨G.out.step hs.2 (by decide)⟩, ⟨HS.out.keep hs.2 (by decide) (by decide)⟩, ⟨hs.1⟩⟩
          case measure =>
            have := HLT.out
            (try rw [hwk])
            simp only [intOf]; omega
        · obtain rfl : k = 8 := by have := R.out; omega
          clear hlt R
          have HQ8 := Aside0.mk (HQ.out.same (want2 := fillP 8) (fun k k0 k1 => if_pos (by have := HN8.out; omega)))
          clear HQ
          generalize fillP 8 = want0 at *
          go_upto_region 13 with (fail)
          go_loopw [9, 72] (fun sv v wr => ∃ (r : Nat) (T : Int) (want : Int → Int × ByteArray) (d : DS) (c : Nat → Nat) (gs : Nat), sv = .pointer (some ⟨gs, 0, none⟩) ∧ v = .int .i64 r ∧ Aside0 (r ≤ l.length) ∧ Aside0 (Gr w wr c) ∧ Aside0 (SO wr c gs g 1 n' T d) ∧ Aside0 (Fr.Loc wr c ba 3 (pgC want) AT) ∧ Aside0 (QS 1 n' T want d) ∧ Aside0 (1 ≤ T ∧ T ≤ 1 + r)) (fun _ v _ => l.length - (intOf v).toNat)
          case atStart => exact ⟨0, 1, want0, d0, _, gs, rfl, rfl, ⟨by omega⟩, G, HS, LA, HQ8, ⟨by omega⟩⟩
          case round =>
            clear G HS LA HQ8
            obtain ⟨r, T, want, d, c, gs, rfl, rfl, R, G, HS, LA, HQ, HB⟩ := hrel
            by_cases hlt : r < l.length
            · have h1 : (r : Int) < (l.length : Int) := by omega
              have hwk : wrap64 ((r : Int) + 1) = ((r + 1 : Nat) : Int) := by unfold wrap64; omega
              have HLT := Aside0.mk hlt
              obtain ⟨ad, A5, c5, hA0, q0, q1, q2, q3, q4, q5, hl5, hC5⟩ := at_T39 HR.out (r : Int) (by omega) h1
              subst hA0
              replace q0 := pw_cell_below G.out.bel q0; replace q1 := pw_cell_below G.out.bel q1; replace q2 := pw_cell_below G.out.bel q2; replace q3 := pw_cell_below G.out.bel q3; replace q4 := pw_cell_below G.out.bel q4; replace q5 := pw_cell_below G.out.bel q5
              rw [Int.toNat_natCast] at q0 q1 q2 q3 q4 q5
              have HOP := Aside0.mk (HOPS.out _ (rd_mem hlt))
              have HC5 := Aside0.mk hC5
              have HPB := Aside0.mk (HOPS.out _ (rd_mem hlt)).2.2.2.2
              clear hl5 hC5
              generalize rd_T39 l (r : Nat) = o_ at *
              go_upto_region 15 with (fail)
              have hf := fr_alloc [] wr c 4 (.cells #[.int .i64 o_.f0, .int .i64 o_.f1, .int .i64 o_.f2, .int .i64 o_.f3.f0, .string o_.f3.f1, .slice A5 o_.f4.length c5] 39)
              have G_n := Aside0.mk (G.out.step hf (by decide)); have HS_n := Aside0.mk (HS.out.keep hf (by decide) (by decide)); have LA_n := Aside0.mk (LA.out.keep hf (by decide)); clear G HS LA; have G := G_n; have HS := HS_n; have LA := LA_n; clear G_n HS_n LA_n
              have LO := Aside0.mk (loc_alloc wr c 4 #[.int .i64 o_.f0, .int .i64 o_.f1, .int .i64 o_.f2, .int .i64 o_.f3.f0, .string o_.f3.f1, .slice A5 o_.f4.length c5] 39)
              clear hf
              generalize Dk.paint c wr.heap.size 4 = cLO at *
              generalize wr.alloc (.cells #[.int .i64 o_.f0, .int .i64 o_.f1, .int .i64 o_.f2, .int .i64 o_.f3.f0, .string o_.f3.f1, .slice A5 o_.f4.length c5] 39) = W at *
              generalize wr.heap.size = ob at *
              clear q0 q1 q2 q3 q4 q5
              have q0 : W.cell? ⟨ob, 0, none⟩ = some (.int .i64 o_.f0) := blk_cell LO.out.blk 0; have q1 : W.cell? ⟨ob, 1, none⟩ = some (.int .i64 o_.f1) := blk_cell LO.out.blk 1; have q2 : W.cell? ⟨ob, 2, none⟩ = some (.int .i64 o_.f2) := blk_cell LO.out.blk 2; have q3 : W.cell? ⟨ob, 3, none⟩ = some (.int .i64 o_.f3.f0) := blk_cell LO.out.blk 3; have q4 : W.cell? ⟨ob, 4, none⟩ = some (.string o_.f3.f1) := blk_cell LO.out.blk 4; have q5 : W.cell? ⟨ob, 5, none⟩ = some (.slice A5 o_.f4.length c5) := blk_cell LO.out.blk 5
              have HTT := Aside0.mk (show 1 ≤ T ∧ T < 4294967200 by have := HB.out; have := HL200.out; have := HLT.out; omega)
              have hnz : (IntKind.u64.wrap n' = 0) = False := eq_false (by rw [IntKind.wrap_u64]; have := HN1.out; have := HN8.out; omega)
              have hmo : 0 ≤ wrap64 ((IntKind.u64.wrap o_.f1).tmod (IntKind.u64.wrap n')) ∧ wrap64 ((IntKind.u64.wrap o_.f1).tmod (IntKind.u64.wrap n')) < n' := by
                have e : IntKind.u64.wrap n' = n' := by rw [IntKind.wrap_u64]; have := HN1.out; have := HN8.out; omega
                rw [e]; exact Lv.mod_ok n' o_.f1 (by have := HN1.out; omega) (by have := HN8.out; omega)
              go_upto_region 16 with (fail)
              generalize wrap64 ((IntKind.u64.wrap o_.f1).tmod (IntKind.u64.wrap n')) = i' at *
              obtain ⟨ik, rfl⟩ : ∃ ik : Nat, i' = (ik : Int) := ⟨i'.toNat, by omega⟩
              have HIK := Aside0.mk hmo
              have HI8 := Aside0.mk (show ik < 8 by have := HN8.out; omega)
              clear hmo hnz
              cases hrt : rightP o_.f3.f0 o_.f3.f1 with
              | false =>
                go_wp2_with (go_at_call 12; (with_reducible refine (right_calls _ _ _).mono ?_); rintro e w1 ⟨rfl, hb1⟩; have G_n := Aside0.mk (G.out.below hb1); have HS_n := Aside0.mk (HS.out.below hb1); have LA_n := Aside0.mk (LA.out.below hb1); have LO_n := Aside0.mk (LO.out.below hb1); clear G HS LA LO; have G := G_n; have HS := HS_n; have LA := LA_n; have LO := LO_n; clear G_n HS_n LA_n LO_n; clear hb1; (try clear q0 q1 q2 q3 q4 q5); have q0 : w1.cell? ⟨ob, 0, none⟩ = some (.int .i64 o_.f0) := blk_cell LO.out.blk 0; have q1 : w1.cell? ⟨ob, 1, none⟩ = some (.int .i64 o_.f1) := blk_cell LO.out.blk 1; have q2 : w1.cell? ⟨ob, 2, none⟩ = some (.int .i64 o_.f2) := blk_cell LO.out.blk 2; have q3 : w1.cell? ⟨ob, 3, none⟩ = some (.int .i64 o_.f3.f0) := blk_cell LO.out.blk 3; have q4 : w1.cell? ⟨ob, 4, none⟩ = some (.string o_.f3.f1) := blk_cell LO.out.blk 4; have q5 : w1.cell? ⟨ob, 5, none⟩ = some (.slice A5 o_.f4.length c5) := blk_cell LO.out.blk 5)
                go_roundw
                case rel => first | exact ⟨r + 1, T, want, _, _, gs, by rfl, by first | rfl | (rw [hwk]) | go_num, ⟨by have := HLT.out; omega⟩, G, HS, LA, HQ, ⟨by have := HB.out; omega⟩⟩ | exact ⟨_, _, _, _, _, _, _, _, _, _, _, _, _, _, _, _, _, _, _, _, _, _, _, _, _, _, _, _, _, _, _, _, _, _, _, _, _, _, _, _, _, _, _, _, _, _, _, _, _, _, _, _, _, _, _, _, _, _, _, _, _, _, _, _, _, _, _, _, _, _, _, _, _, _, _, _, _, _, _, _, _, _, _, _, _, _, _, _, _, _, _, _, _, _, _, _, _, _, _, _, _, _, _, _, _, _, _, _, _, _, _, _, _, _, _, _, _, _, _, _, _, _, _, _, _, _, _, _, _, _, _, ⟨r + 1, T, want, _, _, gs, rfl, (congrArg (Value.int .i64) hwk), ⟨by have := HLT.out; omega⟩, G, HS, LA, HQ, ⟨by have := HB.out; omega⟩⟩, rfl⟩ | exact ⟨_, _, _, _, _, _, _, _, _, _, _, _, _, _, _, _, _, _, _, _, _, _, _, _, _, _, _, _, _, _, _, _, _, _, _, _, _, _, _, _, _, _, _, _, _, _, _, _, _, _, _, _, _, _, _, _, _, _, _, _, _, _, _, _, _, _, _, _, _, _, _, _, _, _, _, _, _, _, _, _, _, _, _, _, _, _, _, _, _, _, _, _, _, _, _, _, _, _, _, _, _, _, _, _, _, _, _, _, _, _, _, _, _, _, _, _, _, _, _, _, _, _, _, _, _, _, _, _, _, _, _, ⟨r + 1, T, want, _, _, gs, rfl, rfl, ⟨by have := HLT.out; omega⟩, G, HS, LA, HQ, ⟨by have := HB.out; omega⟩⟩, rfl⟩
                case measure => first | (have := HLT.out; (try rw [hwk]); (show l.length - (intOf (.int .i64 ((r + 1 : Nat) : Int))).toNat < l.length - (intOf (.int .i64 (r : Int))).toNat); simp only [intOf]; omega) | (have := HLT.out; simp only [hwk]; (show l.length - (intOf (.int .i64 ((r + 1 : Nat) : Int))).toNat < l.length - (intOf (.int .i64 (r : Int))).toNat); simp only [intOf]; omega)
              | true =>
                have HPK := Aside0.mk (right_packed hrt)
                obtain ⟨wa, wb, hw⟩ : ∃ a b, want (ik : Int) = (a, b) := ⟨_, _, rfl⟩
                have HW := Aside0.mk hw; clear hw
                have h8 := HI8.out
                go_upto_region 17 with (go_at_call 12; (with_reducible refine (right_calls _ _ _).mono ?_); rintro e w1 ⟨rfl, hb1⟩; have G_n := Aside0.mk (G.out.below hb1); have HS_n := Aside0.mk (HS.out.below hb1); have LA_n := Aside0.mk (LA.out.below hb1); have LO_n := Aside0.mk (LO.out.below hb1); clear G HS LA LO; have G := G_n; have HS := HS_n; have LA := LA_n; have LO := LO_n; clear G_n HS_n LA_n LO_n; clear hb1; (try clear q0 q1 q2 q3 q4 q5); have q0 : w1.cell? ⟨ob, 0, none⟩ = some (.int .i64 o_.f0) := blk_cell LO.out.blk 0; have q1 : w1.cell? ⟨ob, 1, none⟩ = some (.int .i64 o_.f1) := blk_cell LO.out.blk 1; have q2 : w1.cell? ⟨ob, 2, none⟩ = some (.int .i64 o_.f2) := blk_cell LO.out.blk 2; have q3 : w1.cell? ⟨ob, 3, none⟩ = some (.int .i64 o_.f3.f0) := blk_cell LO.out.blk 3; have q4 : w1.cell? ⟨ob, 4, none⟩ = some (.string o_.f3.f1) := blk_cell LO.out.blk 4; have q5 : w1.cell? ⟨ob, 5, none⟩ = some (.slice A5 o_.f4.length c5) := blk_cell LO.out.blk 5)
                clear hrt
                have h8i : (ik : Int) < 8 := by omega
                obtain ⟨e0, e1, f0, f1, e2, f2⟩ := pg_cells LA.out HI8.out
                clear f0 f1 e2 f2
                rw [HW.out] at e0 e1
                clear q0 q1 q2 q3 q4 q5
                dsimp only at e0 e1
                go_upto_region 18 with (fail)
                have hf := fr_alloc [] w1 cLO 4 (.cells #[.int .i64 wa, .string wb] 34)
                have G_n := Aside0.mk (G.out.step hf (by decide)); have HS_n := Aside0.mk (HS.out.keep hf (by decide) (by decide)); have LA_n := Aside0.mk (LA.out.keep hf (by decide)); have LO_n := Aside0.mk (LO.out.keep hf (by decide)); clear G HS LA LO; have G := G_n; have HS := HS_n; have LA := LA_n; have LO := LO_n; clear G_n HS_n LA_n LO_n
                have LW := Aside0.mk (loc_alloc w1 cLO 4 #[.int .i64 wa, .string wb] 34)
                clear hf
                generalize Dk.paint cLO w1.heap.size 4 = cLW at *
                generalize w1.alloc (.cells #[.int .i64 wa, .string wb] 34) = W1 at *
                generalize w1.heap.size = bw at *
                clear e0 e1
                have q0 : W1.cell? ⟨ob, 0, none⟩ = some (.int .i64 o_.f0) := blk_cell LO.out.blk 0; have q1 : W1.cell? ⟨ob, 1, none⟩ = some (.int .i64 o_.f1) := blk_cell LO.out.blk 1; have q2 : W1.cell? ⟨ob, 2, none⟩ = some (.int .i64 o_.f2) := blk_cell LO.out.blk 2; have q3 : W1.cell? ⟨ob, 3, none⟩ = some (.int .i64 o_.f3.f0) := blk_cell LO.out.blk 3; have q4 : W1.cell? ⟨ob, 4, none⟩ = some (.string o_.f3.f1) := blk_cell LO.out.blk 4; have q5 : W1.cell? ⟨ob, 5, none⟩ = some (.slice A5 o_.f4.length c5) := blk_cell LO.out.blk 5
                by_cases hk0 : 0 < o_.f0
                · have hk1 : decide (0 < o_.f0) = true := decide_eq_true hk0
                  go_upto_region 39 with (go_at_call 13; (with_reducible refine (write_q HS.out HQ.out (by decide) HN8.out (by have := HTT.out; omega) HIK.out HPK.out).mono ?_); rintro e w1 ⟨rfl, c3, d3, hf, hs, hq, h2⟩; have G_n := Aside0.mk (G.out.step hf (by decide)); have LA_n := Aside0.mk (LA.out.keep hf (by decide)); have LO_n := Aside0.mk (LO.out.keep hf (by decide)); have LW_n := Aside0.mk (LW.out.keep hf (by decide)); clear G LA LO LW; have G := G_n; have LA := LA_n; have LO := LO_n; have LW := LW_n; clear G_n LA_n LO_n LW_n; clear HS HQ; have HS := Aside0.mk hs; have HQ := Aside0.mk hq; clear hs hf hq h2; (try clear q0 q1 q2 q3 q4 q5); have q0 : w1.cell? ⟨ob, 0, none⟩ = some (.int .i64 o_.f0) := blk_cell LO.out.blk 0; have q1 : w1.cell? ⟨ob, 1, none⟩ = some (.int .i64 o_.f1) := blk_cell LO.out.blk 1; have q2 : w1.cell? ⟨ob, 2, none⟩ = some (.int .i64 o_.f2) := blk_cell LO.out.blk 2; have q3 : w1.cell? ⟨ob, 3, none⟩ = some (.int .i64 o_.f3.f0) := blk_cell LO.out.blk 3; have q4 : w1.cell? ⟨ob, 4, none⟩ = some (.string o_.f3.f1) := blk_cell LO.out.blk 4; have q5 : w1.cell? ⟨ob, 5, none⟩ = some (.slice A5 o_.f4.length c5) := blk_cell LO.out.blk 5; obtain ⟨e0, e1, f0, f1, e2, f2⟩ := pg_cells LA.out HI8.out)
                  clear e0 e1 f0 f1 e2 f2 q0 q1 q2 q3 q4 q5
                  have hs := pg_set LA.out HI8.out (o_.f3.f0, o_.f3.f1)
                  dsimp only at hs
                  have G_n := Aside0.mk (G.out.step hs.2 (by decide)); have HS_n := Aside0.mk (HS.out.keep hs.2 (by decide) (by decide)); have LA_n := Aside0.mk hs.1; clear G HS LA LO LW hs; have G := G_n; have HS := HS_n; have LA := LA_n; clear G_n HS_n LA_n
                  generalize (w1.setCell ⟨ba, ik * 2, none⟩ (.int .i64 o_.f3.f0)).setCell ⟨ba, ik * 2 + 1, none⟩ (.string o_.f3.f1) = W2 at *
                  clear hk0 hk1 h8 h8i
                  go_upto_region 40 with (fail)
                  go_loopw [171] (fun v wr => ∃ (k : Nat) (c : Nat → Nat), v = .int .i64 k ∧ Aside0 ((k : Int) ≤ n') ∧ Aside0 (Gr w wr c) ∧ Aside0 (SO wr c gs g 1 n' (T + 1) d3) ∧ Aside0 (Fr.Loc wr c ba 3 (pgC (St.up want ik (o_.f3.f0, o_.f3.f1))) AT)) (fun v _ => n'.toNat - (intOf v).toNat)
                  case atStart => exact ⟨0, _, rfl, ⟨by have := HN8.out; omega⟩, G, HS, LA⟩
                  case round =>
                    clear G HS LA 
                    obtain ⟨k, c, rfl, R2, G, HS, LA⟩ := hrel
                    by_cases hlk : (k : Int) < n'
                    · have hwk2 : wrap64 ((k : Int) + 1) = ((k + 1 : Nat) : Int) := by have := HN8.out; unfold wrap64; omega
                      have HLK := Aside0.mk hlk
                      have HK := Aside0.mk (show 0 ≤ (k : Int) ∧ (k : Int) < n' by omega)
                      have h8 : k < 8 := by have := HN8.out; omega
                      have H8 := Aside0.mk h8
                      obtain ⟨ya, yb, hy⟩ : ∃ a b, (St.up want ik (o_.f3.f0, o_.f3.f1)) (k : Int) = (a, b) := ⟨_, _, rfl⟩
                      have HY := Aside0.mk hy; clear hy
                      have h8i : (k : Int) < 8 := by omega
                      go_upto_region 43 with (go_at_call 17; (with_reducible refine (read_q HS.out HQ.out (by decide) HN8.out HK.out HY.out).mono ?_); rintro e w1 ⟨rfl, hb1⟩; have G_n := Aside0.mk (G.out.below hb1); have HS_n := Aside0.mk (HS.out.below hb1); have LA_n := Aside0.mk (LA.out.below hb1); clear G HS LA; have G := G_n; have HS := HS_n; have LA := LA_n; clear G_n HS_n LA_n; clear hb1)
                      have hf := fr_alloc [] w1 c 4 (.cells #[.int .i64 ya, .string yb] 34)
                      have G_n := Aside0.mk (G.out.step hf (by decide)); have HS_n := Aside0.mk (HS.out.keep hf (by decide) (by decide)); have LA_n := Aside0.mk (LA.out.keep hf (by decide)); clear G HS LA; have G := G_n; have HS := HS_n; have LA := LA_n; clear G_n HS_n LA_n
                      have LX := Aside0.mk (loc_alloc w1 c 4 #[.int .i64 ya, .string yb] 34)
                      clear hf
                      generalize Dk.paint c w1.heap.size 4 = cLX at *
                      generalize w1.alloc (.cells #[.int .i64 ya, .string yb] 34) = W9 at *
                      generalize w1.heap.size = bx at *
                      have G_n := Aside0.mk (G.out.drew); have HS_n := Aside0.mk (HS.out.drew); have LA_n := Aside0.mk (LA.out.drew); have LX_n := Aside0.mk (LX.out.drew); clear G HS LA LX; have G := G_n; have HS := HS_n; have LA := LA_n; have LX := LX_n; clear G_n HS_n LA_n LX_n
                      obtain ⟨e0, e1, f0, f1, e2, f2⟩ := pg_cells LA.out H8.out
                      clear f0 f1 e2 f2
                      rw [HY.out] at e0 e1
                      dsimp only at e0 e1
                      refine start_ (n := 9) (S := fun w' => w'.cell? ⟨bx, 0, none⟩ = some (.int .i64 ya) ∧ w'.cell? ⟨bx, 1, none⟩ = some (.string yb) ∧ w'.cell? ⟨ba, k * 2, none⟩ = some (.int .i64 ya) ∧ w'.cell? ⟨ba, k * 2 + 1, none⟩ = some (.string yb)) (ds := []) #[false, false, false, false, false, false, false, false, false] (by kernel_rfl) rfl rfl ⟨blk_cell LX.out.blk 0, blk_cell LX.out.blk 1, e0, e1⟩ (fun hHeld => ?_)
                      refine rgp 0 180 ?_
                      refine rgp 1 181 ?_
                      refine rgp 2 182 ?_
                      refine rgp 4 184 ?_
                      refine rgp 5 185 ?_
                      refine rgt 3 183 hHeld ?_
                      refine rgt 6 186 hHeld ?_
                      refine rgp 7 187 ?_
                      refine rgp 8 188 ?_
                      refine done_ (by kernel_rfl) ?_
                      clear e0 e1 hHeld
                      go_wp2
                      go_roundw
                      case rel => exact ⟨k + 1, _, by first | rfl | (rw [hwk2]) | go_num, ⟨by have := HLK.out; omega⟩, G, HS, LA⟩
                      case measure =>
                        have := HLK.out
                        (try rw [hwk2])
                        show n'.toNat - (intOf (.int .i64 ((k + 1 : Nat) : Int))).toNat < n'.toNat - (intOf (.int .i64 (k : Int))).toNat
                        simp only [intOf]; omega
                    · skip
                      go_wp2
                      go_roundw
                      case rel => first | exact ⟨r + 1, (T + 1), (St.up want ik (o_.f3.f0, o_.f3.f1)), _, _, gs, by rfl, by first | rfl | (rw [hwk]) | go_num, ⟨by have := HLT.out; omega⟩, G, HS, LA, HQ, ⟨by have := HB.out; omega⟩⟩ | exact ⟨_, _, _, _, _, _, _, _, _, _, _, _, _, _, _, _, _, _, _, _, _, _, _, _, _, _, _, _, _, _, _, _, _, _, _, _, _, _, _, _, _, _, _, _, _, _, _, _, _, _, _, _, _, _, _, _, _, _, _, _, _, _, _, _, _, _, _, _, _, _, _, _, _, _, _, _, _, _, _, _, _, _, _, _, _, _, _, _, _, _, _, _, _, _, _, _, _, _, _, _, _, _, _, _, _, _, _, _, _, _, _, _, _, _, _, _, _, _, _, _, _, _, _, _, _, _, _, _, _, _, _, ⟨r + 1, (T + 1), (St.up want ik (o_.f3.f0, o_.f3.f1)), _, _, gs, rfl, (congrArg (Value.int .i64) hwk), ⟨by have := HLT.out; omega⟩, G, HS, LA, HQ, ⟨by have := HB.out; omega⟩⟩, rfl⟩ | exact ⟨_, _, _, _, _, _, _, _, _, _, _, _, _, _, _, _, _, _, _, _, _, _, _, _, _, _, _, _, _, _, _, _, _, _, _, _, _, _, _, _, _, _, _, _, _, _, _, _, _, _, _, _, _, _, _, _, _, _, _, _, _, _, _, _, _, _, _, _, _, _, _, _, _, _, _, _, _, _, _, _, _, _, _, _, _, _, _, _, _, _, _, _, _, _, _, _, _, _, _, _, _, _, _, _, _, _, _, _, _, _, _, _, _, _, _, _, _, _, _, _, _, _, _, _, _, _, _, _, _, _, _, ⟨r + 1, (T + 1), (St.up want ik (o_.f3.f0, o_.f3.f1)), _, _, gs, rfl, rfl, ⟨by have := HLT.out; omega⟩, G, HS, LA, HQ, ⟨by have := HB.out; omega⟩⟩, rfl⟩
                      case measure => first | (have := HLT.out; (try rw [hwk]); (show l.length - (intOf (.int .i64 ((r + 1 : Nat) : Int))).toNat < l.length - (intOf (.int .i64 (r : Int))).toNat); simp only [intOf]; omega) | (have := HLT.out; simp only [hwk]; (show l.length - (intOf (.int .i64 ((r + 1 : Nat) : Int))).toNat < l.length - (intOf (.int .i64 (r : Int))).toNat); simp only [intOf]; omega)
                · have hk1 : decide (0 < o_.f0) = false := decide_eq_false hk0
                  have HM12 := Aside0.mk (Lv.mod_ok 12 o_.f2 (by decide) (by decide))
                  go_upto_region 23 with (go_at_call 14; (with_reducible refine (arm_so HS.out _).mono ?_); rintro e w1 ⟨rfl, c3, hf, hs⟩; have G_n := Aside0.mk (G.out.step hf (by decide)); have LA_n := Aside0.mk (LA.out.keep hf (by decide)); have LO_n := Aside0.mk (LO.out.keep hf (by decide)); have LW_n := Aside0.mk (LW.out.keep hf (by decide)); clear G LA LO LW; have G := G_n; have LA := LA_n; have LO := LO_n; have LW := LW_n; clear G_n LA_n LO_n LW_n; clear HS; have HS := Aside0.mk hs; clear hs hf; (try clear q0 q1 q2 q3 q4 q5); have q0 : w1.cell? ⟨ob, 0, none⟩ = some (.int .i64 o_.f0) := blk_cell LO.out.blk 0; have q1 : w1.cell? ⟨ob, 1, none⟩ = some (.int .i64 o_.f1) := blk_cell LO.out.blk 1; have q2 : w1.cell? ⟨ob, 2, none⟩ = some (.int .i64 o_.f2) := blk_cell LO.out.blk 2; have q3 : w1.cell? ⟨ob, 3, none⟩ = some (.int .i64 o_.f3.f0) := blk_cell LO.out.blk 3; have q4 : w1.cell? ⟨ob, 4, none⟩ = some (.string o_.f3.f1) := blk_cell LO.out.blk 4; have q5 : w1.cell? ⟨ob, 5, none⟩ = some (.slice A5 o_.f4.length c5) := blk_cell LO.out.blk 5)
                  have HOK := Aside0.mk (ok_arm HQ.out.ok (wrap64 ((IntKind.u64.wrap o_.f2).tmod 12)) (by have := HM12.out; omega))
                  have HAS := Aside0.mk (HQ.out.arm (wrap64 ((IntKind.u64.wrap o_.f2).tmod 12)))
                  generalize ({ d with fuse := max (wrap64 ((IntKind.u64.wrap o_.f2).tmod 12)) (-1) } : DS) = da at *
                  have HOK2 := Aside0.mk (ok_storeW HOK.out (by decide) 1 n' T (ik : Int) o_.f3.f0 o_.f3.f1)
                  go_upto_region 24 with (go_at_call 13; (with_reducible refine (write_o HS.out HOK.out (by decide) ⟨by decide, HN8.out⟩ (by have := HTT.out; omega) _ _ _).mono ?_); rintro e w1 ⟨rfl, c4, hf, hs⟩; have G_n := Aside0.mk (G.out.step hf (by decide)); have LA_n := Aside0.mk (LA.out.keep hf (by decide)); have LO_n := Aside0.mk (LO.out.keep hf (by decide)); have LW_n := Aside0.mk (LW.out.keep hf (by decide)); clear G LA LO LW; have G := G_n; have LA := LA_n; have LO := LO_n; have LW := LW_n; clear G_n LA_n LO_n LW_n; clear HS; have HS := Aside0.mk hs; clear hs hf; (try clear q0 q1 q2 q3 q4 q5); have q0 : w1.cell? ⟨ob, 0, none⟩ = some (.int .i64 o_.f0) := blk_cell LO.out.blk 0; have q1 : w1.cell? ⟨ob, 1, none⟩ = some (.int .i64 o_.f1) := blk_cell LO.out.blk 1; have q2 : w1.cell? ⟨ob, 2, none⟩ = some (.int .i64 o_.f2) := blk_cell LO.out.blk 2; have q3 : w1.cell? ⟨ob, 3, none⟩ = some (.int .i64 o_.f3.f0) := blk_cell LO.out.blk 3; have q4 : w1.cell? ⟨ob, 4, none⟩ = some (.string o_.f3.f1) := blk_cell LO.out.blk 4; have q5 : w1.cell? ⟨ob, 5, none⟩ = some (.slice A5 o_.f4.length c5) := blk_cell LO.out.blk 5)
                  go_upto_region 25 with (go_at_call 15; (with_reducible refine (crash_o HS.out.sk.dk HOK2.out.ok (pk_old G.out HC5.out HPB.out) (Lv.pk_lt HPB.out)).mono ?_); rintro e w1 ⟨rfl, c5_, hf, hs⟩; have G_n := Aside0.mk (G.out.step hf (by decide)); have LA_n := Aside0.mk (LA.out.keep hf (by decide)); have LO_n := Aside0.mk (LO.out.keep hf (by decide)); have LW_n := Aside0.mk (LW.out.keep hf (by decide)); clear G LA LO LW; have G := G_n; have LA := LA_n; have LO := LO_n; have LW := LW_n; clear G_n LA_n LO_n LW_n; clear HS; have HD := Aside0.mk hs; clear hs hf; (try clear q0 q1 q2 q3 q4 q5))
                  obtain ⟨wB, hwB, hcs⟩ := as_crash2 HAS.out (by have := HTT.out; omega) HIK.out HPK.out o_.f4.length (fun j => (o_.f4.getD j 0).toNat)
                  have HWB := Aside0.mk hwB; have HCS := Aside0.mk hcs
                  clear hwB hcs HAS HOK HOK2 HQ
                  generalize crashD o_.f4.length (fun j => (o_.f4.getD j 0).toNat) (storeW 1 n' T (ik : Int) o_.f3.f0 o_.f3.f1 da).2.2 = dc at *
                  go_upto_region 26 with (fail)
                  go_loopw [121] (fun v wr => ∃ (k : Nat) (d : DS) (c : Nat → Nat), v = .int .i64 k ∧ Aside0 (k ≤ l2.length) ∧ Aside0 (Gr w wr c) ∧ Aside0 (DK wr (Col c 1) g d) ∧ Aside0 (Fr.Loc wr c ba 3 (pgC want) AT) ∧ Aside0 (Fr.Loc wr c ob 4 #[.int .i64 o_.f0, .int .i64 o_.f1, .int .i64 o_.f2, .int .i64 o_.f3.f0, .string o_.f3.f1, .slice A5 o_.f4.length c5] 39) ∧ Aside0 (Fr.Loc wr c bw 4 #[.int .i64 wa, .string wb] 34) ∧ Aside0 (CS 1 n' (T + 1) wB d)) (fun v _ => l2.length - (intOf v).toNat)
                  case atStart => exact ⟨0, dc, _, rfl, ⟨by omega⟩, G, HD, LA, LO, LW, HCS⟩
                  case round =>
                    clear G HD LA LO LW HCS
                    obtain ⟨k, dk, c, rfl, R3, G, HD, LA, LO, LW, HCS⟩ := hrel
                    by_cases hlk : k < l2.length
                    · have h2 : (k : Int) < (l2.length : Int) := by omega
                      have hwk2 : wrap64 ((k : Int) + 1) = ((k + 1 : Nat) : Int) := by unfold wrap64; omega
                      have HLK := Aside0.mk hlk
                      obtain ⟨ad2, A6, c6, hA2, q0, q1, q2, q3, q4, q5, hl6, hC6⟩ := at_T39 HR2.out (k : Int) (by omega) h2
                      subst hA2
                      replace q0 := pw_cell_below G.out.bel q0; replace q1 := pw_cell_below G.out.bel q1; replace q2 := pw_cell_below G.out.bel q2; replace q3 := pw_cell_below G.out.bel q3; replace q4 := pw_cell_below G.out.bel q4; replace q5 := pw_cell_below G.out.bel q5
                      rw [Int.toNat_natCast] at q0 q1 q2 q3 q4 q5
                      have HOP2 := Aside0.mk (HOPS2.out _ (rd_mem hlk))
                      have HC6 := Aside0.mk hC6
                      have HPB2 := Aside0.mk (HOPS2.out _ (rd_mem hlk)).2.2.2.2
                      clear hl6 hC6
                      generalize rd_T39 l2 (k : Nat) = p_ at *
                      go_upto_region 28 with (fail)
                      have hf := fr_alloc [] wr c 4 (.cells #[.int .i64 p_.f0, .int .i64 p_.f1, .int .i64 p_.f2, .int .i64 p_.f3.f0, .string p_.f3.f1, .slice A6 p_.f4.length c6] 39)
                      have G_n := Aside0.mk (G.out.step hf (by decide)); have LA_n := Aside0.mk (LA.out.keep hf (by decide)); have LO_n := Aside0.mk (LO.out.keep hf (by decide)); have LW_n := Aside0.mk (LW.out.keep hf (by decide)); have HD_n := Aside0.mk (dk_keep HD.out hf (by decide)); clear G LA LO LW HD; have G := G_n; have LA := LA_n; have LO := LO_n; have LW := LW_n; have HD := HD_n; clear G_n LA_n LO_n LW_n HD_n
                      have LQ := Aside0.mk (loc_alloc wr c 4 #[.int .i64 p_.f0, .int .i64 p_.f1, .int .i64 p_.f2, .int .i64 p_.f3.f0, .string p_.f3.f1, .slice A6 p_.f4.length c6] 39)
                      clear hf
                      generalize Dk.paint c wr.heap.size 4 = cLQ at *
                      generalize wr.alloc (.cells #[.int .i64 p_.f0, .int .i64 p_.f1, .int .i64 p_.f2, .int .i64 p_.f3.f0, .string p_.f3.f1, .slice A6 p_.f4.length c6] 39) = W2 at *
                      generalize wr.heap.size = pb at *
                      clear q0 q1 q2 q3 q4 q5
                      have q0 : W2.cell? ⟨pb, 0, none⟩ = some (.int .i64 p_.f0) := blk_cell LQ.out.blk 0; have q1 : W2.cell? ⟨pb, 1, none⟩ = some (.int .i64 p_.f1) := blk_cell LQ.out.blk 1; have q2 : W2.cell? ⟨pb, 2, none⟩ = some (.int .i64 p_.f2) := blk_cell LQ.out.blk 2; have q3 : W2.cell? ⟨pb, 3, none⟩ = some (.int .i64 p_.f3.f0) := blk_cell LQ.out.blk 3; have q4 : W2.cell? ⟨pb, 4, none⟩ = some (.string p_.f3.f1) := blk_cell LQ.out.blk 4; have q5 : W2.cell? ⟨pb, 5, none⟩ = some (.slice A6 p_.f4.length c6) := blk_cell LQ.out.blk 5
                      have HM4 := Aside0.mk (Lv.mod_ok 4 p_.f2 (by decide) (by decide))
                      go_upto_region 29 with (go_at_call 14; (with_reducible refine (arm_o HD.out _).mono ?_); rintro e w1 ⟨rfl, c3, hf, hs⟩; have G_n := Aside0.mk (G.out.step hf (by decide)); have LA_n := Aside0.mk (LA.out.keep hf (by decide)); have LO_n := Aside0.mk (LO.out.keep hf (by decide)); have LW_n := Aside0.mk (LW.out.keep hf (by decide)); have LQ_n := Aside0.mk (LQ.out.keep hf (by decide)); clear G LA LO LW LQ; have G := G_n; have LA := LA_n; have LO := LO_n; have LW := LW_n; have LQ := LQ_n; clear G_n LA_n LO_n LW_n LQ_n; clear HD; have HD := Aside0.mk hs; clear hs hf)
                      have HOK := Aside0.mk (ok_arm HCS.out.ok (wrap64 ((IntKind.u64.wrap p_.f2).tmod 4)) (by have := HM4.out; omega))
                      have HAC := Aside0.mk (HCS.out.arm (wrap64 ((IntKind.u64.wrap p_.f2).tmod 4)))
                      clear HCS
                      generalize ({ dk with fuse := max (wrap64 ((IntKind.u64.wrap p_.f2).tmod 4)) (-1) } : DS) = da2 at *
                      have HOK2 := Aside0.mk (ok_repair HOK.out (by decide) 1 n')
                      clear q0 q1 q2 q3 q4 q5
                      go_upto_region 30 with (go_at_call 16; (with_reducible refine (open_o HD.out HOK.out (by decide) (by decide) (HAC.out.newOk HN1.out) HAC.out.gone (by have := HAC.out.latest (by have := HTT.out; omega); have := HTT.out; omega)).mono ?_); rintro e w1 ⟨gsx, c4, rfl, hf, hs⟩; have G_n := Aside0.mk (G.out.step hf (by decide)); have LA_n := Aside0.mk (LA.out.keep hf (by decide)); have LO_n := Aside0.mk (LO.out.keep hf (by decide)); have LW_n := Aside0.mk (LW.out.keep hf (by decide)); have LQ_n := Aside0.mk (LQ.out.keep hf (by decide)); clear G LA LO LW LQ; have G := G_n; have LA := LA_n; have LO := LO_n; have LW := LW_n; have LQ := LQ_n; clear G_n LA_n LO_n LW_n LQ_n; clear HD; have HD := Aside0.mk hs.sk.dk; clear hs hf)
                      have q0 : w1.cell? ⟨pb, 0, none⟩ = some (.int .i64 p_.f0) := blk_cell LQ.out.blk 0; have q1 : w1.cell? ⟨pb, 1, none⟩ = some (.int .i64 p_.f1) := blk_cell LQ.out.blk 1; have q2 : w1.cell? ⟨pb, 2, none⟩ = some (.int .i64 p_.f2) := blk_cell LQ.out.blk 2; have q3 : w1.cell? ⟨pb, 3, none⟩ = some (.int .i64 p_.f3.f0) := blk_cell LQ.out.blk 3; have q4 : w1.cell? ⟨pb, 4, none⟩ = some (.string p_.f3.f1) := blk_cell LQ.out.blk 4; have q5 : w1.cell? ⟨pb, 5, none⟩ = some (.slice A6 p_.f4.length c6) := blk_cell LQ.out.blk 5
                      go_wp2_with (go_at_call 15; (with_reducible refine (crash_o HD.out HOK2.out.ok (pk_old G.out HC6.out HPB2.out) (Lv.pk_lt HPB2.out)).mono ?_); rintro e w1 ⟨rfl, c5_, hf, hs⟩; have G_n := Aside0.mk (G.out.step hf (by decide)); have LA_n := Aside0.mk (LA.out.keep hf (by decide)); have LO_n := Aside0.mk (LO.out.keep hf (by decide)); have LW_n := Aside0.mk (LW.out.keep hf (by decide)); clear G LA LO LW; have G := G_n; have LA := LA_n; have LO := LO_n; have LW := LW_n; clear G_n LA_n LO_n LW_n; clear HD; have HD := Aside0.mk hs; clear hs hf; (try clear q0 q1 q2 q3 q4 q5))
                      have HCS := Aside0.mk (ac_crash HAC.out (by have := HTT.out; omega) p_.f4.length (fun j => (p_.f4.getD j 0).toNat))
                      go_roundw
                      case rel => exact ⟨k + 1, _, _, by first | rfl | (rw [hwk2]) | go_num, ⟨by have := HLK.out; omega⟩, G, HD, LA, LO, LW, HCS⟩
                      case measure =>
                        have := HLK.out
                        (try rw [hwk2])
                        show l2.length - (intOf (.int .i64 ((k + 1 : Nat) : Int))).toNat < l2.length - (intOf (.int .i64 (k : Int))).toNat
                        simp only [intOf]; omega
                    · obtain rfl : k = l2.length := by have := R3.out; omega
                      clear hlk R3
                      go_upto_region 33 with (go_at_call 16; (with_reducible refine (open_q HD.out HCS.out (by decide) HN1.out (by have := HTT.out; omega)).mono ?_); rintro e w1 ⟨gs2, c6_, d6, T6, rfl, hf, hs, hq, ht, t1, t2⟩; have G_n := Aside0.mk (G.out.step hf (by decide)); have LA_n := Aside0.mk (LA.out.keep hf (by decide)); have LO_n := Aside0.mk (LO.out.keep hf (by decide)); have LW_n := Aside0.mk (LW.out.keep hf (by decide)); clear G LA LO LW; have G := G_n; have LA := LA_n; have LO := LO_n; have LW := LW_n; clear G_n LA_n LO_n LW_n; clear HD; have HS := Aside0.mk hs; have HQ := Aside0.mk hq; have HT6 := Aside0.mk (And.intro t1 t2); clear hs hf hq ht t1 t2)
                      go_upto_region 35 with (fail)
                      obtain ⟨ga, gb, hg⟩ : ∃ a b, wB (ik : Int) = (a, b) := ⟨_, _, rfl⟩
                      have HG := Aside0.mk hg
                      have HGO : Aside0 ((ga = wa ∧ gb = wb) ∨ (ga = o_.f3.f0 ∧ gb = o_.f3.f1)) := ⟨by
                        rcases HWB.out with e | e
                        · rw [e, HW.out] at hg; injection hg with g1 g2; exact .inl ⟨g1.symm, g2.symm⟩
                        · rw [e, up_at] at hg; injection hg with g1 g2; exact .inr ⟨g1.symm, g2.symm⟩⟩
                      clear hg
                      go_upto_region 36 with (go_at_call 17; (with_reducible refine (read_q HS.out HQ.out (by decide) HN8.out HIK.out HG.out).mono ?_); rintro e w1 ⟨rfl, hb1⟩; have G_n := Aside0.mk (G.out.below hb1); have LA_n := Aside0.mk (LA.out.below hb1); have LO_n := Aside0.mk (LO.out.below hb1); have LW_n := Aside0.mk (LW.out.below hb1); have HS_n := Aside0.mk (HS.out.below hb1); clear G LA LO LW HS; have G := G_n; have LA := LA_n; have LO := LO_n; have LW := LW_n; have HS := HS_n; clear G_n LA_n LO_n LW_n HS_n; clear hb1)
                      have hf := fr_alloc [] w1 c6_ 4 (.cells #[.int .i64 ga, .string gb] 34)
                      have G_n := Aside0.mk (G.out.step hf (by decide)); have LA_n := Aside0.mk (LA.out.keep hf (by decide)); have LO_n := Aside0.mk (LO.out.keep hf (by decide)); have LW_n := Aside0.mk (LW.out.keep hf (by decide)); have HS_n := Aside0.mk (HS.out.keep hf (by decide) (by decide)); clear G LA LO LW HS; have G := G_n; have LA := LA_n; have LO := LO_n; have LW := LW_n; have HS := HS_n; clear G_n LA_n LO_n LW_n HS_n
                      have LG := Aside0.mk (loc_alloc w1 c6_ 4 #[.int .i64 ga, .string gb] 34)
                      clear hf
                      generalize Dk.paint c6_ w1.heap.size 4 = cLG at *
                      generalize w1.alloc (.cells #[.int .i64 ga, .string gb] 34) = W3 at *
                      generalize w1.heap.size = bg at *
                      have x0 : W3.cell? ⟨bg, 0, none⟩ = some (.int .i64 ga) := blk_cell LG.out.blk 0; have x1 : W3.cell? ⟨bg, 1, none⟩ = some (.string gb) := blk_cell LG.out.blk 1
                      have y0 : W3.cell? ⟨bw, 0, none⟩ = some (.int .i64 wa) := blk_cell LW.out.blk 0; have y1 : W3.cell? ⟨bw, 1, none⟩ = some (.string wb) := blk_cell LW.out.blk 1
                      have q0 : W3.cell? ⟨ob, 0, none⟩ = some (.int .i64 o_.f0) := blk_cell LO.out.blk 0; have q1 : W3.cell? ⟨ob, 1, none⟩ = some (.int .i64 o_.f1) := blk_cell LO.out.blk 1; have q2 : W3.cell? ⟨ob, 2, none⟩ = some (.int .i64 o_.f2) := blk_cell LO.out.blk 2; have q3 : W3.cell? ⟨ob, 3, none⟩ = some (.int .i64 o_.f3.f0) := blk_cell LO.out.blk 3; have q4 : W3.cell? ⟨ob, 4, none⟩ = some (.string o_.f3.f1) := blk_cell LO.out.blk 4; have q5 : W3.cell? ⟨ob, 5, none⟩ = some (.slice A5 o_.f4.length c5) := blk_cell LO.out.blk 5
                      have hgo := HGO.out
                      obtain ⟨e0, e1, f0, f1, e2, f2⟩ := pg_cells LA.out HI8.out
                      have HUP := Aside0.mk (show St.up want (ik : Int) (ga, gb) = wB by rw [← HG.out]; exact up_up _ _ _ HWB.out)
                      have HB2 := Aside0.mk (show 1 ≤ T6 ∧ T6 ≤ 1 + (r + 1 : Nat) by have := HT6.out; have := HB.out; omega)
                      by_cases hsame : ga = wa ∧ gb = wb
                      · have t1 : (ga == wa && (gb.toList == wb.toList)) = true := by rw [hsame.1, hsame.2]; simp
                        clear hsame hgo
                        go_upto_region 39 with (fail)
                        clear e0 e1 f0 f1 e2 f2 x0 x1 y0 y1 q0 q1 q2 q3 q4 q5
                        have hs := pg_set LA.out HI8.out (ga, gb)
                        dsimp only at hs
                        rw [HUP.out] at hs
                        have G_n := Aside0.mk (G.out.step hs.2 (by decide)); have HS_n := Aside0.mk (HS.out.keep hs.2 (by decide) (by decide)); have LA_n := Aside0.mk hs.1; clear G HS LA LO LW LG hs; have G := G_n; have HS := HS_n; have LA := LA_n; clear G_n HS_n LA_n
                        generalize (W3.setCell ⟨ba, ik * 2, none⟩ (.int .i64 ga)).setCell ⟨ba, ik * 2 + 1, none⟩ (.string gb) = W4 at *
                        clear hk0 hk1 h8 h8i
                        go_upto_region 40 with (fail)
                        go_loopw [171] (fun v wr => ∃ (k : Nat) (c : Nat → Nat), v = .int .i64 k ∧ Aside0 ((k : Int) ≤ n') ∧ Aside0 (Gr w wr c) ∧ Aside0 (SO wr c gs2 g 1 n' T6 d6) ∧ Aside0 (Fr.Loc wr c ba 3 (pgC wB) AT)) (fun v _ => n'.toNat - (intOf v).toNat)
                        case atStart => exact ⟨0, _, rfl, ⟨by have := HN8.out; omega⟩, G, HS, LA⟩
                        case round =>
                          clear G HS LA 
                          obtain ⟨k, c, rfl, R2, G, HS, LA⟩ := hrel
                          by_cases hlk : (k : Int) < n'
                          · have hwk2 : wrap64 ((k : Int) + 1) = ((k + 1 : Nat) : Int) := by have := HN8.out; unfold wrap64; omega
                            have HLK := Aside0.mk hlk
                            have HK := Aside0.mk (show 0 ≤ (k : Int) ∧ (k : Int) < n' by omega)
                            have h8 : k < 8 := by have := HN8.out; omega
                            have H8 := Aside0.mk h8
                            obtain ⟨ya, yb, hy⟩ : ∃ a b, wB (k : Int) = (a, b) := ⟨_, _, rfl⟩
                            have HY := Aside0.mk hy; clear hy
                            have h8i : (k : Int) < 8 := by omega
                            go_upto_region 43 with (go_at_call 17; (with_reducible refine (read_q HS.out HQ.out (by decide) HN8.out HK.out HY.out).mono ?_); rintro e w1 ⟨rfl, hb1⟩; have G_n := Aside0.mk (G.out.below hb1); have HS_n := Aside0.mk (HS.out.below hb1); have LA_n := Aside0.mk (LA.out.below hb1); clear G HS LA; have G := G_n; have HS := HS_n; have LA := LA_n; clear G_n HS_n LA_n; clear hb1)
                            have hf := fr_alloc [] w1 c 4 (.cells #[.int .i64 ya, .string yb] 34)
                            have G_n := Aside0.mk (G.out.step hf (by decide)); have HS_n := Aside0.mk (HS.out.keep hf (by decide) (by decide)); have LA_n := Aside0.mk (LA.out.keep hf (by decide)); clear G HS LA; have G := G_n; have HS := HS_n; have LA := LA_n; clear G_n HS_n LA_n
                            have LX := Aside0.mk (loc_alloc w1 c 4 #[.int .i64 ya, .string yb] 34)
                            clear hf
                            generalize Dk.paint c w1.heap.size 4 = cLX at *
                            generalize w1.alloc (.cells #[.int .i64 ya, .string yb] 34) = W9 at *
                            generalize w1.heap.size = bx at *
                            have G_n := Aside0.mk (G.out.drew); have HS_n := Aside0.mk (HS.out.drew); have LA_n := Aside0.mk (LA.out.drew); have LX_n := Aside0.mk (LX.out.drew); clear G HS LA LX; have G := G_n; have HS := HS_n; have LA := LA_n; have LX := LX_n; clear G_n HS_n LA_n LX_n
                            obtain ⟨e0, e1, f0, f1, e2, f2⟩ := pg_cells LA.out H8.out
                            clear f0 f1 e2 f2
                            rw [HY.out] at e0 e1
                            dsimp only at e0 e1
                            refine start_ (n := 9) (S := fun w' => w'.cell? ⟨bx, 0, none⟩ = some (.int .i64 ya) ∧ w'.cell? ⟨bx, 1, none⟩ = some (.string yb) ∧ w'.cell? ⟨ba, k * 2, none⟩ = some (.int .i64 ya) ∧ w'.cell? ⟨ba, k * 2 + 1, none⟩ = some (.string yb)) (ds := []) #[false, false, false, false, false, false, false, false, false] (by kernel_rfl) rfl rfl ⟨blk_cell LX.out.blk 0, blk_cell LX.out.blk 1, e0, e1⟩ (fun hHeld => ?_)
                            refine rgp 0 180 ?_
                            refine rgp 1 181 ?_
                            refine rgp 2 182 ?_
                            refine rgp 4 184 ?_
                            refine rgp 5 185 ?_
                            refine rgt 3 183 hHeld ?_
                            refine rgt 6 186 hHeld ?_
                            refine rgp 7 187 ?_
                            refine rgp 8 188 ?_
                            refine done_ (by kernel_rfl) ?_
                            clear e0 e1 hHeld
                            go_wp2
                            go_roundw
                            case rel => exact ⟨k + 1, _, by first | rfl | (rw [hwk2]) | go_num, ⟨by have := HLK.out; omega⟩, G, HS, LA⟩
                            case measure =>
                              have := HLK.out
                              (try rw [hwk2])
                              show n'.toNat - (intOf (.int .i64 ((k + 1 : Nat) : Int))).toNat < n'.toNat - (intOf (.int .i64 (k : Int))).toNat
                              simp only [intOf]; omega
                          · skip
                            go_wp2
                            go_roundw
                            case rel => first | exact ⟨r + 1, T6, wB, _, _, gs2, by rfl, by first | rfl | (rw [hwk]) | go_num, ⟨by have := HLT.out; omega⟩, G, HS, LA, HQ, ⟨HB2.out⟩⟩ | exact ⟨_, _, _, _, _, _, _, _, _, _, _, _, _, _, _, _, _, _, _, _, _, _, _, _, _, _, _, _, _, _, _, _, _, _, _, _, _, _, _, _, _, _, _, _, _, _, _, _, _, _, _, _, _, _, _, _, _, _, _, _, _, _, _, _, _, _, _, _, _, _, _, _, _, _, _, _, _, _, _, _, _, _, _, _, _, _, _, _, _, _, _, _, _, _, _, _, _, _, _, _, _, _, _, _, _, _, _, _, _, _, _, _, _, _, _, _, _, _, _, _, _, _, _, _, _, _, _, _, _, _, _, ⟨r + 1, T6, wB, _, _, gs2, rfl, (congrArg (Value.int .i64) hwk), ⟨by have := HLT.out; omega⟩, G, HS, LA, HQ, ⟨HB2.out⟩⟩, rfl⟩ | exact ⟨_, _, _, _, _, _, _, _, _, _, _, _, _, _, _, _, _, _, _, _, _, _, _, _, _, _, _, _, _, _, _, _, _, _, _, _, _, _, _, _, _, _, _, _, _, _, _, _, _, _, _, _, _, _, _, _, _, _, _, _, _, _, _, _, _, _, _, _, _, _, _, _, _, _, _, _, _, _, _, _, _, _, _, _, _, _, _, _, _, _, _, _, _, _, _, _, _, _, _, _, _, _, _, _, _, _, _, _, _, _, _, _, _, _, _, _, _, _, _, _, _, _, _, _, _, _, _, _, _, _, _, ⟨r + 1, T6, wB, _, _, gs2, rfl, rfl, ⟨by have := HLT.out; omega⟩, G, HS, LA, HQ, ⟨HB2.out⟩⟩, rfl⟩
                            case measure => first | (have := HLT.out; (try rw [hwk]); (show l.length - (intOf (.int .i64 ((r + 1 : Nat) : Int))).toNat < l.length - (intOf (.int .i64 (r : Int))).toNat); simp only [intOf]; omega) | (have := HLT.out; simp only [hwk]; (show l.length - (intOf (.int .i64 ((r + 1 : Nat) : Int))).toNat < l.length - (intOf (.int .i64 (r : Int))).toNat); simp only [intOf]; omega)
                      · have t1 : (ga == wa && (gb.toList == wb.toList)) = false := by
                          cases h : (ga == wa && (gb.toList == wb.toList)) with
                          | false => rfl
                          | true => rw [Bool.and_eq_true, beq_iff_eq, beq_iff_eq, toList_eq] at h; exact absurd h hsame
                        have t2 : (ga == o_.f3.f0 && (gb.toList == o_.f3.f1.toList)) = true := by
                          rcases hgo with e | e
                          · exact absurd e hsame
                          · rw [e.1, e.2]; simp
                        clear hsame hgo
                        go_upto_region 39 with (fail)
                        clear e0 e1 f0 f1 e2 f2 x0 x1 y0 y1 q0 q1 q2 q3 q4 q5
                        have hs := pg_set LA.out HI8.out (ga, gb)
                        dsimp only at hs
                        rw [HUP.out] at hs
                        have G_n := Aside0.mk (G.out.step hs.2 (by decide)); have HS_n := Aside0.mk (HS.out.keep hs.2 (by decide) (by decide)); have LA_n := Aside0.mk hs.1; clear G HS LA LO LW LG hs; have G := G_n; have HS := HS_n; have LA := LA_n; clear G_n HS_n LA_n
                        generalize (W3.setCell ⟨ba, ik * 2, none⟩ (.int .i64 ga)).setCell ⟨ba, ik * 2 + 1, none⟩ (.string gb) = W4 at *
                        clear hk0 hk1 h8 h8i
                        go_upto_region 40 with (fail)
                        go_loopw [171] (fun v wr => ∃ (k : Nat) (c : Nat → Nat), v = .int .i64 k ∧ Aside0 ((k : Int) ≤ n') ∧ Aside0 (Gr w wr c) ∧ Aside0 (SO wr c gs2 g 1 n' T6 d6) ∧ Aside0 (Fr.Loc wr c ba 3 (pgC wB) AT)) (fun v _ => n'.toNat - (intOf v).toNat)
                        case atStart => exact ⟨0, _, rfl, ⟨by have := HN8.out; omega⟩, G, HS, LA⟩
                        case round =>
                          clear G HS LA 
                          obtain ⟨k, c, rfl, R2, G, HS, LA⟩ := hrel
                          by_cases hlk : (k : Int) < n'
                          · have hwk2 : wrap64 ((k : Int) + 1) = ((k + 1 : Nat) : Int) := by have := HN8.out; unfold wrap64; omega
                            have HLK := Aside0.mk hlk
                            have HK := Aside0.mk (show 0 ≤ (k : Int) ∧ (k : Int) < n' by omega)
                            have h8 : k < 8 := by have := HN8.out; omega
                            have H8 := Aside0.mk h8
                            obtain ⟨ya, yb, hy⟩ : ∃ a b, wB (k : Int) = (a, b) := ⟨_, _, rfl⟩
                            have HY := Aside0.mk hy; clear hy
                            have h8i : (k : Int) < 8 := by omega
                            go_upto_region 43 with (go_at_call 17; (with_reducible refine (read_q HS.out HQ.out (by decide) HN8.out HK.out HY.out).mono ?_); rintro e w1 ⟨rfl, hb1⟩; have G_n := Aside0.mk (G.out.below hb1); have HS_n := Aside0.mk (HS.out.below hb1); have LA_n := Aside0.mk (LA.out.below hb1); clear G HS LA; have G := G_n; have HS := HS_n; have LA := LA_n; clear G_n HS_n LA_n; clear hb1)
                            have hf := fr_alloc [] w1 c 4 (.cells #[.int .i64 ya, .string yb] 34)
                            have G_n := Aside0.mk (G.out.step hf (by decide)); have HS_n := Aside0.mk (HS.out.keep hf (by decide) (by decide)); have LA_n := Aside0.mk (LA.out.keep hf (by decide)); clear G HS LA; have G := G_n; have HS := HS_n; have LA := LA_n; clear G_n HS_n LA_n
                            have LX := Aside0.mk (loc_alloc w1 c 4 #[.int .i64 ya, .string yb] 34)
                            clear hf
                            generalize Dk.paint c w1.heap.size 4 = cLX at *
                            generalize w1.alloc (.cells #[.int .i64 ya, .string yb] 34) = W9 at *
                            generalize w1.heap.size = bx at *
                            have G_n := Aside0.mk (G.out.drew); have HS_n := Aside0.mk (HS.out.drew); have LA_n := Aside0.mk (LA.out.drew); have LX_n := Aside0.mk (LX.out.drew); clear G HS LA LX; have G := G_n; have HS := HS_n; have LA := LA_n; have LX := LX_n; clear G_n HS_n LA_n LX_n
                            obtain ⟨e0, e1, f0, f1, e2, f2⟩ := pg_cells LA.out H8.out
                            clear f0 f1 e2 f2
                            rw [HY.out] at e0 e1
                            dsimp only at e0 e1
                            refine start_ (n := 9) (S := fun w' => w'.cell? ⟨bx, 0, none⟩ = some (.int .i64 ya) ∧ w'.cell? ⟨bx, 1, none⟩ = some (.string yb) ∧ w'.cell? ⟨ba, k * 2, none⟩ = some (.int .i64 ya) ∧ w'.cell? ⟨ba, k * 2 + 1, none⟩ = some (.string yb)) (ds := []) #[false, false, false, false, false, false, false, false, false] (by kernel_rfl) rfl rfl ⟨blk_cell LX.out.blk 0, blk_cell LX.out.blk 1, e0, e1⟩ (fun hHeld => ?_)
                            refine rgp 0 180 ?_
                            refine rgp 1 181 ?_
                            refine rgp 2 182 ?_
                            refine rgp 4 184 ?_
                            refine rgp 5 185 ?_
                            refine rgt 3 183 hHeld ?_
                            refine rgt 6 186 hHeld ?_
                            refine rgp 7 187 ?_
                            refine rgp 8 188 ?_
                            refine done_ (by kernel_rfl) ?_
                            clear e0 e1 hHeld
                            go_wp2
                            go_roundw
                            case rel => exact ⟨k + 1, _, by first | rfl | (rw [hwk2]) | go_num, ⟨by have := HLK.out; omega⟩, G, HS, LA⟩
                            case measure =>
                              have := HLK.out
                              (try rw [hwk2])
                              show n'.toNat - (intOf (.int .i64 ((k + 1 : Nat) : Int))).toNat < n'.toNat - (intOf (.int .i64 (k : Int))).toNat
                              simp only [intOf]; omega
                          · skip
                            go_wp2
                            go_roundw
                            case rel => first | exact ⟨r + 1, T6, wB, _, _, gs2, by rfl, by first | rfl | (rw [hwk]) | go_num, ⟨by have := HLT.out; omega⟩, G, HS, LA, HQ, ⟨HB2.out⟩⟩ | exact ⟨_, _, _, _, _, _, _, _, _, _, _, _, _, _, _, _, _, _, _, _, _, _, _, _, _, _, _, _, _, _, _, _, _, _, _, _, _, _, _, _, _, _, _, _, _, _, _, _, _, _, _, _, _, _, _, _, _, _, _, _, _, _, _, _, _, _, _, _, _, _, _, _, _, _, _, _, _, _, _, _, _, _, _, _, _, _, _, _, _, _, _, _, _, _, _, _, _, _, _, _, _, _, _, _, _, _, _, _, _, _, _, _, _, _, _, _, _, _, _, _, _, _, _, _, _, _, _, _, _, _, _, ⟨r + 1, T6, wB, _, _, gs2, rfl, (congrArg (Value.int .i64) hwk), ⟨by have := HLT.out; omega⟩, G, HS, LA, HQ, ⟨HB2.out⟩⟩, rfl⟩ | exact ⟨_, _, _, _, _, _, _, _, _, _, _, _, _, _, _, _, _, _, _, _, _, _, _, _, _, _, _, _, _, _, _, _, _, _, _, _, _, _, _, _, _, _, _, _, _, _, _, _, _, _, _, _, _, _, _, _, _, _, _, _, _, _, _, _, _, _, _, _, _, _, _, _, _, _, _, _, _, _, _, _, _, _, _, _, _, _, _, _, _, _, _, _, _, _, _, _, _, _, _, _, _, _, _, _, _, _, _, _, _, _, _, _, _, _, _, _, _, _, _, _, _, _, _, _, _, _, _, _, _, _, _, ⟨r + 1, T6, wB, _, _, gs2, rfl, rfl, ⟨by have := HLT.out; omega⟩, G, HS, LA, HQ, ⟨HB2.out⟩⟩, rfl⟩
                            case measure => first | (have := HLT.out; (try rw [hwk]); (show l.length - (intOf (.int .i64 ((r + 1 : Nat) : Int))).toNat < l.length - (intOf (.int .i64 (r : Int))).toNat); simp only [intOf]; omega) | (have := HLT.out; simp only [hwk]; (show l.length - (intOf (.int .i64 ((r + 1 : Nat) : Int))).toNat < l.length - (intOf (.int .i64 (r : Int))).toNat); simp only [intOf]; omega)
            · go_wp2
              go_ret
              exact ⟨rfl, G.out.bel⟩
open Classical in
noncomputable def careenlaw07_StoreWhole.f (a0 : Int) (l1 l2 : List S39) : Option Bool := if OkOps l1 ∧ OkOps l2 then some true else none
theorem careenlaw07_StoreWhole.calls (a0 : Int) (A1 : Option Addr) (c1 : Nat) (l1 : List S39) (A2 : Option Addr) (c2 : Nat) (l2 : List S39) (r : Bool) (w : World) (hr1 : Kd.C k39 w A1 l1.length l1) (hc1 : l1.length ≤ c1) (hr2 : Kd.C k39 w A2 l2.length l2) (hc2 : l2.length ≤ c2) (h : careenlaw07_StoreWhole.f a0 l1 l2 = some r) :
    Calls Try.prog 3 #[.int .i64 a0, .slice A1 l1.length c1, .slice A2 l2.length c2] w fun e w' => e = .returned (.bool r) ∧ Below w.heap.size w w' := by
  unfold careenlaw07_StoreWhole.f at h
  by_cases ho : OkOps l1 ∧ OkOps l2
  · rw [if_pos ho] at h
    obtain rfl := Option.some.inj h
    exact whole_walk a0 A1 c1 l1 A2 c2 l2 w hr1 hc1 ho.1 hr2 hc2 ho.2
  · rw [if_neg ho] at h
    cases h
end Go.Proofs.Ytneilimiijcghaa.X12
