import Derived.Test.YtbnglmeljbiglaaQHZ0
import Derived.Test.YtbnglmeljbiglaaQHZ1
import Derived.Test.YtbnglmeljbiglaaQHZ2
import Derived.Test.YtbnglmeljbiglaaQHZ3
import Derived.Test.YtbnglmeljbiglaaQHZ4
import Derived.Test.YtbnglmeljbiglaaQHZ5
import Derived.Test.YtbnglmeljbiglaaQHZ6
import Derived.Test.YtbnglmeljbiglaaQHZ7
import Derived.Test.YtbnglmeljbiglaaQHZ8
import Derived.Test.YtbnglmeljbiglaaQHZ9
import Derived.Test.YtbnglmeljbiglaaQHZ10
set_option maxRecDepth 8192
namespace Go.Proofs.Ytbnglmeljbiglaa.Wr
open Go.Proofs.Ytbnglmeljbiglaa.Rgn
open Go.Proofs.Ytbnglmeljbiglaa.Rp Go.Proofs.Ytbnglmeljbiglaa.X4
open Go Go.RowKit Go.ChangeMaps Go.Proofs.Ytbnglmeljbiglaa.Arr Go.Proofs.Ytbnglmeljbiglaa.Ow Go.Proofs.YtbnglmeljbiglaaW.PrintWords Go.Proofs.YtbnglmeljbiglaaW.PrintLast Go.Proofs.YtbnglmeljbiglaaW.PrintMore
set_option linter.unusedVariables false
set_option linter.unusedSimpArgs false
set_option maxHeartbeats 1000000 in
theorem rrec_early (g : Nat) (s : ByteArray) (p : Nat) (w : World) (h : RD w g s p) (hp : p ≤ s.size) (hs : s.size ≤ 1000000000) (h0 : smallR s p = none) : Calls Try.prog 92 #[.pointer (some ⟨g, 0, none⟩)] w fun x w' => AfterX g w s p x w' := by
  have HS := Aside0.mk (show s.size ≤ 1000000000000 by omega); have HL := Aside0.mk hp
  have HE := Aside0.mk (show recR s p = none by unfold recR; rw [h0]; rfl)
  have HP1 := Aside0.mk h0
  have HR0 := Aside0.mk (h.below ((Below.refl _ _).alloc (Nat.le_refl _) (.cells #[.int .i64 0, .int .i64 0, .int .i64 0, .int .i64 0, .int .i64 0, .int .i64 0, .int .i64 0, .string ⟨#[]⟩, .string ⟨#[]⟩, .slice none 0 0, .slice none 0 0] 37)))
  have F0 := Aside0.mk ((FS.refl (One g) w).alloc (.cells #[.int .i64 0, .int .i64 0, .int .i64 0, .int .i64 0, .int .i64 0, .int .i64 0, .int .i64 0, .string ⟨#[]⟩, .string ⟨#[]⟩, .slice none 0 0, .slice none 0 0] 37))
  clear h hp hs h0
  go_enter Try.func92, Try.ntmps92
  go_upto_region 1 with (fail)
  generalize w.alloc (.cells #[.int .i64 0, .int .i64 0, .int .i64 0, .int .i64 0, .int .i64 0, .int .i64 0, .int .i64 0, .string ⟨#[]⟩, .string ⟨#[]⟩, .slice none 0 0, .slice none 0 0] 37) = W1 at *
  go_wp2_with (go_at_call 95; (with_reducible refine (smallr_calls g s p _ HR0.out HL.out HS.out).mono ?_); rintro e w1 hx; rw [HP1.out] at hx; obtain ⟨rfl, hf_⟩ := hx; have F1 := Aside0.mk (F0.out.trans hf_); clear hf_)
  refine ⟨rfl, ?_⟩
  show AfterX g w s p (gaveUp 3) _
  unfold AfterX
  rw [HE.out]
  exact ⟨rfl, F1.out⟩
theorem below_at {B : Nat} {w w' : World} (h : Below B w w') (j : Nat) (v : Value) : Below B w (w'.setCell ⟨B, j, none⟩ v) := h.setCell (p := ⟨B, j, none⟩) (Nat.le_refl _) v
theorem Kd.R_drew {α : Type} {d : Kd α} {e : Nat} {w : World} {base : Nat} {ok : Nat → Prop} {v : Value} {xs : List α} (h : d.R e w base ok v xs) : d.R e w.drew base ok v xs := Kd.R_below h ((Below.refl _ _).drew)
theorem bp_read {R : Ending → World → Prop} (n : Nat) (hn : n ≠ 4 ∧ n ≠ 5 ∧ n ≠ 6) (v : Value) (c : List PanicEntry) (a : Act) (w : World) (h : bodyPostD Try.prog Try.f88 R (.panic c) (a.put (some n) v) w) : bodyPostD Try.prog Try.f88 R (.panic c) a w := by
  have e : results Try.f88 (a.put (some n) v).tmps = results Try.f88 a.tmps := by
    have e2 := put_get a n 4 v undef hn.1
    have e3 := put_get a n 5 v undef hn.2.1
    have e4 := put_get a n 6 v undef hn.2.2
    unfold results
    rw [Try.results88]
    simp only [Array.mapM_eq_mapM_toList, List.mapM_cons, List.mapM_nil, e2, e3, e4]
  exact leaves_tmps e _ _ _ h
theorem put11 {w : World} {o : Nat} {a0 a1 a2 a3 a4 a5 a6 a7 a8 a9 a10 : Value} {T : TypeId} {fr : Nat × Nat} (h : w.heap[o]? = some (.cells #[a0, a1, a2, a3, a4, a5, a6, a7, a8, a9, a10] T fr)) (b0 b1 b2 b3 b4 b5 b6 b7 b8 b9 b10 : Value) : (((((((((((w.setCell ⟨o, 0, none⟩ b0).setCell ⟨o, 1, none⟩ b1).setCell ⟨o, 2, none⟩ b2).setCell ⟨o, 3, none⟩ b3).setCell ⟨o, 4, none⟩ b4).setCell ⟨o, 5, none⟩ b5).setCell ⟨o, 6, none⟩ b6).setCell ⟨o, 7, none⟩ b7).setCell ⟨o, 8, none⟩ b8).setCell ⟨o, 9, none⟩ b9).setCell ⟨o, 10, none⟩ b10).heap[o]? = some (.cells #[b0, b1, b2, b3, b4, b5, b6, b7, b8, b9, b10] T fr) := by
  have h0 : (w.setCell ⟨o, 0, none⟩ b0).heap[o]? = some (.cells #[b0, a1, a2, a3, a4, a5, a6, a7, a8, a9, a10] T fr) := set_blk h 0 b0
  have h1 : ((w.setCell ⟨o, 0, none⟩ b0).setCell ⟨o, 1, none⟩ b1).heap[o]? = some (.cells #[b0, b1, a2, a3, a4, a5, a6, a7, a8, a9, a10] T fr) := set_blk h0 1 b1
  have h2 : (((w.setCell ⟨o, 0, none⟩ b0).setCell ⟨o, 1, none⟩ b1).setCell ⟨o, 2, none⟩ b2).heap[o]? = some (.cells #[b0, b1, b2, a3, a4, a5, a6, a7, a8, a9, a10] T fr) := set_blk h1 2 b2
  have h3 : ((((w.setCell ⟨o, 0, none⟩ b0).setCell ⟨o, 1, none⟩ b1).setCell ⟨o, 2, none⟩ b2).setCell ⟨o, 3, none⟩ b3).heap[o]? = some (.cells #[b0, b1, b2, b3, a4, a5, a6, a7, a8, a9, a10] T fr) := set_blk h2 3 b3
  have h4 : (((((w.setCell ⟨o, 0, none⟩ b0).setCell ⟨o, 1, none⟩ b1).setCell ⟨o, 2, none⟩ b2).setCell ⟨o, 3, none⟩ b3).setCell ⟨o, 4, none⟩ b4).heap[o]? = some (.cells #[b0, b1, b2, b3, b4, a5, a6, a7, a8, a9, a10] T fr) := set_blk h3 4 b4
  have h5 : ((((((w.setCell ⟨o, 0, none⟩ b0).setCell ⟨o, 1, none⟩ b1).setCell ⟨o, 2, none⟩ b2).setCell ⟨o, 3, none⟩ b3).setCell ⟨o, 4, none⟩ b4).setCell ⟨o, 5, none⟩ b5).heap[o]? = some (.cells #[b0, b1, b2, b3, b4, b5, a6, a7, a8, a9, a10] T fr) := set_blk h4 5 b5
  have h6 : (((((((w.setCell ⟨o, 0, none⟩ b0).setCell ⟨o, 1, none⟩ b1).setCell ⟨o, 2, none⟩ b2).setCell ⟨o, 3, none⟩ b3).setCell ⟨o, 4, none⟩ b4).setCell ⟨o, 5, none⟩ b5).setCell ⟨o, 6, none⟩ b6).heap[o]? = some (.cells #[b0, b1, b2, b3, b4, b5, b6, a7, a8, a9, a10] T fr) := set_blk h5 6 b6
  have h7 : ((((((((w.setCell ⟨o, 0, none⟩ b0).setCell ⟨o, 1, none⟩ b1).setCell ⟨o, 2, none⟩ b2).setCell ⟨o, 3, none⟩ b3).setCell ⟨o, 4, none⟩ b4).setCell ⟨o, 5, none⟩ b5).setCell ⟨o, 6, none⟩ b6).setCell ⟨o, 7, none⟩ b7).heap[o]? = some (.cells #[b0, b1, b2, b3, b4, b5, b6, b7, a8, a9, a10] T fr) := set_blk h6 7 b7
  have h8 : (((((((((w.setCell ⟨o, 0, none⟩ b0).setCell ⟨o, 1, none⟩ b1).setCell ⟨o, 2, none⟩ b2).setCell ⟨o, 3, none⟩ b3).setCell ⟨o, 4, none⟩ b4).setCell ⟨o, 5, none⟩ b5).setCell ⟨o, 6, none⟩ b6).setCell ⟨o, 7, none⟩ b7).setCell ⟨o, 8, none⟩ b8).heap[o]? = some (.cells #[b0, b1, b2, b3, b4, b5, b6, b7, b8, a9, a10] T fr) := set_blk h7 8 b8
  have h9 : ((((((((((w.setCell ⟨o, 0, none⟩ b0).setCell ⟨o, 1, none⟩ b1).setCell ⟨o, 2, none⟩ b2).setCell ⟨o, 3, none⟩ b3).setCell ⟨o, 4, none⟩ b4).setCell ⟨o, 5, none⟩ b5).setCell ⟨o, 6, none⟩ b6).setCell ⟨o, 7, none⟩ b7).setCell ⟨o, 8, none⟩ b8).setCell ⟨o, 9, none⟩ b9).heap[o]? = some (.cells #[b0, b1, b2, b3, b4, b5, b6, b7, b8, b9, a10] T fr) := set_blk h8 9 b9
  have h10 : (((((((((((w.setCell ⟨o, 0, none⟩ b0).setCell ⟨o, 1, none⟩ b1).setCell ⟨o, 2, none⟩ b2).setCell ⟨o, 3, none⟩ b3).setCell ⟨o, 4, none⟩ b4).setCell ⟨o, 5, none⟩ b5).setCell ⟨o, 6, none⟩ b6).setCell ⟨o, 7, none⟩ b7).setCell ⟨o, 8, none⟩ b8).setCell ⟨o, 9, none⟩ b9).setCell ⟨o, 10, none⟩ b10).heap[o]? = some (.cells #[b0, b1, b2, b3, b4, b5, b6, b7, b8, b9, b10] T fr) := set_blk h9 10 b10
  exact h10
theorem keep11 {w : World} {o g : Nat} {x : Obj} (h : w.heap[g]? = some x) (hn : g ≠ o) (b0 b1 b2 b3 b4 b5 b6 b7 b8 b9 b10 : Value) : (((((((((((w.setCell ⟨o, 0, none⟩ b0).setCell ⟨o, 1, none⟩ b1).setCell ⟨o, 2, none⟩ b2).setCell ⟨o, 3, none⟩ b3).setCell ⟨o, 4, none⟩ b4).setCell ⟨o, 5, none⟩ b5).setCell ⟨o, 6, none⟩ b6).setCell ⟨o, 7, none⟩ b7).setCell ⟨o, 8, none⟩ b8).setCell ⟨o, 9, none⟩ b9).setCell ⟨o, 10, none⟩ b10).heap[g]? = some x := keep_set (keep_set (keep_set (keep_set (keep_set (keep_set (keep_set (keep_set (keep_set (keep_set (keep_set h hn 0 b0) hn 1 b1) hn 2 b2) hn 3 b3) hn 4 b4) hn 5 b5) hn 6 b6) hn 7 b7) hn 8 b8) hn 9 b9) hn 10 b10
theorem rd11 {w : World} {o g p : Nat} {s : ByteArray} (h : RD w g s p) (hn : g ≠ o) (b0 b1 b2 b3 b4 b5 b6 b7 b8 b9 b10 : Value) : RD (((((((((((w.setCell ⟨o, 0, none⟩ b0).setCell ⟨o, 1, none⟩ b1).setCell ⟨o, 2, none⟩ b2).setCell ⟨o, 3, none⟩ b3).setCell ⟨o, 4, none⟩ b4).setCell ⟨o, 5, none⟩ b5).setCell ⟨o, 6, none⟩ b6).setCell ⟨o, 7, none⟩ b7).setCell ⟨o, 8, none⟩ b8).setCell ⟨o, 9, none⟩ b9).setCell ⟨o, 10, none⟩ b10) g s p := keep11 h hn b0 b1 b2 b3 b4 b5 b6 b7 b8 b9 b10
theorem below11 {B : Nat} {w' w : World} (h : Below B w' w) (b0 b1 b2 b3 b4 b5 b6 b7 b8 b9 b10 : Value) : Below B w' (((((((((((w.setCell ⟨B, 0, none⟩ b0).setCell ⟨B, 1, none⟩ b1).setCell ⟨B, 2, none⟩ b2).setCell ⟨B, 3, none⟩ b3).setCell ⟨B, 4, none⟩ b4).setCell ⟨B, 5, none⟩ b5).setCell ⟨B, 6, none⟩ b6).setCell ⟨B, 7, none⟩ b7).setCell ⟨B, 8, none⟩ b8).setCell ⟨B, 9, none⟩ b9).setCell ⟨B, 10, none⟩ b10) := below_at (below_at (below_at (below_at (below_at (below_at (below_at (below_at (below_at (below_at (below_at h  0 b0)  1 b1)  2 b2)  3 b3)  4 b4)  5 b5)  6 b6)  7 b7)  8 b8)  9 b9)  10 b10
theorem Kd.R_far1 {α : Type} {d : Kd α} {e : Nat} {w : World} {base : Nat} {ok : Nat → Prop} {v : Value} {xs : List α} {o T : Nat} (h : d.R e w base ok v xs) (hb : ∃ cs, w.heap[o]? = some (.cells cs T (0, 0))) (ht : ∀ q, q ∈ e :: d.E → q ≠ T) (j : Nat) (u : Value) : d.R e (w.setCell ⟨o, j, none⟩ u) base ok v xs := by
  obtain ⟨cs, hb⟩ := hb
  exact Kd.R_set h hb ht j u
theorem R11 {α : Type} {d : Kd α} {e : Nat} {w : World} {base : Nat} {ok : Nat → Prop} {v : Value} {xs : List α} {o T : Nat} (h : d.R e w base ok v xs) (hb : ∃ cs, w.heap[o]? = some (.cells cs T (0, 0))) (ht : ∀ q, q ∈ e :: d.E → q ≠ T) (b0 b1 b2 b3 b4 b5 b6 b7 b8 b9 b10 : Value) : d.R e (((((((((((w.setCell ⟨o, 0, none⟩ b0).setCell ⟨o, 1, none⟩ b1).setCell ⟨o, 2, none⟩ b2).setCell ⟨o, 3, none⟩ b3).setCell ⟨o, 4, none⟩ b4).setCell ⟨o, 5, none⟩ b5).setCell ⟨o, 6, none⟩ b6).setCell ⟨o, 7, none⟩ b7).setCell ⟨o, 8, none⟩ b8).setCell ⟨o, 9, none⟩ b9).setCell ⟨o, 10, none⟩ b10) base ok v xs := Kd.R_far1 (Kd.R_far1 (Kd.R_far1 (Kd.R_far1 (Kd.R_far1 (Kd.R_far1 (Kd.R_far1 (Kd.R_far1 (Kd.R_far1 (Kd.R_far1 (Kd.R_far1 h hb ht 0 b0) (cells_kept hb 0 b0) ht 1 b1) (cells_kept (cells_kept hb 0 b0) 1 b1) ht 2 b2) (cells_kept (cells_kept (cells_kept hb 0 b0) 1 b1) 2 b2) ht 3 b3) (cells_kept (cells_kept (cells_kept (cells_kept hb 0 b0) 1 b1) 2 b2) 3 b3) ht 4 b4) (cells_kept (cells_kept (cells_kept (cells_kept (cells_kept hb 0 b0) 1 b1) 2 b2) 3 b3) 4 b4) ht 5 b5) (cells_kept (cells_kept (cells_kept (cells_kept (cells_kept (cells_kept hb 0 b0) 1 b1) 2 b2) 3 b3) 4 b4) 5 b5) ht 6 b6) (cells_kept (cells_kept (cells_kept (cells_kept (cells_kept (cells_kept (cells_kept hb 0 b0) 1 b1) 2 b2) 3 b3) 4 b4) 5 b5) 6 b6) ht 7 b7) (cells_kept (cells_kept (cells_kept (cells_kept (cells_kept (cells_kept (cells_kept (cells_kept hb 0 b0) 1 b1) 2 b2) 3 b3) 4 b4) 5 b5) 6 b6) 7 b7) ht 8 b8) (cells_kept (cells_kept (cells_kept (cells_kept (cells_kept (cells_kept (cells_kept (cells_kept (cells_kept hb 0 b0) 1 b1) 2 b2) 3 b3) 4 b4) 5 b5) 6 b6) 7 b7) 8 b8) ht 9 b9) (cells_kept (cells_kept (cells_kept (cells_kept (cells_kept (cells_kept (cells_kept (cells_kept (cells_kept (cells_kept hb 0 b0) 1 b1) 2 b2) 3 b3) 4 b4) 5 b5) 6 b6) 7 b7) 8 b8) 9 b9) ht 10 b10
theorem rec_f8 {s : ByteArray} {p q : Nat} {r : S37} (h : recR s p = some (r, q)) : r.f8.size ≤ 255 := by
  unfold recR at h
  obtain ⟨a, ha, h⟩ := Option.bind_eq_some_iff.1 h
  split at h
  · simp only [Option.bind_eq_some_iff] at h
    obtain ⟨t, _, v, _, pg, _, o, _, n, hn, b, _, f, hf, h⟩ := h
    injection h with h
    injection h with h _
    subst h
    have := take_size hf
    have := small_some hn
    simp only
    omega
  · split at h
    · simp only [Option.bind_eq_some_iff] at h
      obtain ⟨t, _, v, _, x, _, pg, _, o, _, n, hn, f, hf, h⟩ := h
      injection h with h
      injection h with h _
      subst h
      have := take_size hf
      have := small_some hn
      simp only
      omega
    · split at h
      · simp only [Option.bind_eq_some_iff] at h
        obtain ⟨t, _, v, _, h⟩ := h
        injection h with h
        injection h with h _
        subst h
        show (0 : Nat) ≤ 255
        omega
      · split at h
        · simp only [Option.bind_eq_some_iff] at h
          obtain ⟨b, _, n, _, x, _, m, _, y, _, h⟩ := h
          injection h with h
          injection h with h _
          subst h
          show (0 : Nat) ≤ 255
          omega
        · injection h with h
          injection h with h _
          subst h
          show (0 : Nat) ≤ 255
          omega
theorem rrec_calls (g : Nat) (s : ByteArray) (p : Nat) (w : World) (h : RD w g s p) (hp : p ≤ s.size) (hs : s.size ≤ 1000000000) : Calls Try.prog 92 #[.pointer (some ⟨g, 0, none⟩)] w fun x w' => AfterX g w s p x w' := by
  cases h0 : smallR s p with
  | none => exact rrec_early g s p w h hp hs h0
  | some q =>
    obtain ⟨v, p1⟩ := q
    by_cases e1 : v = 1
    · subst e1; exact rrec_one g s p p1 w h hp hs h0
    · by_cases e2 : v = 2
      · subst e2; exact rrec_two g s p p1 w h hp hs h0
      · by_cases e3 : v = 3
        · subst e3; exact rrec_three g s p p1 w h hp hs h0
        · by_cases e4 : v = 4
          · subst e4; exact rrec_four g s p p1 w h hp hs h0
          · by_cases e6 : v = 6
            · subst e6; exact rrec_six g s p p1 w h hp hs h0
            · exact rrec_none g s p p1 v ⟨e1, e2, by omega, e6⟩ w h hp hs h0
def zR : S37 := ⟨0, 0, 0, 0, 0, 0, 0, ⟨#[]⟩, ⟨#[]⟩, [], []⟩
/-- What Read says. -/
def readF (s : ByteArray) (p : Int) : S37 × Int × Int :=
  if p < 0 ∨ (s.size : Int) < p then (zR, 0, 2) else match recR s p.toNat with
  | none => (zR, 0, 3)
  | some q => if (printF q.1).2 = 0 then (q.1, (q.2 : Int), 0) else (zR, 0, 3)
def AfterRead (s : ByteArray) (p : Int) (w : World) (x : Ending) (w' : World) : Prop :=
  ∃ v9 v10 : Value, x = .returned (.tuple #[.agg #[.int .i64 (readF s p).1.f0, .int .i64 (readF s p).1.f1, .int .i64 (readF s p).1.f2, .int .i64 (readF s p).1.f3, .int .i64 (readF s p).1.f4, .int .i64 (readF s p).1.f5, .int .i64 (readF s p).1.f6, .string (readF s p).1.f7, .string (readF s p).1.f8, v9, v10], .int .i64 (readF s p).2.1, .int .i64 (readF s p).2.2]) ∧ Kd.R k107 107 w' w.heap.size (fun _ => True) v9 (readF s p).1.f9 ∧ Kd.R k109 109 w' w.heap.size (fun _ => True) v10 (readF s p).1.f10 ∧ Below w.heap.size w w'
set_option maxHeartbeats 4000000 in
theorem read_calls (s : ByteArray) (p : Int) (w : World) (hs : s.size ≤ 1000000) : Calls Try.prog 88 #[.string s, .int .i64 p] w fun x w' => AfterRead s p w x w' := by
  have HS := Aside0.mk hs
  by_cases hp : p < 0 ∨ (s.size : Int) < p
  · have HRF := Aside0.mk (show readF s p = (zR, 0, 2) by unfold readF; rw [if_pos hp])
    have hcase : decide (p < 0) = true ∨ (decide (p < 0) = false ∧ decide ((s.size : Int) < p) = true) := by
      by_cases h0 : p < 0
      · exact .inl (decide_eq_true h0)
      · exact .inr ⟨decide_eq_false h0, decide_eq_true (by omega)⟩
    clear hp hs
    rcases hcase with t1 | ⟨t1, t2⟩
    all_goals
      go_enter_defers Try.func88, Try.ntmps88
      go_wp2
      refine ⟨.tuple #[.agg #[.int .i64 0, .int .i64 0, .int .i64 0, .int .i64 0, .int .i64 0, .int .i64 0, .int .i64 0, .string ⟨#[]⟩, .string ⟨#[]⟩, .slice none 0 0, .slice none 0 0], .int .i64 0, .int .i64 2], ?_, ?_⟩
      · simp [results, Try.results88, go_sem]
      · show AfterRead s p w _ _
        unfold AfterRead
        rw [HRF.out]
        refine ⟨_, _, rfl, Kd.R_nil _ _ _ _ _, Kd.R_nil _ _ _ _ _, ?_⟩
        exact ((Below.refl w.heap.size w).alloc (Nat.le_refl _) (.cells #[.int .i64 0, .int .i64 0, .int .i64 0, .int .i64 0, .int .i64 0, .int .i64 0, .int .i64 0, .string ⟨#[]⟩, .string ⟨#[]⟩, .slice none 0 0, .slice none 0 0] 37)).alloc (by simp) (.cells #[.int .i64 2] TE)
  obtain ⟨n, rfl⟩ : ∃ n : Nat, p = (n : Int) := ⟨p.toNat, by omega⟩
  have HPN := Aside0.mk (show n ≤ s.size by omega)
  have t1 : decide ((n : Int) < 0) = false := decide_eq_false (by omega)
  have t2 : decide ((s.size : Int) < (n : Int)) = false := decide_eq_false (by omega)
  have HRF0 := Aside0.mk (show readF s (n : Int) = (match recR s n with | none => (zR, 0, 3) | some q => if (printF q.1).2 = 0 then (q.1, (q.2 : Int), 0) else (zR, 0, 3)) by unfold readF; rw [if_neg hp, Int.toNat_natCast])
  have t3 : decide (s.size < n) = false := decide_eq_false (by omega)
  clear hp hs
  go_enter_defers Try.func88, Try.ntmps88
  go_upto_region 5 with (fail)
  clear t1 t2 t3
  obtain ⟨W0, hW0, HBZ0, HO0, HE0, HR0⟩ : ∃ W0, W0 = (((w.alloc (.cells #[.int .i64 0, .int .i64 0, .int .i64 0, .int .i64 0, .int .i64 0, .int .i64 0, .int .i64 0, .string ⟨#[]⟩, .string ⟨#[]⟩, .slice none 0 0, .slice none 0 0] 37)).alloc (.cells #[.int .i64 0] TE)).alloc (.cells #[.string s, .int .i64 (n : Int)] 162)) ∧ Below w.heap.size w W0 ∧ W0.heap[w.heap.size]? = some (.cells #[.int .i64 0, .int .i64 0, .int .i64 0, .int .i64 0, .int .i64 0, .int .i64 0, .int .i64 0, .string ⟨#[]⟩, .string ⟨#[]⟩, .slice none 0 0, .slice none 0 0] 37 (0, 0)) ∧ W0.heap[w.heap.size + 1]? = some (.cells #[.int .i64 0] TE (0, 0)) ∧ RD W0 (w.heap.size + 1 + 1) s n := by
    refine ⟨_, rfl, ?_, ?_, ?_, ?_⟩
    · exact (((Below.refl _ _).alloc (Nat.le_refl _) _).alloc (by simp) _).alloc (by simp; omega) _
    · exact blk_below (blk_below (heap_alloc_new w _) ((Below.refl _ _).alloc (Nat.le_refl _) _)) ((Below.refl _ _).alloc (Nat.le_refl _) _)
    · have h := heap_alloc_new (w.alloc (.cells #[.int .i64 0, .int .i64 0, .int .i64 0, .int .i64 0, .int .i64 0, .int .i64 0, .int .i64 0, .string ⟨#[]⟩, .string ⟨#[]⟩, .slice none 0 0, .slice none 0 0] 37)) (.cells #[.int .i64 0] TE)
      rw [show (w.alloc (.cells #[.int .i64 0, .int .i64 0, .int .i64 0, .int .i64 0, .int .i64 0, .int .i64 0, .int .i64 0, .string ⟨#[]⟩, .string ⟨#[]⟩, .slice none 0 0, .slice none 0 0] 37)).heap.size = w.heap.size + 1 by simp] at h
      exact blk_below h ((Below.refl _ _).alloc (Nat.le_refl _) _)
    · have h := heap_alloc_new ((w.alloc (.cells #[.int .i64 0, .int .i64 0, .int .i64 0, .int .i64 0, .int .i64 0, .int .i64 0, .int .i64 0, .string ⟨#[]⟩, .string ⟨#[]⟩, .slice none 0 0, .slice none 0 0] 37)).alloc (.cells #[.int .i64 0] TE)) (.cells #[.string s, .int .i64 (n : Int)] 162)
      rw [show ((w.alloc (.cells #[.int .i64 0, .int .i64 0, .int .i64 0, .int .i64 0, .int .i64 0, .int .i64 0, .int .i64 0, .string ⟨#[]⟩, .string ⟨#[]⟩, .slice none 0 0, .slice none 0 0] 37)).alloc (.cells #[.int .i64 0] TE)).heap.size = w.heap.size + 1 + 1 by simp] at h
      exact h
  rw [← hW0]
  clear hW0
  have HB0 := Aside0.mk HBZ0; have HO := Aside0.mk HO0; have HE := Aside0.mk HE0; have HR := Aside0.mk HR0
  clear HBZ0 HO0 HE0 HR0
  have HG0 := Aside0.mk (show ¬ One (w.heap.size + 1 + 1) w.heap.size from fun e => by have : w.heap.size = w.heap.size + 1 + 1 := e; omega)
  have HG1 := Aside0.mk (show ¬ One (w.heap.size + 1 + 1) (w.heap.size + 1) from fun e => by have : w.heap.size + 1 = w.heap.size + 1 + 1 := e; omega)
  have HGB := Aside0.mk (show ∀ k, One (w.heap.size + 1 + 1) k → w.heap.size ≤ k from fun k e => by have : k = w.heap.size + 1 + 1 := e; omega)
  cases hq : recR s n with
  | none =>
    have HQ := Aside0.mk hq; clear hq
    have HRF := Aside0.mk (show readF s (n : Int) = (zR, 0, 3) by rw [HRF0.out, HQ.out])
    go_wp2_with (go_at_call 92; (with_reducible refine (rrec_calls (w.heap.size + 1 + 1) s n _ HR.out HPN.out (by have := HS.out; omega)).mono ?_); rintro e w1 hx; unfold AfterX at hx; rw [HQ.out] at hx; obtain ⟨rfl, hf_⟩ := hx; have HO1 := Aside0.mk (hf_.old HO.out HG0.out); have HE1 := Aside0.mk (hf_.old HE.out HG1.out); have HB1 := Aside0.mk (hf_.to_below HB0.out HGB.out); clear hf_)
    refine leaves_cons (f := 62) (args := #[.pointer (some ⟨w.heap.size + 1, 0, none⟩)]) (by simp) (by simp [go_sem]) ?_
    refine (caught_up ⟨w.heap.size + 1, 0, none⟩ 0 3 [] _ (blk_cell HE1.out 0) (blk_frozen HE1.out 0)).mono ?_
    rintro e u' w'' ⟨rfl, rfl, rfl⟩
    have hb := HB1.out.setCell (p := ⟨w.heap.size + 1, 0, none⟩) (show w.heap.size ≤ w.heap.size + 1 by omega) (.int .i64 3)
    have hc1 : _ = some (Value.int .i64 3) := blk_cell (set_blk HE1.out 0 (.int .i64 3)) 0
    have ho_ := keep_set HO1.out (show w.heap.size ≠ w.heap.size + 1 by omega) 0 (.int .i64 3)
    have y0 := blk_cell ho_ 0
    have y1 := blk_cell ho_ 1
    have y2 := blk_cell ho_ 2
    have y3 := blk_cell ho_ 3
    have y4 := blk_cell ho_ 4
    have y5 := blk_cell ho_ 5
    have y6 := blk_cell ho_ 6
    have y7 := blk_cell ho_ 7
    have y8 := blk_cell ho_ 8
    have y9 := blk_cell ho_ 9
    have y10 := blk_cell ho_ 10
    refine ⟨.tuple #[.agg #[.int .i64 0, .int .i64 0, .int .i64 0, .int .i64 0, .int .i64 0, .int .i64 0, .int .i64 0, .string ⟨#[]⟩, .string ⟨#[]⟩, .slice none 0 0, .slice none 0 0], .int .i64 0, .int .i64 3], ?_, ?_⟩
    · simp [results, Try.results88, go_sem, hc1, y0, y1, y2, y3, y4, y5, y6, y7, y8, y9, y10]
    · show AfterRead s _ w _ _
      unfold AfterRead
      rw [HRF.out]
      exact ⟨_, _, rfl, Kd.R_nil _ _ _ _ _, Kd.R_nil _ _ _ _ _, hb⟩
  | some q =>
  obtain ⟨r, q⟩ := q
  have HF8 := Aside0.mk (show r.f8.size ≤ 1000000 by have := rec_f8 hq; omega)
  have HQ := Aside0.mk hq; clear hq
  go_upto_region 6 with (go_at_call 92; (with_reducible refine (rrec_calls (w.heap.size + 1 + 1) s n _ HR.out HPN.out (by have := HS.out; omega)).mono ?_); rintro e w1 hx; unfold AfterX at hx; rw [HQ.out] at hx; obtain ⟨v9, v10, rfl, hr9, hr10, hk_, hf_⟩ := hx; have HO1 := Aside0.mk (hf_.old HO.out HG0.out); have HE1 := Aside0.mk (hf_.old HE.out HG1.out); have HB1 := Aside0.mk (hf_.to_below HB0.out HGB.out); have HR1 := Aside0.mk hk_; obtain ⟨A9, c9, e9, l9, g9⟩ := Kd.R_reads hr9; obtain ⟨A10, c10, e10, l10, g10⟩ := Kd.R_reads hr10; subst e9; subst e10; have R9 := Aside0.mk (Kd.R_lower hr9 HB0.out.size); have R10 := Aside0.mk (Kd.R_lower hr10 HB0.out.size); have L9 := Aside0.mk l9; have L10 := Aside0.mk l10; have C9 := Aside0.mk g9; have C10 := Aside0.mk g10; clear hf_ hk_ hr9 hr10 l9 l10 g9 g10)
  have R1 := Aside0.mk (heap_alloc_new w1 (.cells #[.int .i64 r.f0, .int .i64 r.f1, .int .i64 r.f2, .int .i64 r.f3, .int .i64 r.f4, .int .i64 r.f5, .int .i64 r.f6, .string r.f7, .string r.f8, .slice A9 r.f9.length c9, .slice A10 r.f10.length c10] 37))
  have hb_ := (Below.refl w1.heap.size w1).alloc (Nat.le_refl _) (.cells #[.int .i64 r.f0, .int .i64 r.f1, .int .i64 r.f2, .int .i64 r.f3, .int .i64 r.f4, .int .i64 r.f5, .int .i64 r.f6, .string r.f7, .string r.f8, .slice A9 r.f9.length c9, .slice A10 r.f10.length c10] 37)
  have HO1_ := Aside0.mk (blk_below HO1.out hb_); have HE1_ := Aside0.mk (blk_below HE1.out hb_); have HB1_ := Aside0.mk (HB1.out.trans (hb_.mono HB1.out.size)); have HR1_ := Aside0.mk (HR1.out.below hb_); have R9_ := Aside0.mk (Kd.R_below R9.out hb_); have R10_ := Aside0.mk (Kd.R_below R10.out hb_); have C9_ := Aside0.mk (Kd.C_below C9.out hb_); have C10_ := Aside0.mk (Kd.C_below C10.out hb_)
  clear HO1 HE1 HB1 R9 R10 C9 C10
  have HO1 := HO1_; have HE1 := HE1_; have HB1 := HB1_; have R9 := R9_; have R10 := R10_; have C9 := C9_; have C10 := C10_
  clear HO1_ HE1_ HB1_ R9_ R10_ C9_ C10_
  clear hb_
  have HX := Aside0.mk (show w.heap.size + 1 + 1 < w1.heap.size from blk_lt HR1.out)
  generalize w1.alloc (.cells #[.int .i64 r.f0, .int .i64 r.f1, .int .i64 r.f2, .int .i64 r.f3, .int .i64 r.f4, .int .i64 r.f5, .int .i64 r.f6, .string r.f7, .string r.f8, .slice A9 r.f9.length c9, .slice A10 r.f10.length c10] 37) = w2 at *
  have HR2 := Aside0.mk (show RD w2 (w.heap.size + 1 + 1) s q from HR1_.out); clear HR1_ HR1
  generalize w1.heap.size = ob at *
  obtain ⟨z0, z1, z2, z3, z4, z5, z6, z7, z8, z9, z10⟩ := cells11 w2 ob R1.out
  go_upto_region 7 with (go_at_call 46; (with_reducible refine (print_calls r A9 c9 A10 c10 _ C9.out L9.out C10.out L10.out HF8.out).mono ?_); rintro e w3 ⟨rfl, hb3⟩; have HO1_ := Aside0.mk (blk_below HO1.out hb3); have HE1_ := Aside0.mk (blk_below HE1.out hb3); have HB1_ := Aside0.mk (HB1.out.trans (hb3.mono HB1.out.size)); have HR2_ := Aside0.mk (HR2.out.below hb3); have R1_ := Aside0.mk (blk_below R1.out hb3); have R9_ := Aside0.mk (Kd.R_below R9.out hb3); have R10_ := Aside0.mk (Kd.R_below R10.out hb3); have C9_ := Aside0.mk (Kd.C_below C9.out hb3); have C10_ := Aside0.mk (Kd.C_below C10.out hb3); clear HR2 R1 HO1 HE1 HB1 R9 R10 C9 C10; have HR2 := HR2_; have R1 := R1_; have HO1 := HO1_; have HE1 := HE1_; have HB1 := HB1_; have R9 := R9_; have R10 := R10_; have C9 := C9_; have C10 := C10_; clear HR2_ R1_ HO1_ HE1_ HB1_ R9_ R10_ C9_ C10_; clear hb3 z0 z1 z2 z3 z4 z5 z6 z7 z8 z9 z10)
  by_cases hpf : (printF r).2 = 0
  rotate_left
  · have HRF := Aside0.mk (show readF s (n : Int) = (zR, 0, 3) by rw [HRF0.out, HQ.out]; simp only; rw [if_neg hpf])
    have e1 : ((printF r).2 == 0) = false := by rw [beq_eq_false_iff_ne]; exact hpf
    clear hpf
    go_wp2_with (go_at_call 63; (with_reducible refine (must_no 3 _).mono ?_); rintro e w9 ⟨rfl, hw⟩; replace hw := hw.symm; subst hw)
    refine leaves_cons (f := 62) (args := #[.pointer (some ⟨w.heap.size + 1, 0, none⟩)]) (by simp) (by simp [go_sem]) ?_
    refine (caught_up ⟨w.heap.size + 1, 0, none⟩ 0 3 [] _ (blk_cell HE1.out 0) (blk_frozen HE1.out 0)).mono ?_
    rintro e u' w'' ⟨rfl, rfl, rfl⟩
    have hb := HB1.out.setCell (p := ⟨w.heap.size + 1, 0, none⟩) (show w.heap.size ≤ w.heap.size + 1 by omega) (.int .i64 3)
    have hc1 : _ = some (Value.int .i64 3) := blk_cell (set_blk HE1.out 0 (.int .i64 3)) 0
    have ho_ := keep_set HO1.out (show w.heap.size ≠ w.heap.size + 1 by omega) 0 (.int .i64 3)
    have y0 := blk_cell ho_ 0
    have y1 := blk_cell ho_ 1
    have y2 := blk_cell ho_ 2
    have y3 := blk_cell ho_ 3
    have y4 := blk_cell ho_ 4
    have y5 := blk_cell ho_ 5
    have y6 := blk_cell ho_ 6
    have y7 := blk_cell ho_ 7
    have y8 := blk_cell ho_ 8
    have y9 := blk_cell ho_ 9
    have y10 := blk_cell ho_ 10
    refine ⟨.tuple #[.agg #[.int .i64 0, .int .i64 0, .int .i64 0, .int .i64 0, .int .i64 0, .int .i64 0, .int .i64 0, .string ⟨#[]⟩, .string ⟨#[]⟩, .slice none 0 0, .slice none 0 0], .int .i64 0, .int .i64 3], ?_, ?_⟩
    · simp [results, Try.results88, go_sem, hc1, y0, y1, y2, y3, y4, y5, y6, y7, y8, y9, y10]
    · show AfterRead s _ w _ _
      unfold AfterRead
      rw [HRF.out]
      exact ⟨_, _, rfl, Kd.R_nil _ _ _ _ _, Kd.R_nil _ _ _ _ _, hb⟩
  have HRF := Aside0.mk (show readF s (n : Int) = (r, (q : Int), 0) by rw [HRF0.out, HQ.out]; simp only; rw [if_pos hpf])
  have e1 : ((printF r).2 == 0) = true := by rw [beq_iff_eq]; exact hpf
  clear hpf
  go_upto_region 8 with (go_at_call 63; (with_reducible refine (must_yes 3 _).mono ?_); rintro e w9 ⟨rfl, hw⟩; replace hw := hw.symm; subst hw)
  clear e1
  obtain ⟨z0, z1, z2, z3, z4, z5, z6, z7, z8, z9, z10⟩ := cells11 w3.drew ob R1.out
  have zq : w3.drew.cell? ⟨w.heap.size + 1 + 1, 1, none⟩ = some (.int .i64 (q : Int)) := blk_cell (w := w3.drew) HR2.out 1
  refine start_ (n := 8) (S := fun w' => w'.cell? ⟨ob, 0, none⟩ = some (.int .i64 r.f0) ∧ w'.cell? ⟨ob, 1, none⟩ = some (.int .i64 r.f1) ∧ w'.cell? ⟨ob, 2, none⟩ = some (.int .i64 r.f2) ∧ w'.cell? ⟨ob, 3, none⟩ = some (.int .i64 r.f3) ∧ w'.cell? ⟨ob, 4, none⟩ = some (.int .i64 r.f4) ∧ w'.cell? ⟨ob, 5, none⟩ = some (.int .i64 r.f5) ∧ w'.cell? ⟨ob, 6, none⟩ = some (.int .i64 r.f6) ∧ w'.cell? ⟨ob, 7, none⟩ = some (.string r.f7) ∧ w'.cell? ⟨ob, 8, none⟩ = some (.string r.f8) ∧ w'.cell? ⟨ob, 9, none⟩ = some (.slice A9 r.f9.length c9) ∧ w'.cell? ⟨ob, 10, none⟩ = some (.slice A10 r.f10.length c10) ∧ w'.cell? ⟨w.heap.size + 1 + 1, 1, none⟩ = some (.int .i64 (q : Int))) (ds := []) #[false, false, false, false, false, false, false, false] (by kernel_rfl) rfl rfl ⟨z0, z1, z2, z3, z4, z5, z6, z7, z8, z9, z10, zq⟩ (fun hHeld => ?_)
  refine rgp 1 35 ?_ (hi := rfl) (hN := rfl) (hQ := fun _ _ _ h => bp_read _ (by decide) _ _ _ _ h)
  refine rgp 2 36 ?_ (hi := rfl) (hN := rfl) (hQ := fun _ _ _ h => bp_read _ (by decide) _ _ _ _ h)
  refine rgp 3 37 ?_ (hi := rfl) (hN := rfl) (hQ := fun _ _ _ h => bp_read _ (by decide) _ _ _ _ h)
  refine rgt 0 34 hHeld ?_ (hi := rfl) (hN := rfl) (hQ := fun _ _ _ h => bp_read _ (by decide) _ _ _ _ h)
  refine rgt 4 38 hHeld ?_ (hi := rfl) (hN := rfl) (hQ := fun _ _ _ h => bp_read _ (by decide) _ _ _ _ h)
  refine one_ (i := 5) (N := none) #[true, true, true, true, true, true, false, false] rfl rfl (by kernel_rfl) (by decide) (fun K hK => ?_)
  have HO2 := Aside0.mk (show w3.drew.heap[w.heap.size]? = some (.cells #[.int .i64 0, .int .i64 0, .int .i64 0, .int .i64 0, .int .i64 0, .int .i64 0, .int .i64 0, .string ⟨#[]⟩, .string ⟨#[]⟩, .slice none 0 0, .slice none 0 0] 37 (0, 0)) from HO1.out)
  have HE2 := Aside0.mk (show w3.drew.heap[w.heap.size + 1]? = some (.cells #[.int .i64 0] TE (0, 0)) from HE1.out)
  have HB2 := Aside0.mk (HB1.out.trans (((Below.refl w3.heap.size w3).drew).mono HB1.out.size))
  have R2 := Aside0.mk (show w3.drew.heap[ob]? = some (.cells #[.int .i64 r.f0, .int .i64 r.f1, .int .i64 r.f2, .int .i64 r.f3, .int .i64 r.f4, .int .i64 r.f5, .int .i64 r.f6, .string r.f7, .string r.f8, .slice A9 r.f9.length c9, .slice A10 r.f10.length c10] 37 (0, 0)) from R1.out)
  have HR3 := Aside0.mk (show RD w3.drew (w.heap.size + 1 + 1) s q from HR2.out)
  have R9_ := Aside0.mk (Kd.R_drew R9.out)
  have R10_ := Aside0.mk (Kd.R_drew R10.out)
  clear HO1 HE1 HB1 R1 HR2 R9 R10
  generalize w3.drew = X0_ at *
  obtain ⟨c0_, f0_, c1_, f1_, c2_, f2_, c3_, f3_, c4_, f4_, c5_, f5_, c6_, f6_, c7_, f7_, c8_, f8_, c9_, f9_, c10_, f10_⟩ := cellsF11 X0_ (w.heap.size) HO2.out
  refine skip_ (w1 := ?_) (by kernel_rfl) rfl ?_ ?_
  rotate_left
  · go_simp
    rfl
  have HO1 := Aside0.mk (show (((((((((((X0_.setCell ⟨w.heap.size, 0, none⟩ (.int .i64 r.f0)).setCell ⟨w.heap.size, 1, none⟩ (.int .i64 r.f1)).setCell ⟨w.heap.size, 2, none⟩ (.int .i64 r.f2)).setCell ⟨w.heap.size, 3, none⟩ (.int .i64 r.f3)).setCell ⟨w.heap.size, 4, none⟩ (.int .i64 r.f4)).setCell ⟨w.heap.size, 5, none⟩ (.int .i64 r.f5)).setCell ⟨w.heap.size, 6, none⟩ (.int .i64 r.f6)).setCell ⟨w.heap.size, 7, none⟩ (.string r.f7)).setCell ⟨w.heap.size, 8, none⟩ (.string r.f8)).setCell ⟨w.heap.size, 9, none⟩ (.slice A9 r.f9.length c9)).setCell ⟨w.heap.size, 10, none⟩ (.slice A10 r.f10.length c10)).heap[w.heap.size]? = some (.cells #[.int .i64 r.f0, .int .i64 r.f1, .int .i64 r.f2, .int .i64 r.f3, .int .i64 r.f4, .int .i64 r.f5, .int .i64 r.f6, .string r.f7, .string r.f8, .slice A9 r.f9.length c9, .slice A10 r.f10.length c10] 37 (0, 0)) from put11 HO2.out (.int .i64 r.f0) (.int .i64 r.f1) (.int .i64 r.f2) (.int .i64 r.f3) (.int .i64 r.f4) (.int .i64 r.f5) (.int .i64 r.f6) (.string r.f7) (.string r.f8) (.slice A9 r.f9.length c9) (.slice A10 r.f10.length c10))
  have hn1 : w.heap.size + 1 ≠ w.heap.size := by omega
  have hn2 : ob ≠ w.heap.size := by have := HX.out; omega
  have hn3 : w.heap.size + 1 + 1 ≠ w.heap.size := by omega
  have HE1 := Aside0.mk (show (((((((((((X0_.setCell ⟨w.heap.size, 0, none⟩ (.int .i64 r.f0)).setCell ⟨w.heap.size, 1, none⟩ (.int .i64 r.f1)).setCell ⟨w.heap.size, 2, none⟩ (.int .i64 r.f2)).setCell ⟨w.heap.size, 3, none⟩ (.int .i64 r.f3)).setCell ⟨w.heap.size, 4, none⟩ (.int .i64 r.f4)).setCell ⟨w.heap.size, 5, none⟩ (.int .i64 r.f5)).setCell ⟨w.heap.size, 6, none⟩ (.int .i64 r.f6)).setCell ⟨w.heap.size, 7, none⟩ (.string r.f7)).setCell ⟨w.heap.size, 8, none⟩ (.string r.f8)).setCell ⟨w.heap.size, 9, none⟩ (.slice A9 r.f9.length c9)).setCell ⟨w.heap.size, 10, none⟩ (.slice A10 r.f10.length c10)).heap[w.heap.size + 1]? = some (.cells #[.int .i64 0] TE (0, 0)) from keep11 HE2.out hn1 (.int .i64 r.f0) (.int .i64 r.f1) (.int .i64 r.f2) (.int .i64 r.f3) (.int .i64 r.f4) (.int .i64 r.f5) (.int .i64 r.f6) (.string r.f7) (.string r.f8) (.slice A9 r.f9.length c9) (.slice A10 r.f10.length c10))
  have R1 := Aside0.mk (show (((((((((((X0_.setCell ⟨w.heap.size, 0, none⟩ (.int .i64 r.f0)).setCell ⟨w.heap.size, 1, none⟩ (.int .i64 r.f1)).setCell ⟨w.heap.size, 2, none⟩ (.int .i64 r.f2)).setCell ⟨w.heap.size, 3, none⟩ (.int .i64 r.f3)).setCell ⟨w.heap.size, 4, none⟩ (.int .i64 r.f4)).setCell ⟨w.heap.size, 5, none⟩ (.int .i64 r.f5)).setCell ⟨w.heap.size, 6, none⟩ (.int .i64 r.f6)).setCell ⟨w.heap.size, 7, none⟩ (.string r.f7)).setCell ⟨w.heap.size, 8, none⟩ (.string r.f8)).setCell ⟨w.heap.size, 9, none⟩ (.slice A9 r.f9.length c9)).setCell ⟨w.heap.size, 10, none⟩ (.slice A10 r.f10.length c10)).heap[ob]? = some (.cells #[.int .i64 r.f0, .int .i64 r.f1, .int .i64 r.f2, .int .i64 r.f3, .int .i64 r.f4, .int .i64 r.f5, .int .i64 r.f6, .string r.f7, .string r.f8, .slice A9 r.f9.length c9, .slice A10 r.f10.length c10] 37 (0, 0)) from keep11 R2.out hn2 (.int .i64 r.f0) (.int .i64 r.f1) (.int .i64 r.f2) (.int .i64 r.f3) (.int .i64 r.f4) (.int .i64 r.f5) (.int .i64 r.f6) (.string r.f7) (.string r.f8) (.slice A9 r.f9.length c9) (.slice A10 r.f10.length c10))
  have HR2 := Aside0.mk (show RD (((((((((((X0_.setCell ⟨w.heap.size, 0, none⟩ (.int .i64 r.f0)).setCell ⟨w.heap.size, 1, none⟩ (.int .i64 r.f1)).setCell ⟨w.heap.size, 2, none⟩ (.int .i64 r.f2)).setCell ⟨w.heap.size, 3, none⟩ (.int .i64 r.f3)).setCell ⟨w.heap.size, 4, none⟩ (.int .i64 r.f4)).setCell ⟨w.heap.size, 5, none⟩ (.int .i64 r.f5)).setCell ⟨w.heap.size, 6, none⟩ (.int .i64 r.f6)).setCell ⟨w.heap.size, 7, none⟩ (.string r.f7)).setCell ⟨w.heap.size, 8, none⟩ (.string r.f8)).setCell ⟨w.heap.size, 9, none⟩ (.slice A9 r.f9.length c9)).setCell ⟨w.heap.size, 10, none⟩ (.slice A10 r.f10.length c10)) (w.heap.size + 1 + 1) s q from rd11 HR3.out hn3 (.int .i64 r.f0) (.int .i64 r.f1) (.int .i64 r.f2) (.int .i64 r.f3) (.int .i64 r.f4) (.int .i64 r.f5) (.int .i64 r.f6) (.string r.f7) (.string r.f8) (.slice A9 r.f9.length c9) (.slice A10 r.f10.length c10))
  have HB1 := Aside0.mk (show Below w.heap.size w (((((((((((X0_.setCell ⟨w.heap.size, 0, none⟩ (.int .i64 r.f0)).setCell ⟨w.heap.size, 1, none⟩ (.int .i64 r.f1)).setCell ⟨w.heap.size, 2, none⟩ (.int .i64 r.f2)).setCell ⟨w.heap.size, 3, none⟩ (.int .i64 r.f3)).setCell ⟨w.heap.size, 4, none⟩ (.int .i64 r.f4)).setCell ⟨w.heap.size, 5, none⟩ (.int .i64 r.f5)).setCell ⟨w.heap.size, 6, none⟩ (.int .i64 r.f6)).setCell ⟨w.heap.size, 7, none⟩ (.string r.f7)).setCell ⟨w.heap.size, 8, none⟩ (.string r.f8)).setCell ⟨w.heap.size, 9, none⟩ (.slice A9 r.f9.length c9)).setCell ⟨w.heap.size, 10, none⟩ (.slice A10 r.f10.length c10)) from below11 HB2.out (.int .i64 r.f0) (.int .i64 r.f1) (.int .i64 r.f2) (.int .i64 r.f3) (.int .i64 r.f4) (.int .i64 r.f5) (.int .i64 r.f6) (.string r.f7) (.string r.f8) (.slice A9 r.f9.length c9) (.slice A10 r.f10.length c10))
  have R9 := Aside0.mk (show Kd.R k107 107 (((((((((((X0_.setCell ⟨w.heap.size, 0, none⟩ (.int .i64 r.f0)).setCell ⟨w.heap.size, 1, none⟩ (.int .i64 r.f1)).setCell ⟨w.heap.size, 2, none⟩ (.int .i64 r.f2)).setCell ⟨w.heap.size, 3, none⟩ (.int .i64 r.f3)).setCell ⟨w.heap.size, 4, none⟩ (.int .i64 r.f4)).setCell ⟨w.heap.size, 5, none⟩ (.int .i64 r.f5)).setCell ⟨w.heap.size, 6, none⟩ (.int .i64 r.f6)).setCell ⟨w.heap.size, 7, none⟩ (.string r.f7)).setCell ⟨w.heap.size, 8, none⟩ (.string r.f8)).setCell ⟨w.heap.size, 9, none⟩ (.slice A9 r.f9.length c9)).setCell ⟨w.heap.size, 10, none⟩ (.slice A10 r.f10.length c10)) w.heap.size (fun _ => True) (.slice A9 r.f9.length c9) r.f9 from R11 R9_.out ⟨_, HO2.out⟩ (by decide) (.int .i64 r.f0) (.int .i64 r.f1) (.int .i64 r.f2) (.int .i64 r.f3) (.int .i64 r.f4) (.int .i64 r.f5) (.int .i64 r.f6) (.string r.f7) (.string r.f8) (.slice A9 r.f9.length c9) (.slice A10 r.f10.length c10))
  have R10 := Aside0.mk (show Kd.R k109 109 (((((((((((X0_.setCell ⟨w.heap.size, 0, none⟩ (.int .i64 r.f0)).setCell ⟨w.heap.size, 1, none⟩ (.int .i64 r.f1)).setCell ⟨w.heap.size, 2, none⟩ (.int .i64 r.f2)).setCell ⟨w.heap.size, 3, none⟩ (.int .i64 r.f3)).setCell ⟨w.heap.size, 4, none⟩ (.int .i64 r.f4)).setCell ⟨w.heap.size, 5, none⟩ (.int .i64 r.f5)).setCell ⟨w.heap.size, 6, none⟩ (.int .i64 r.f6)).setCell ⟨w.heap.size, 7, none⟩ (.string r.f7)).setCell ⟨w.heap.size, 8, none⟩ (.string r.f8)).setCell ⟨w.heap.size, 9, none⟩ (.slice A9 r.f9.length c9)).setCell ⟨w.heap.size, 10, none⟩ (.slice A10 r.f10.length c10)) w.heap.size (fun _ => True) (.slice A10 r.f10.length c10) r.f10 from R11 R10_.out ⟨_, HO2.out⟩ (by decide) (.int .i64 r.f0) (.int .i64 r.f1) (.int .i64 r.f2) (.int .i64 r.f3) (.int .i64 r.f4) (.int .i64 r.f5) (.int .i64 r.f6) (.string r.f7) (.string r.f8) (.slice A9 r.f9.length c9) (.slice A10 r.f10.length c10))
  clear c0_ f0_ c1_ f1_ c2_ f2_ c3_ f3_ c4_ f4_ c5_ f5_ c6_ f6_ c7_ f7_ c8_ f8_ c9_ f9_ c10_ f10_ HO2 HE2 HB2 R2 HR3 R9_ R10_ hn1 hn2 hn3
  generalize ((((((((((X0_.setCell ⟨w.heap.size, 0, none⟩ (.int .i64 r.f0)).setCell ⟨w.heap.size, 1, none⟩ (.int .i64 r.f1)).setCell ⟨w.heap.size, 2, none⟩ (.int .i64 r.f2)).setCell ⟨w.heap.size, 3, none⟩ (.int .i64 r.f3)).setCell ⟨w.heap.size, 4, none⟩ (.int .i64 r.f4)).setCell ⟨w.heap.size, 5, none⟩ (.int .i64 r.f5)).setCell ⟨w.heap.size, 6, none⟩ (.int .i64 r.f6)).setCell ⟨w.heap.size, 7, none⟩ (.string r.f7)).setCell ⟨w.heap.size, 8, none⟩ (.string r.f8)).setCell ⟨w.heap.size, 9, none⟩ (.slice A9 r.f9.length c9)).setCell ⟨w.heap.size, 10, none⟩ (.slice A10 r.f10.length c10) = X1_ at *
  refine hK _ _ ⟨blk_cell R1.out 0, blk_cell R1.out 1, blk_cell R1.out 2, blk_cell R1.out 3, blk_cell R1.out 4, blk_cell R1.out 5, blk_cell R1.out 6, blk_cell R1.out 7, blk_cell R1.out 8, blk_cell R1.out 9, blk_cell R1.out 10, blk_cell HR2.out 1⟩ (fun hHeld => ?_)
  clear hK K
  refine one_ (i := 6) (N := some 5) #[true, true, true, true, true, true, true, false] rfl rfl (by kernel_rfl) (by decide) (fun K hK => ?_)
  refine value_ (w1 := ?_) (v := ?_) (by kernel_rfl) rfl ?_ ?_
  rotate_left 2
  · go_simp
    constructor
    · rfl
    · rfl
  refine hK _ _ hHeld (fun hHeld => ?_)
  clear hK K
  refine norm_ (a' := ?_) ?_ ?_
  rotate_left
  · show Act.put _ (some 5) _ = _
    simp only [Act.put, List.setIfInBounds_toArray, List.set_cons_zero, List.set_cons_succ, i64_w, i32_w]
    rfl
  refine one_ (i := 7) (N := none) #[true, true, true, true, true, true, true, true] rfl rfl (by kernel_rfl) (by decide) (fun K hK => ?_)
  have cz := blk_cell HE1.out 0; have fz := blk_frozen HE1.out 0
  refine skip_ (w1 := ?_) (by kernel_rfl) rfl ?_ ?_
  rotate_left
  · go_simp
    rfl
  clear cz fz
  have HO3 := Aside0.mk (keep_set HO1.out (show w.heap.size ≠ w.heap.size + 1 by omega) 0 (.int .i64 0)); have HE3 := Aside0.mk (set_blk HE1.out 0 (.int .i64 0)); have HB3 := Aside0.mk (HB1.out.setCell (p := ⟨w.heap.size + 1, 0, none⟩) (show w.heap.size ≤ w.heap.size + 1 by omega) (.int .i64 0))
  have R3 := keep_set R1.out (show ob ≠ w.heap.size + 1 by have := HX.out; omega) 0 (.int .i64 0); have HR4 := RD.keep HR2.out (show w.heap.size + 1 + 1 ≠ w.heap.size + 1 by omega) 0 (.int .i64 0)
  have R9_ := Aside0.mk (Kd.R_set R9.out HE1.out (by decide) 0 (.int .i64 0)); have R10_ := Aside0.mk (Kd.R_set R10.out HE1.out (by decide) 0 (.int .i64 0))
  clear HO1 HE1 HB1 R9 R10
  generalize X1_.setCell ⟨w.heap.size + 1, 0, none⟩ (.int .i64 0) = X2_ at *
  refine hK _ _ ⟨blk_cell R3 0, blk_cell R3 1, blk_cell R3 2, blk_cell R3 3, blk_cell R3 4, blk_cell R3 5, blk_cell R3 6, blk_cell R3 7, blk_cell R3 8, blk_cell R3 9, blk_cell R3 10, blk_cell HR4 1⟩ (fun hHeld => ?_)
  clear hK K R3 HR4
  refine done_ (by kernel_rfl) ?_
  simp only [Exit.then]
  go_wp2
  refine leaves_cons (f := 62) (args := #[.pointer (some ⟨w.heap.size + 1, 0, none⟩)]) (by simp) (by simp [go_sem]) ?_
  refine (caught_idle ⟨w.heap.size + 1, 0, none⟩ _).mono ?_
  rintro e u' w'' ⟨rfl, rfl, rfl⟩
  have hc1 : _ = some (Value.int .i64 0) := blk_cell HE3.out 0
  have y0 := blk_cell HO3.out 0
  have y1 := blk_cell HO3.out 1
  have y2 := blk_cell HO3.out 2
  have y3 := blk_cell HO3.out 3
  have y4 := blk_cell HO3.out 4
  have y5 := blk_cell HO3.out 5
  have y6 := blk_cell HO3.out 6
  have y7 := blk_cell HO3.out 7
  have y8 := blk_cell HO3.out 8
  have y9 := blk_cell HO3.out 9
  have y10 := blk_cell HO3.out 10
  refine ⟨.tuple #[.agg #[.int .i64 r.f0, .int .i64 r.f1, .int .i64 r.f2, .int .i64 r.f3, .int .i64 r.f4, .int .i64 r.f5, .int .i64 r.f6, .string r.f7, .string r.f8, .slice A9 r.f9.length c9, .slice A10 r.f10.length c10], .int .i64 (q : Int), .int .i64 0], ?_, ?_⟩
  · simp [results, Try.results88, go_sem, hc1, y0, y1, y2, y3, y4, y5, y6, y7, y8, y9, y10]
  · show AfterRead s _ w _ _
    unfold AfterRead
    rw [HRF.out]
    exact ⟨_, _, rfl, R9_.out, R10_.out, HB3.out⟩
end Go.Proofs.Ytbnglmeljbiglaa.Wr
