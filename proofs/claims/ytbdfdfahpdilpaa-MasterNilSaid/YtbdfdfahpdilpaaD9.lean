import Derived.Test.YtbdfdfahpdilpaaD2
import Derived.Test.YtbdfdfahpdilpaaD3
import Derived.Test.YtbdfdfahpdilpaaD4
import Derived.Test.YtbdfdfahpdilpaaD5
import Derived.Test.YtbdfdfahpdilpaaD6
import Derived.Laws.Externs
import Derived.Laws.Cover3
/-! Layer 3: copies. -/
namespace Go.Proofs.Ytbdfdfahpdilpaa.Dk
open Go Go.RowKit Go.ChangeMaps Go.Proofs.Ytbdfdfahpdilpaa.Arr Go.Proofs.Ytbdfdfahpdilpaa.Mp Go.Proofs.Ytbdfdfahpdilpaa.Ow Go.Proofs.YtbdfdfahpdilpaaW.PrintWords Go.Proofs.YtbdfdfahpdilpaaW.PrintLast Go.Proofs.YtbdfdfahpdilpaaW.PrintMore
set_option linter.unusedVariables false
set_option linter.unusedSimpArgs false
theorem eqs_nil (a : Option Addr) (l c : Nat) (w : World) : (binOp .eql 37 (.slice a l c) (.slice none 0 0)).run Try.prog w = .ok (.bool (a.isNone)) w := by
  simp only [binOp]
  simp [run_equal_slice_nil (P := Try.prog) w 37 TS a l c (by kernel_rfl)]
theorem eqw_nil (a : Option Addr) (l c : Nat) (w : World) : (binOp .eql 79 (.slice a l c) (.slice none 0 0)).run Try.prog w = .ok (.bool (a.isNone)) w := by
  simp only [binOp]
  simp [run_equal_slice_nil (P := Try.prog) w 79 TW a l c (by kernel_rfl)]
theorem eqm_nil (m : Option Nat) (w : World) : (binOp .eql 78 (.map m) (.map none)).run Try.prog w = .ok (.bool m.isNone) w := by
  simp only [binOp]
  simp [run_equal_map_nil (P := Try.prog) w 78 3 9 m (by kernel_rfl)]
attribute [local go_sem] eqs_nil eqw_nil eqm_nil
set_option maxHeartbeats 1000000 in
set_option maxRecDepth 20000 in
theorem cloneS_calls (v : Value) (n : Nat) (xs : List Value) (S : Nat → Prop) (w : World) (h : Ow w S TS 1 v n xs) (hn : n ≤ 1000000) (h1 : ∀ u ∈ xs, u.oneCell' = true) : Calls Try.prog 43 #[v] w fun e w' => ∃ v', e = .returned v' ∧ Ow w' (fun k => w.heap.size ≤ k) TS 1 v' n xs ∧ Below w.heap.size w w' := by
  obtain ⟨i0, hi, h2⟩ := Option.map_eq_some_iff.1 infoS
  have hz : i0.zero = some (.string ⟨#[]⟩) := congrArg Prod.fst h2
  have hs : i0.size = 1 := congrArg (fun p => p.2.1) h2
  have hb : i0.bytes = 16 := congrArg (fun p => p.2.2) h2
  have HX := Aside0.mk h
  obtain ⟨hl, ho⟩ := h.own
  rcases ho with ⟨rfl, rfl⟩ | ⟨g, cap, cur, hv, _, hg, h3, h4, h5, h6⟩
  · clear hi hz hs hb h2 i0
    go_enter Try.func43, Try.ntmps43
    go_wp2
    go_ret
    exact ⟨_, rfl, by
      have hx : xs = [] := by
        apply List.eq_nil_of_length_eq_zero
        omega
      subst hx
      exact Ow.nil _ _ _ _, Below.refl _ _⟩
  · subst hv
    have hw1 : ((w.alloc (.cells #[] TS)).ownsRow w.heap.size TS 1 (.slice (some ⟨w.heap.size, 0, none⟩) 0 0) 0 []) := ⟨rfl, .inr ⟨w.heap.size, 0, #[], rfl, Nat.le_refl _, heap_alloc_new w _, by omega, by decide, by simp, rfl⟩⟩
    have hnews : ∀ j u, xs[j]? = some u → (w.alloc (.cells #[] TS)).cell? ((⟨g, 0, none⟩ : Addr).add j) = some u := by
      intro j u hj
      have hlt : g < w.heap.size := by
        rcases Nat.lt_or_ge g w.heap.size with hh | hh
        · exact hh
        · simp [Array.getElem?_eq_none hh] at hg
      have := cell_of hg h6 hj
      have e : (⟨g, 0, none⟩ : Addr).add j = ⟨g, j, none⟩ := by simp [Addr.add]; omega
      rw [e]
      exact (((Below.refl w.heap.size w).alloc (Nat.le_refl _) _).cell (p := ⟨g, j, none⟩) hlt).trans this
    obtain ⟨v', w', hr, ho, hgr, _⟩ := run_append_own (P := Try.prog) (w := w.alloc (.cells #[] TS)) w.heap.size 37 37 TS i0 _ 1 16 (by kernel_rfl) hi hz hs hb rfl (by decide) _ 0 [] hw1 ⟨g, 0, none⟩ n cap xs hl hnews h1 (by simp only [maxLen] at *; omega) (by omega) (by simp)
    have hbe := ((Below.refl w.heap.size w).alloc (Nat.le_refl _) (.cells #[] TS)).grown hgr (by simp) (fun b hb => by simp [Value.ownBlock] at hb; omega)
    rw [Nat.zero_add, List.nil_append] at ho
    have HR := Aside0.mk hr; have HO := Aside0.mk ho; have HB := Aside0.mk hbe
    clear hi hz hs hb h2 i0 hl hg h3 h4 h5 h6 hw1 hr ho hgr hbe h1 h hn hnews
    go_enter Try.func43, Try.ntmps43
    go_wp2_with ((with_reducible refine gate_builtin (b := .append) (xs := #[.tmp 5, .tmp 6]) rfl ?_); at_builtin; refine ev_append (.tmp 5) (.tmp 6) 37 rfl rfl _ _ rfl rfl HR.out ?_)
    go_ret
    refine ⟨_, rfl, ⟨?_, fun k hk => ?_⟩, HB.out⟩
    · obtain ⟨a, b⟩ := HO.out
      refine ⟨a, ?_⟩
      rcases b with b | ⟨g', c', u', e1, _, e2⟩
      · exact .inl b
      · exact .inr ⟨g', c', u', e1, Nat.zero_le _, e2⟩
    · exact (HO.out.lt k hk).1
set_option maxHeartbeats 1000000 in
set_option maxRecDepth 20000 in
theorem cloneW_calls (v : Value) (n : Nat) (xs : List Value) (S : Nat → Prop) (w : World) (h : Ow w S TW 2 v n xs) (hn : n ≤ 1000000) (h1 : ∀ u ∈ xs, u.oneCell' = true) : Calls Try.prog 44 #[v] w fun e w' => ∃ v', e = .returned v' ∧ Ow w' (fun k => w.heap.size ≤ k) TW 2 v' n xs ∧ Below w.heap.size w w' := by
  obtain ⟨i0, hi, h2⟩ := Option.map_eq_some_iff.1 infoW
  have hz : i0.zero = some (.agg #[.int .i64 0, .string ⟨#[]⟩]) := congrArg Prod.fst h2
  have hs : i0.size = 2 := congrArg (fun p => p.2.1) h2
  have hb : i0.bytes = 24 := congrArg (fun p => p.2.2) h2
  have HX := Aside0.mk h
  obtain ⟨hl, ho⟩ := h.own
  rcases ho with ⟨rfl, rfl⟩ | ⟨g, cap, cur, hv, _, hg, h3, h4, h5, h6⟩
  · clear hi hz hs hb h2 i0
    go_enter Try.func44, Try.ntmps44
    go_wp2
    go_ret
    exact ⟨_, rfl, by
      have hx : xs = [] := by
        apply List.eq_nil_of_length_eq_zero
        omega
      subst hx
      exact Ow.nil _ _ _ _, Below.refl _ _⟩
  · subst hv
    have hw1 : ((w.alloc (.cells #[] TW)).ownsRow w.heap.size TW 2 (.slice (some ⟨w.heap.size, 0, none⟩) 0 0) 0 []) := ⟨rfl, .inr ⟨w.heap.size, 0, #[], rfl, Nat.le_refl _, heap_alloc_new w _, by omega, by decide, by simp, rfl⟩⟩
    have hnews : ∀ j u, xs[j]? = some u → (w.alloc (.cells #[] TW)).cell? ((⟨g, 0, none⟩ : Addr).add j) = some u := by
      intro j u hj
      have hlt : g < w.heap.size := by
        rcases Nat.lt_or_ge g w.heap.size with hh | hh
        · exact hh
        · simp [Array.getElem?_eq_none hh] at hg
      have := cell_of hg h6 hj
      have e : (⟨g, 0, none⟩ : Addr).add j = ⟨g, j, none⟩ := by simp [Addr.add]; omega
      rw [e]
      exact (((Below.refl w.heap.size w).alloc (Nat.le_refl _) _).cell (p := ⟨g, j, none⟩) hlt).trans this
    obtain ⟨v', w', hr, ho, hgr, _⟩ := run_append_own (P := Try.prog) (w := w.alloc (.cells #[] TW)) w.heap.size 79 79 TW i0 _ 2 24 (by kernel_rfl) hi hz hs hb rfl (by decide) _ 0 [] hw1 ⟨g, 0, none⟩ n cap xs hl hnews h1 (by simp only [maxLen] at *; omega) (by omega) (by simp)
    have hbe := ((Below.refl w.heap.size w).alloc (Nat.le_refl _) (.cells #[] TW)).grown hgr (by simp) (fun b hb => by simp [Value.ownBlock] at hb; omega)
    rw [Nat.zero_add, List.nil_append] at ho
    have HR := Aside0.mk hr; have HO := Aside0.mk ho; have HB := Aside0.mk hbe
    clear hi hz hs hb h2 i0 hl hg h3 h4 h5 h6 hw1 hr ho hgr hbe h1 h hn hnews
    go_enter Try.func44, Try.ntmps44
    go_wp2_with ((with_reducible refine gate_builtin (b := .append) (xs := #[.tmp 5, .tmp 6]) rfl ?_); at_builtin; refine ev_append (.tmp 5) (.tmp 6) 79 rfl rfl _ _ rfl rfl HR.out ?_)
    go_ret
    refine ⟨_, rfl, ⟨?_, fun k hk => ?_⟩, HB.out⟩
    · obtain ⟨a, b⟩ := HO.out
      refine ⟨a, ?_⟩
      rcases b with b | ⟨g', c', u', e1, _, e2⟩
      · exact .inl b
      · exact .inr ⟨g', c', u', e1, Nat.zero_le _, e2⟩
    · exact (HO.out.lt k hk).1
theorem run_mapclone (w : World) (m : Nat) (es : Array MapEntry) (c : Nat) (h : w.heap[m]? = some (.map es c)) (t : TypeId) : (callFunc 55 #[.iface t (.map (some m))]).run Try.prog w = .ok (.value (.iface t (.map (some w.heap.size)))) (w.alloc (.map es c)) := by
  rw [run_callFunc_extern Try.func55 (by kernel_rfl) (by kernel_rfl) (by kernel_rfl) (e := Extern.MapsClone.clone) (by kernel_rfl)]
  have e : Extern.MapsClone.clone #[.iface t (.map (some m))] = (getObj m >>= fun o => match o with
      | .map entries clock => (newObj (.map entries clock) >>= fun n => pure (.iface t (.map (some n))))
      | _ => stuck "maps.clone: a map expected") := rfl
  rw [e]
  simp [MapKept.run_getObj_map h, Result.andThen]
set_option maxHeartbeats 1000000 in
set_option maxRecDepth 20000 in
theorem cloneM_calls (m : Nat) (f : Int → Option ByteArray) (w : World) (h : MP w m f) : Calls Try.prog 45 #[.map (some m)] w fun e w' => e = .returned (.map (some w.heap.size)) ∧ MP w' w.heap.size f ∧ Below w.heap.size w w' := by
  obtain ⟨L, c, h1, h2, h3⟩ := h
  have hta : ∀ (k : Nat) (W : World), (Instr.typeAssert (.iface 78 (.map (some k))) 20 78 false).run Try.prog W = .ok (.map (some k)) W := fun k W => by rfl
  have hr := run_mapclone w m (ents L) c h1 78
  clear h1
  go_enter Try.func45, Try.ntmps45
  go_wp2
  go_ret
  exact ⟨rfl, ⟨L, c, heap_alloc_new w _, h2, h3⟩, (Below.refl _ _).alloc (Nat.le_refl _) _⟩
theorem one_str (l : List ByteArray) : ∀ u ∈ l.map Value.string, u.oneCell' = true := fun u hu => by
  obtain ⟨s, _, rfl⟩ := List.mem_map.1 hu
  rfl
theorem one_wc (l : List (Int × ByteArray)) : ∀ u ∈ wc l, u.oneCell' = true := fun u hu => by
  unfold wc at hu
  obtain ⟨p, _, h⟩ := List.mem_flatMap.1 hu
  simp at h
  rcases h with rfl | rfl <;> rfl
theorem set_blk {w : World} {g : Nat} {cs : Array Value} {t : TypeId} {fr : Nat × Nat} (h : w.heap[g]? = some (.cells cs t fr)) (i : Nat) (u : Value) : (w.setCell ⟨g, i, none⟩ u).heap[g]? = some (.cells (cs.setIfInBounds i u) t fr) := by
  simp only [World.setCell]
  rw [Array.getElem?_modify, if_pos rfl, h]
  rfl
set_option maxHeartbeats 4000000 in
set_option maxRecDepth 20000 in
theorem copy_calls (d : DS) (g : Nat) (S : Nat → Prop) (w : World) (h : DK w S g d) (ho : OkD d) : Calls Try.prog 24 #[.pointer (some ⟨g, 0, none⟩)] w fun e w' => ∃ g', w.heap.size ≤ g' ∧ e = .returned (.pointer (some ⟨g', 0, none⟩)) ∧ DK w' (fun k => w.heap.size ≤ k) g' d ∧ Below w.heap.size w w' := by
  obtain ⟨sv, rv, m, hv⟩ := h
  obtain ⟨A, c, rfl, _⟩ := hv.safe.shape
  obtain ⟨A1, c1_, rfl, _⟩ := hv.row.shape
  have HV := Aside0.mk hv; have HO := Aside0.mk ho; clear hv ho
  obtain ⟨⟨c0, c1, c2, c3, c4⟩, fr_⟩ := HV.out.cells; have f0 := fr_ 0; have f1 := fr_ 1; have f2 := fr_ 2; have f3 := fr_ 3; have f4 := fr_ 4; clear fr_
  go_enter Try.func24, Try.ntmps24
  go_upto_region 4 with (fail)
  have hta := heap_alloc_new w (.cells #[(.slice A d.safe.length c), (.slice A1 d.row.length c1_), .map (some m), .bool d.gone, .int .i64 d.fuse] TD)
  have hb := (Below.refl w.heap.size w).alloc (Nat.le_refl _) (.cells #[(.slice A d.safe.length c), (.slice A1 d.row.length c1_), .map (some m), .bool d.gone, .int .i64 d.fuse] TD)
  have hsz : w.heap.size + 1 ≤ (w.alloc (.cells #[(.slice A d.safe.length c), (.slice A1 d.row.length c1_), .map (some m), .bool d.gone, .int .i64 d.fuse] TD)).heap.size := by simp
  have hlt := Aside0.mk (show g < w.heap.size from HV.out.lt)
  have hv1 := HV.out.below hb
  generalize w.alloc (.cells #[(.slice A d.safe.length c), (.slice A1 d.row.length c1_), .map (some m), .bool d.gone, .int .i64 d.fuse] TD) = W at *
  clear c0 c1 c2 c3 c4 f0 f1 f2 f3 f4
  have HTA := Aside0.mk hta; have HB := Aside0.mk hb; have HW := Aside0.mk hsz; have HV1 := Aside0.mk hv1.drew
  clear hta hb hsz hv1
  have q0 : W.drew.cell? ⟨g, 0, none⟩ = some (.slice A d.safe.length c) := HV1.out.cells.1.1
  have q1 : W.drew.cell? ⟨g, 1, none⟩ = some (.slice A1 d.row.length c1_) := HV1.out.cells.1.2.1
  have q2 : W.drew.cell? ⟨g, 2, none⟩ = some (.map (some m)) := HV1.out.cells.1.2.2.1
  refine start_ (n := 21) (S := fun w' => w'.cell? ⟨g, 0, none⟩ = some (.slice A d.safe.length c) ∧ w'.cell? ⟨g, 1, none⟩ = some (.slice A1 d.row.length c1_) ∧ w'.cell? ⟨g, 2, none⟩ = some (.map (some m))) (ds := [16, 18, 20]) #[false, false, false, false, false, false, false, false, false, false, false, false, false, false, false, false, false, false, false, false, false] (by kernel_rfl) rfl rfl ⟨q0, q1, q2⟩ (fun hHeld => ?_)
  refine pure_ (i := 0) (N := some 9) (v := ?_) (a' := ?_) #[true, false, false, false, false, false, false, false, false, false, false, false, false, false, false, false, false, false, false, false, false] rfl rfl (by kernel_rfl) (fun _ _ _ h => h) (Or.inl ⟨by kernel_rfl, ?_⟩) ?_ ?_
  rotate_left
  · intro w'
    go_simp
    with_reducible rfl
  rotate_left
  · simp only [Act.put, List.setIfInBounds_toArray, List.set_cons_zero, List.set_cons_succ, i64_w, i32_w]
    rfl
  refine pure_ (i := 1) (N := some 10) (v := ?_) (a' := ?_) #[true, true, false, false, false, false, false, false, false, false, false, false, false, false, false, false, false, false, false, false, false] rfl rfl (by kernel_rfl) (fun _ _ _ h => h) (Or.inl ⟨by kernel_rfl, ?_⟩) ?_ ?_
  rotate_left
  · intro w'
    go_simp
    with_reducible rfl
  rotate_left
  · simp only [Act.put, List.setIfInBounds_toArray, List.set_cons_zero, List.set_cons_succ, i64_w, i32_w]
    rfl
  refine pure_ (i := 2) (N := some 11) (v := ?_) (a' := ?_) #[true, true, true, false, false, false, false, false, false, false, false, false, false, false, false, false, false, false, false, false, false] rfl rfl (by kernel_rfl) (fun _ _ _ h => h) (Or.inl ⟨by kernel_rfl, ?_⟩) ?_ ?_
  rotate_left
  · intro w'
    go_simp
    with_reducible rfl
  rotate_left
  · simp only [Act.put, List.setIfInBounds_toArray, List.set_cons_zero, List.set_cons_succ, i64_w, i32_w]
    rfl
  refine pure_ (i := 5) (N := some 14) (v := ?_) (a' := ?_) #[true, true, true, false, false, true, false, false, false, false, false, false, false, false, false, false, false, false, false, false, false] rfl rfl (by kernel_rfl) (fun _ _ _ h => h) (Or.inl ⟨by kernel_rfl, ?_⟩) ?_ ?_
  rotate_left
  · intro w'
    go_simp
    with_reducible rfl
  rotate_left
  · simp only [Act.put, List.setIfInBounds_toArray, List.set_cons_zero, List.set_cons_succ, i64_w, i32_w]
    rfl
  refine pure_ (i := 6) (N := some 15) (v := ?_) (a' := ?_) #[true, true, true, false, false, true, true, false, false, false, false, false, false, false, false, false, false, false, false, false, false] rfl rfl (by kernel_rfl) (fun _ _ _ h => h) (Or.inl ⟨by kernel_rfl, ?_⟩) ?_ ?_
  rotate_left
  · intro w'
    go_simp
    with_reducible rfl
  rotate_left
  · simp only [Act.put, List.setIfInBounds_toArray, List.set_cons_zero, List.set_cons_succ, i64_w, i32_w]
    rfl
  refine pure_ (i := 7) (N := some 16) (v := ?_) (a' := ?_) #[true, true, true, false, false, true, true, true, false, false, false, false, false, false, false, false, false, false, false, false, false] rfl rfl (by kernel_rfl) (fun _ _ _ h => h) (Or.inl ⟨by kernel_rfl, ?_⟩) ?_ ?_
  rotate_left
  · intro w'
    go_simp
    with_reducible rfl
  rotate_left
  · simp only [Act.put, List.setIfInBounds_toArray, List.set_cons_zero, List.set_cons_succ, i64_w, i32_w]
    rfl
  refine pure_ (i := 10) (N := some 19) (v := ?_) (a' := ?_) #[true, true, true, false, false, true, true, true, false, false, true, false, false, false, false, false, false, false, false, false, false] rfl rfl (by kernel_rfl) (fun _ _ _ h => h) (Or.inl ⟨by kernel_rfl, ?_⟩) ?_ ?_
  rotate_left
  · intro w'
    go_simp
    with_reducible rfl
  rotate_left
  · simp only [Act.put, List.setIfInBounds_toArray, List.set_cons_zero, List.set_cons_succ, i64_w, i32_w]
    rfl
  refine pure_ (i := 11) (N := some 20) (v := ?_) (a' := ?_) #[true, true, true, false, false, true, true, true, false, false, true, true, false, false, false, false, false, false, false, false, false] rfl rfl (by kernel_rfl) (fun _ _ _ h => h) (Or.inl ⟨by kernel_rfl, ?_⟩) ?_ ?_
  rotate_left
  · intro w'
    go_simp
    with_reducible rfl
  rotate_left
  · simp only [Act.put, List.setIfInBounds_toArray, List.set_cons_zero, List.set_cons_succ, i64_w, i32_w]
    rfl
  refine pure_ (i := 12) (N := some 21) (v := ?_) (a' := ?_) #[true, true, true, false, false, true, true, true, false, false, true, true, true, false, false, false, false, false, false, false, false] rfl rfl (by kernel_rfl) (fun _ _ _ h => h) (Or.inl ⟨by kernel_rfl, ?_⟩) ?_ ?_
  rotate_left
  · intro w'
    go_simp
    with_reducible rfl
  rotate_left
  · simp only [Act.put, List.setIfInBounds_toArray, List.set_cons_zero, List.set_cons_succ, i64_w, i32_w]
    rfl
  refine take_ (i := 3) (N := some 12) (v := ?_) (a' := ?_) #[true, true, true, true, false, true, true, true, false, false, true, true, true, false, false, false, false, false, false, false, false] rfl rfl (by kernel_rfl) (fun _ _ _ h => h) (Or.inl ⟨by kernel_rfl, ?_⟩) hHeld ?_ ?_
  rotate_left
  · rintro w' ⟨s0_, s1_, s2_⟩
    go_simp
    with_reducible rfl
  rotate_left
  · simp only [Act.put, List.setIfInBounds_toArray, List.set_cons_zero, List.set_cons_succ, i64_w, i32_w]
    rfl
  refine take_ (i := 8) (N := some 17) (v := ?_) (a' := ?_) #[true, true, true, true, false, true, true, true, true, false, true, true, true, false, false, false, false, false, false, false, false] rfl rfl (by kernel_rfl) (fun _ _ _ h => h) (Or.inl ⟨by kernel_rfl, ?_⟩) hHeld ?_ ?_
  rotate_left
  · rintro w' ⟨s0_, s1_, s2_⟩
    go_simp
    with_reducible rfl
  rotate_left
  · simp only [Act.put, List.setIfInBounds_toArray, List.set_cons_zero, List.set_cons_succ, i64_w, i32_w]
    rfl
  refine take_ (i := 13) (N := some 22) (v := ?_) (a' := ?_) #[true, true, true, true, false, true, true, true, true, false, true, true, true, true, false, false, false, false, false, false, false] rfl rfl (by kernel_rfl) (fun _ _ _ h => h) (Or.inl ⟨by kernel_rfl, ?_⟩) hHeld ?_ ?_
  rotate_left
  · rintro w' ⟨s0_, s1_, s2_⟩
    go_simp
    with_reducible rfl
  rotate_left
  · simp only [Act.put, List.setIfInBounds_toArray, List.set_cons_zero, List.set_cons_succ, i64_w, i32_w]
    rfl
  refine one_ (i := 4) (N := some 13) #[true, true, true, true, true, true, true, true, true, false, true, true, true, true, false, false, false, false, false, false, false] rfl rfl (by kernel_rfl) (by decide) (fun K hK => ?_)
  refine goes_ Try.func43 (by kernel_rfl) rfl #[(.slice A d.safe.length c)] (by rfl) rfl rfl (by (try simp only [List.map_toArray, List.map_cons, List.map_nil]); first | done | rfl) ?_
  refine (cloneS_calls (.slice A d.safe.length c) d.safe.length (d.safe.map .string) S _ HV1.out.safe (by have := HO.out.2.2.2.1; omega) (one_str _)).mono ?_
  rintro e v1_ ⟨v_, rfl, hs1, hb1⟩
  obtain ⟨A2, c2_, rfl, _⟩ := hs1.shape
  refine ⟨_, rfl, ?_⟩
  have HS1 := Aside0.mk (hs1.mono (S2 := fun k => w.heap.size ≤ k) (fun k _ hk => Nat.le_trans (Nat.le_of_lt HW.out) hk)); have HV2 := Aside0.mk (HV1.out.below hb1); have HB2 := Aside0.mk (Arr.below_trans HB.out.drew hb1); have HT2 := Aside0.mk ((hb1.block w.heap.size HW.out).trans HTA.out); have HW2 := Aside0.mk (Nat.le_trans HW.out hb1.size); have NS := Aside0.mk (show ∀ k, (Value.slice A2 d.safe.length c2_).ownBlock = some k → k ≠ w.heap.size from fun k hk e => by have := hs1.mem k hk; have := HW.out; have e2 : W.drew.heap.size = W.heap.size := rfl; omega)
  refine hK _ _ ⟨pw_cell_below hb1 hHeld.1, pw_cell_below hb1 hHeld.2.1, pw_cell_below hb1 hHeld.2.2⟩ (fun hHeld => ?_)
  clear hK K hb1 hs1
  refine norm_ (a' := ?_) ?_ ?_
  rotate_left
  · show Act.put _ (some 13) _ = _
    simp only [Act.put, List.setIfInBounds_toArray, List.set_cons_zero, List.set_cons_succ, i64_w, i32_w]
    rfl
  refine one_ (i := 9) (N := some 18) #[true, true, true, true, true, true, true, true, true, true, true, true, true, true, false, false, false, false, false, false, false] rfl rfl (by kernel_rfl) (by decide) (fun K hK => ?_)
  refine goes_ Try.func44 (by kernel_rfl) rfl #[(.slice A1 d.row.length c1_)] (by rfl) rfl rfl (by (try simp only [List.map_toArray, List.map_cons, List.map_nil]); first | done | rfl) ?_
  refine (cloneW_calls (.slice A1 d.row.length c1_) d.row.length (wc d.row) S _ HV2.out.row HO.out.1 (one_wc _)).mono ?_
  rintro e v2_ ⟨v_, rfl, hs1, hb1⟩
  obtain ⟨A3, c3_, rfl, _⟩ := hs1.shape
  refine ⟨_, rfl, ?_⟩
  have HS2 := Aside0.mk (HS1.out.same fun k hk => hb1.block k (HS1.out.own.lt k hk).2); have HR2 := Aside0.mk (hs1.mono (S2 := fun k => w.heap.size ≤ k) (fun k _ hk => Nat.le_trans HB2.out.size hk)); have HV3 := Aside0.mk (HV2.out.below hb1); have HB3 := Aside0.mk (Arr.below_trans HB2.out hb1); have HT3 := Aside0.mk ((hb1.block w.heap.size HW2.out).trans HT2.out); have HW3 := Aside0.mk (Nat.le_trans HW2.out hb1.size); have NR := Aside0.mk (show ∀ k, (Value.slice A3 d.row.length c3_).ownBlock = some k → k ≠ w.heap.size from fun k hk e => by have := hs1.mem k hk; have := HW2.out; omega)
  refine hK _ _ ⟨pw_cell_below hb1 hHeld.1, pw_cell_below hb1 hHeld.2.1, pw_cell_below hb1 hHeld.2.2⟩ (fun hHeld => ?_)
  clear hK K hb1 hs1
  refine norm_ (a' := ?_) ?_ ?_
  rotate_left
  · show Act.put _ (some 18) _ = _
    simp only [Act.put, List.setIfInBounds_toArray, List.set_cons_zero, List.set_cons_succ, i64_w, i32_w]
    rfl
  refine one_ (i := 14) (N := some 23) #[true, true, true, true, true, true, true, true, true, true, true, true, true, true, true, false, false, false, false, false, false] rfl rfl (by kernel_rfl) (by decide) (fun K hK => ?_)
  refine goes_ Try.func45 (by kernel_rfl) rfl #[.map (some m)] (by rfl) rfl rfl (by (try simp only [List.map_toArray, List.map_cons, List.map_nil]); first | done | rfl) ?_
  refine (cloneM_calls m _ _ HV3.out.map).mono ?_
  rintro e v3_ ⟨rfl, hs1, hb1⟩
  refine ⟨_, rfl, ?_⟩
  have HS3 := Aside0.mk (HS2.out.same fun k hk => hb1.block k (HS2.out.own.lt k hk).2); have HR3 := Aside0.mk (HR2.out.same fun k hk => hb1.block k (HR2.out.own.lt k hk).2); have HM3 := Aside0.mk hs1; have HB4 := Aside0.mk (Arr.below_trans HB3.out hb1); have HT4 := Aside0.mk ((hb1.block w.heap.size HW3.out).trans HT3.out)
  refine hK _ _ ⟨pw_cell_below hb1 hHeld.1, pw_cell_below hb1 hHeld.2.1, pw_cell_below hb1 hHeld.2.2⟩ (fun hHeld => ?_)
  clear hK K hb1 hs1 hHeld q0 q1 q2
  refine norm_ (a' := ?_) ?_ ?_
  rotate_left
  · show Act.put _ (some 23) _ = _
    simp only [Act.put, List.setIfInBounds_toArray, List.set_cons_zero, List.set_cons_succ, i64_w, i32_w]
    rfl
  refine pure_ (i := 15) (N := some 24) (v := ?_) (a' := ?_) #[true, true, true, true, true, true, true, true, true, true, true, true, true, true, true, true, false, false, false, false, false] rfl rfl (by kernel_rfl) (fun _ _ _ h => h) (Or.inl ⟨by kernel_rfl, ?_⟩) ?_ ?_
  rotate_left
  · intro w'
    go_simp
    with_reducible rfl
  rotate_left
  · simp only [Act.put, List.setIfInBounds_toArray, List.set_cons_zero, List.set_cons_succ, i64_w, i32_w]
    rfl
  refine last_ (i := 16) (N := none) #[true, true, true, true, true, true, true, true, true, true, true, true, true, true, true, true, true, false, false, false, false] rfl rfl (by kernel_rfl) (by decide) (fun K hK => ?_)
  have cz : v3_.cell? ⟨w.heap.size, 0, none⟩ = some ((.slice A d.safe.length c)) := blk_cell (w := v3_) HT4.out 0
  have fz : v3_.frozen? ⟨w.heap.size, 0, none⟩ = false := blk_frozen (w := v3_) HT4.out _
  refine skip_ (w1 := ?_) (by kernel_rfl) rfl ?_ ?_
  rotate_left
  · go_simp
    rfl
  refine hK _ _ ?_
  clear hK K cz fz
  have HT5 := Aside0.mk (set_blk HT4.out 0 (.slice A2 d.safe.length c2_))
  refine pure_ (i := 17) (N := some 25) (v := ?_) (a' := ?_) #[true, true, true, true, true, true, true, true, true, true, true, true, true, true, true, true, true, true, false, false, false] rfl rfl (by kernel_rfl) (fun _ _ _ h => h) (Or.inl ⟨by kernel_rfl, ?_⟩) ?_ ?_
  rotate_left
  · intro w'
    go_simp
    with_reducible rfl
  rotate_left
  · simp only [Act.put, List.setIfInBounds_toArray, List.set_cons_zero, List.set_cons_succ, i64_w, i32_w]
    rfl
  refine last_ (i := 18) (N := none) #[true, true, true, true, true, true, true, true, true, true, true, true, true, true, true, true, true, true, true, false, false] rfl rfl (by kernel_rfl) (by decide) (fun K hK => ?_)
  have cz : (v3_.setCell ⟨w.heap.size, 0, none⟩ (.slice A2 d.safe.length c2_)).cell? ⟨w.heap.size, 1, none⟩ = some ((.slice A1 d.row.length c1_)) := blk_cell (w := (v3_.setCell ⟨w.heap.size, 0, none⟩ (.slice A2 d.safe.length c2_))) HT5.out 1
  have fz : (v3_.setCell ⟨w.heap.size, 0, none⟩ (.slice A2 d.safe.length c2_)).frozen? ⟨w.heap.size, 1, none⟩ = false := blk_frozen (w := (v3_.setCell ⟨w.heap.size, 0, none⟩ (.slice A2 d.safe.length c2_))) HT5.out _
  refine skip_ (w1 := ?_) (by kernel_rfl) rfl ?_ ?_
  rotate_left
  · go_simp
    rfl
  refine hK _ _ ?_
  clear hK K cz fz
  have HT6 := Aside0.mk (set_blk HT5.out 1 (.slice A3 d.row.length c3_))
  refine pure_ (i := 19) (N := some 26) (v := ?_) (a' := ?_) #[true, true, true, true, true, true, true, true, true, true, true, true, true, true, true, true, true, true, true, true, false] rfl rfl (by kernel_rfl) (fun _ _ _ h => h) (Or.inl ⟨by kernel_rfl, ?_⟩) ?_ ?_
  rotate_left
  · intro w'
    go_simp
    with_reducible rfl
  rotate_left
  · simp only [Act.put, List.setIfInBounds_toArray, List.set_cons_zero, List.set_cons_succ, i64_w, i32_w]
    rfl
  refine last_ (i := 20) (N := none) #[true, true, true, true, true, true, true, true, true, true, true, true, true, true, true, true, true, true, true, true, true] rfl rfl (by kernel_rfl) (by decide) (fun K hK => ?_)
  have cz : ((v3_.setCell ⟨w.heap.size, 0, none⟩ (.slice A2 d.safe.length c2_)).setCell ⟨w.heap.size, 1, none⟩ (.slice A3 d.row.length c3_)).cell? ⟨w.heap.size, 2, none⟩ = some (.map (some m)) := blk_cell (w := ((v3_.setCell ⟨w.heap.size, 0, none⟩ (.slice A2 d.safe.length c2_)).setCell ⟨w.heap.size, 1, none⟩ (.slice A3 d.row.length c3_))) HT6.out 2
  have fz : ((v3_.setCell ⟨w.heap.size, 0, none⟩ (.slice A2 d.safe.length c2_)).setCell ⟨w.heap.size, 1, none⟩ (.slice A3 d.row.length c3_)).frozen? ⟨w.heap.size, 2, none⟩ = false := blk_frozen (w := ((v3_.setCell ⟨w.heap.size, 0, none⟩ (.slice A2 d.safe.length c2_)).setCell ⟨w.heap.size, 1, none⟩ (.slice A3 d.row.length c3_))) HT6.out _
  refine skip_ (w1 := ?_) (by kernel_rfl) rfl ?_ ?_
  rotate_left
  · go_simp
    rfl
  refine hK _ _ ?_
  clear hK K cz fz
  refine done_ (by kernel_rfl) ?_
  simp only [Exit.inBlock, Exit.then]
  go_wp2
  go_ret
  have ne7 : ∀ k, k ≠ w.heap.size → ∀ (V : World) (a b e : Value), (((V.setCell ⟨w.heap.size, 0, none⟩ a).setCell ⟨w.heap.size, 1, none⟩ b).setCell ⟨w.heap.size, 2, none⟩ e).heap[k]? = V.heap[k]? := fun k hk V a b e =>
    ((Below.heap_setCell _ ⟨w.heap.size, 2, none⟩ e k hk).trans (Below.heap_setCell _ ⟨w.heap.size, 1, none⟩ b k hk)).trans (Below.heap_setCell _ ⟨w.heap.size, 0, none⟩ a k hk)
  refine ⟨w.heap.size, Nat.le_refl _, rfl, ⟨_, _, _, set_blk HT6.out 2 _, ?_, ?_, ?_, Nat.le_refl _, ?_⟩, ?_⟩
  · exact HS3.out.same fun k hk => ne7 k (NS.out k hk) _ _ _ _
  · exact HR3.out.same fun k hk => ne7 k (NR.out k hk) _ _ _ _
  · refine HM3.out.same (ne7 _ ?_ _ _ _ _)
    have := HW3.out
    omega
  · have := HW3.out
    show w.heap.size ≤ _
    omega
  · exact ((HB4.out.setCell (p := ⟨w.heap.size, 0, none⟩) (Nat.le_refl _) _).setCell (p := ⟨w.heap.size, 1, none⟩) (Nat.le_refl _) _).setCell (p := ⟨w.heap.size, 2, none⟩) (Nat.le_refl _) _
end Go.Proofs.Ytbdfdfahpdilpaa.Dk
