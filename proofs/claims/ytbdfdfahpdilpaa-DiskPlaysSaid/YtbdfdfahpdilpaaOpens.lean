import Derived.Test.YtbdfdfahpdilpaaWWords
import Derived.WalkKit
import Derived.ProofKit
import Derived.OpenShut
import Derived.ChangeOld
import Derived.Below
import Derived.SizedLaws
import Derived.Deep.Slices
import Derived.Deep.Fields
import Derived.ChangeSame
/-! An argument of any shape, opened: its reading as data gives a value of a kind (Kd), whose numbers and sizes are in their bounds. -/
namespace Go.Proofs.Ytbdfdfahpdilpaa.Opens
open Go Go.RowKit Go.ChangeShapes Go.WideShapes Go.Deep Go.Proofs.YtbdfdfahpdilpaaW.PrintWords
set_option linter.unusedVariables false
variable {P : Program}
/-- Whatever reads as data at type t is a value of kind d that meets Wf. -/
def Opens (P : Program) (t : TypeId) {α : Type} (d : Kd α) (Wf : α → Prop) : Prop :=
  ∀ {H : Type} {enc : TypeId × Value → H} {w : World} {fuel : Nat} {cs : List Value} {x : DataW H × List MemPlace},
    DataW.trod enc P w 0 (fun _ => true) true fuel t cs = some x → (∀ n ∈ DataW.weights P t x.1, n ≤ reachBytes) → ∃ v : α, d.K w v cs ∧ Wf v
theorem opens_int {t : TypeId} {k : IntKind} (ht : P.underlying t = some (.int k)) : Opens P t (Kd.int k) (fun n => (Lit.int k n).wf = true) := by
  intro H enc w fuel cs x h _
  obtain ⟨n, rfl, _, hw⟩ := DataW.trod_int ht h
  exact ⟨n, rfl, hw⟩
theorem opens_bool {t : TypeId} (ht : P.underlying t = some .bool) : Opens P t Kd.bool (fun _ => True) := by
  intro H enc w fuel cs x h _
  obtain ⟨b, rfl, _⟩ := DataW.trod_bool ht h
  exact ⟨b, rfl, trivial⟩
theorem opens_string {t : TypeId} (ht : P.underlying t = some .string) : Opens P t Kd.string (fun s => s.size ≤ 140737488351232) := by
  intro H enc w fuel cs x h hw
  obtain ⟨s, rfl, rfl, _⟩ := DataW.trod_string ht h
  refine ⟨s, rfl, ?_⟩
  have := hw s.data.toList.length (by simp [DataW.weights])
  simpa [reachBytes] using this
theorem weightsAll_mem {H : Type} (e : TypeId) : ∀ (l : List (DataW H)) (d : DataW H), d ∈ l → ∀ n ∈ d.weights P e, n ∈ DataW.weightsAll P e l
  | [], d, h, _, _ => by cases h
  | a :: r, d, h, n, hn => by
    simp only [DataW.weightsAll, List.mem_append]
    rcases List.mem_cons.1 h with rfl | h
    · exact .inl hn
    · exact .inr (weightsAll_mem e r d h n hn)
theorem list_of {α : Type} : ∀ (n : Nat) (Q : Nat → α → Prop), (∀ i, i < n → ∃ v, Q i v) → ∃ l : List α, l.length = n ∧ ∀ i v, l[i]? = some v → Q i v
  | 0, _, _ => ⟨[], rfl, fun i v h => by simp at h⟩
  | n + 1, Q, h => by
    obtain ⟨l, hl, hq⟩ := list_of n Q (fun i hi => h i (by omega))
    obtain ⟨v, hv⟩ := h n (by omega)
    refine ⟨l ++ [v], by simp [hl], fun i u hi => ?_⟩
    rw [List.getElem?_append] at hi
    split at hi
    · exact hq i u hi
    · have : i - l.length = 0 := by
        by_cases e : i - l.length = 0
        · exact e
        · rw [List.getElem?_eq_none (by simp; omega)] at hi; cases hi
      rw [this] at hi
      simp only [List.getElem?_cons_zero, Option.some.injEq] at hi
      subst hi
      obtain rfl : i = n := by omega
      exact hv
theorem opens_slice {t e : TypeId} {α : Type} {d : Kd α} {Wf : α → Prop} (ht : P.underlying t = some (.slice e)) (hsz : P.cellsOf e = d.sz) (O : Opens P e d Wf) :
    Opens P t (Kd.slice e d) (fun l => l.length ≤ maxLen ∧ l.length * P.bytesOf e ≤ 140737488351232 ∧ ∀ x ∈ l, Wf x) := by
  intro H enc w fuel cs x h hw
  rcases open_slice ht h with ⟨rfl, rfl⟩ | ⟨a, len, cap, m, n, D, Pl, rfl, _, hl, hm, hmm, rfl, hx⟩
  · exact ⟨[], ⟨none, 0, rfl, Nat.le_refl _, rfl, by simp, fun h => absurd h (by simp)⟩, by simp, by simp, by simp⟩
  · simp only [if_true] at hmm
    subst hmm
    have each : ∀ i, i < len → ∃ v : α, (∃ c : List Value, c.length = d.sz ∧ d.K w v c ∧ ∀ j u, c[j]? = some u → w.cell? (a.add (i * d.sz + j)) = some u) ∧ Wf v := by
      intro i hi
      obtain ⟨cs', hc, ht'⟩ := hx i (by omega)
      have hwi : ∀ n ∈ DataW.weights P e (D i), n ≤ reachBytes := by
        intro q hq
        refine hw q ?_
        simp only [DataW.weights, ht, List.mem_cons, List.mem_append]
        exact .inr (.inl (weightsAll_mem e _ (D i) (List.mem_map.2 ⟨i, List.mem_range.2 hi, rfl⟩) q hq))
      obtain ⟨v, hk, hf⟩ := O ht' hwi
      obtain ⟨_, hcl, hat⟩ := World.cells?_some hc
      refine ⟨v, ⟨cs', by rw [hcl, hsz], hk, fun j u hj => ?_⟩, hf⟩
      have hjl : j < P.cellsOf e := by rw [← hcl]; exact (List.getElem?_eq_some_iff.1 hj).1
      have h1 := hat j hjl
      rw [hj] at h1
      rw [← hsz, ← h1]
      rw [Addr.add_add]
    obtain ⟨l, hll, hlq⟩ := list_of len _ each
    refine ⟨l, ⟨some a, m, by rw [hll], by omega, hll.symm ▸ rfl, by unfold maxLen at hm; omega, fun _ => ⟨a, rfl, fun j p hj => (hlq j p hj).1⟩⟩, by unfold maxLen at *; omega, ?_, fun v hv => ?_⟩
    · have h1 := hw ((len + (m - len)) * P.bytesOf e) (by simp [DataW.weights, ht])
      have h2 : l.length * P.bytesOf e ≤ (len + (m - len)) * P.bytesOf e := Nat.mul_le_mul_right _ (by omega)
      unfold reachBytes at h1
      omega
    · obtain ⟨i, hi⟩ := List.getElem?_of_mem hv
      exact (hlq i v hi).2
theorem opens_iso {t : TypeId} {α β : Type} {d : Kd α} {Wf : α → Prop} (O : Opens P t d Wf) (f : β → α) (g : α → β) (hfg : ∀ a, f (g a) = a) : Opens P t (Kd.iso d f) (fun b => Wf (f b)) := by
  intro H enc w fuel cs x h hw
  obtain ⟨v, hk, hf⟩ := O h hw
  refine ⟨g v, ?_, ?_⟩
  · show d.K w (f (g v)) cs
    rw [hfg]; exact hk
  · show Wf (f (g v))
    rw [hfg]; exact hf
/-- Fields, one behind the other. -/
def OpensF (P : Program) (ts : List TypeId) {α : Type} (d : Kd α) (Wf : α → Prop) : Prop :=
  ∀ {H : Type} {enc : TypeId × Value → H} {w : World} {fuel : Nat} {css : List (List Value)} {xs : List (DataW H × List MemPlace)},
    css.length = ts.length → xs.length = ts.length → (∀ (i : Nat) (t : TypeId) (cs : List Value) (x : DataW H × List MemPlace), ts[i]? = some t → css[i]? = some cs → xs[i]? = some x → DataW.trod enc P w 0 (fun _ => true) true fuel t cs = some x ∧ ∀ n ∈ DataW.weights P t x.1, n ≤ reachBytes) →
    ∃ v : α, d.K w v css.flatten ∧ Wf v
theorem opensF_one {t : TypeId} {α : Type} {d : Kd α} {Wf : α → Prop} (O : Opens P t d Wf) : OpensF P [t] d Wf := by
  intro H enc w fuel css xs hc hx h
  match css, xs, hc, hx with
  | [cs], [x], _, _ =>
    obtain ⟨h1, h2⟩ := h 0 t cs x rfl rfl rfl
    obtain ⟨v, hk, hf⟩ := O h1 h2
    exact ⟨v, by simpa using hk, hf⟩
theorem opensF_cons {t : TypeId} {ts : List TypeId} {α β : Type} {d : Kd α} {d' : Kd β} {Wf : α → Prop} {Wf' : β → Prop} (O : Opens P t d Wf) (O' : OpensF P ts d' Wf') :
    OpensF P (t :: ts) (Kd.pair d d') (fun x => Wf x.1 ∧ Wf' x.2) := by
  intro H enc w fuel css xs hc hx h
  match css, xs, hc, hx with
  | cs :: css, x :: xs, hc, hx =>
    obtain ⟨h1, h2⟩ := h 0 t cs x rfl rfl rfl
    obtain ⟨v, hk, hf⟩ := O h1 h2
    obtain ⟨v', hk', hf'⟩ := O' (css := css) (xs := xs) (by simpa using hc) (by simpa using hx) (fun i t' cs' x' a b c => h (i + 1) t' cs' x' (by simpa using a) (by simpa using b) (by simpa using c))
    exact ⟨(v, v'), ⟨cs, css.flatten, by simp, hk, hk'⟩, hf, hf'⟩
/-- Fields' places: each begins where the one ahead of it ends. -/
def placed (P : Program) : Nat → List Field → Bool
  | _, [] => true
  | o, f :: fs => f.offset == o && placed P (o + P.cellsOf f.type) fs
def total (P : Program) : List Field → Nat
  | [] => 0
  | f :: fs => P.cellsOf f.type + total P fs
theorem cut_flatten (P : Program) : ∀ (fs : List Field) (o : Nat) (cs : List Value), placed P o fs = true → cs.length = o + total P fs → (fs.map fun f => (cs.drop f.offset).take (P.cellsOf f.type)).flatten = cs.drop o
  | [], o, cs, _, hl => by simp only [List.map_nil, List.flatten_nil, total, Nat.add_zero] at *; rw [← hl, List.drop_length]
  | f :: fs, o, cs, hp, hl => by
    simp only [placed, Bool.and_eq_true, beq_iff_eq] at hp
    simp only [total] at hl
    simp only [List.map_cons, List.flatten_cons, hp.1]
    rw [cut_flatten P fs (o + P.cellsOf f.type) cs hp.2 (by omega), ← List.drop_drop, List.take_append_drop]
theorem opens_struct {t : TypeId} {fs : Array Field} {α : Type} {d : Kd α} {Wf : α → Prop} (ht : P.underlying t = some (.struct fs)) (hp : placed P 0 fs.toList = true) (htot : P.cellsOf t = total P fs.toList)
    (O : OpensF P (fs.toList.map (·.type)) d Wf) : Opens P t d Wf := by
  intro H enc w fuel cs x h hw
  obtain ⟨xs, n, rfl, rfl, hlen, hxl, hf⟩ := DataW.trod_struct ht h
  have hx2 : xs.length = (fs.toList.map (·.type)).length := by simpa using hxl
  obtain ⟨v, hk, hwf⟩ := O (w := w) (fuel := n) (css := fs.toList.map fun f => (cs.drop f.offset).take (P.cellsOf f.type)) (xs := xs) (by simp) hx2 (by
    intro i t' cs' x' ha hb hc
    rw [List.getElem?_map] at ha hb
    cases hfi : fs.toList[i]? with
    | none => rw [hfi] at ha; cases ha
    | some f =>
      rw [hfi] at ha hb
      simp only [Option.map_some, Option.some.injEq] at ha hb
      subst ha; subst hb
      have h1 := hf i f (by simpa using hfi)
      rw [h1]
      refine ⟨hc, fun q hq => hw q ?_⟩
      simp only [DataW.weights, ht]
      exact DataW.weights_mem_each (j := i) (t := f.type) (d := x'.1) (by rw [List.getElem?_map, hfi]; rfl) (by rw [List.getElem?_map, hc]; rfl) q hq)
  rw [cut_flatten P fs.toList 0 cs hp (by rw [hlen, htot]; omega)] at hk
  exact ⟨v, by simpa using hk, hwf⟩
end Go.Proofs.Ytbdfdfahpdilpaa.Opens
