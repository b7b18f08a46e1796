import Derived.Test.YtbnglmeljbiglaaQGZ0
import Derived.Test.YtbnglmeljbiglaaQGZ1
import Derived.Test.YtbnglmeljbiglaaQGZ2
import Derived.Test.YtbnglmeljbiglaaQGZ3
import Derived.Test.YtbnglmeljbiglaaQGZ4
import Derived.Test.YtbnglmeljbiglaaQGZ5
import Derived.Test.YtbnglmeljbiglaaQGZ6
import Derived.Test.YtbnglmeljbiglaaQGZ7
import Derived.Test.YtbnglmeljbiglaaQGZ8
import Derived.Test.YtbnglmeljbiglaaQGZ9
import Derived.Test.YtbnglmeljbiglaaQGZ10
import Derived.Test.YtbnglmeljbiglaaQGZ11
import Derived.Test.YtbnglmeljbiglaaQGZ12
import Derived.Test.YtbnglmeljbiglaaQGZ13
import Derived.Test.YtbnglmeljbiglaaQGZ14
import Derived.Test.YtbnglmeljbiglaaQGZ15
import Derived.Test.YtbnglmeljbiglaaQGZ16
import Derived.Test.YtbnglmeljbiglaaQGZ17
import Derived.Test.YtbnglmeljbiglaaQGZ18
import Derived.Test.YtbnglmeljbiglaaQGZ19
import Derived.Test.YtbnglmeljbiglaaQGZ20
set_option maxRecDepth 8192
namespace Go.Proofs.Ytbnglmeljbiglaa.Wl
open Go.Proofs.Ytbnglmeljbiglaa.X4 Go.Proofs.Ytbnglmeljbiglaa.Pt Go.Proofs.Ytbnglmeljbiglaa.Ptb Go.Proofs.Ytbnglmeljbiglaa.Rp Go Go.RowKit Go.ChangeMaps Go.Proofs.Ytbnglmeljbiglaa.Arr Go.Proofs.Ytbnglmeljbiglaa.Mp Go.Proofs.Ytbnglmeljbiglaa.Ow Go.Proofs.Ytbnglmeljbiglaa.Dk Go.Proofs.Ytbnglmeljbiglaa.Fr Go.Proofs.YtbnglmeljbiglaaW.PrintWords
set_option linter.unusedVariables false
set_option linter.unusedSimpArgs false
abbrev Rc_ := S37
theorem B_app (a b : List UInt8) : B a ++ B b = B (a ++ b) := B_append a b
theorem B_empty {l : List UInt8} : B l = ⟨#[]⟩ ↔ l = [] := by
  constructor
  · intro h
    have := congrArg (fun b : ByteArray => b.data.toList) h
    simpa [B_list] using this
  · rintro rfl; rfl
theorem prB_one {r : Rc_} (h : mayB r = true) : 1 ≤ (prB r).length ∧ printF r = (B (prB r), 0) := by
  rcases print_may (r := r) with ⟨bs, hb, ho, hp, hm⟩ | ⟨hp, hm⟩
  · rw [prB_may hb h]; exact ⟨(rec_len hb).2.2, hp⟩
  · rw [hm] at h; cases h
theorem print_not {r : Rc_} (h : mayB r = false) : (printF r).2 = 1 := by
  rcases print_may (r := r) with ⟨bs, hb, ho, hp, hm⟩ | ⟨hp, hm⟩
  · rw [hm] at h; cases h
  · rw [hp]
theorem append_not (W : WS) {r : Rc_} (h : mayB r = false) : appendW W r = (0, 1, W) := by
  unfold appendW
  rw [if_pos (by rw [print_not h]; decide)]
theorem append_may (W : WS) {r : Rc_} (h : mayB r = true) : appendW W r = appW W (B (prB r)) := by
  unfold appendW
  rw [(prB_one h).2]
  exact if_neg (by simp)
theorem bytes_nil {l : List Rc_} (h : ∀ r ∈ l, mayB r = true) : bytesW l = [] ↔ l = [] := by
  constructor
  · intro e
    cases l with
    | nil => rfl
    | cons x t =>
      have h1 := (prB_one (h x (List.mem_cons_self ..))).1
      have h2 := congrArg List.length e
      rw [bytesW, List.length_append] at h2
      have : ([] : List UInt8).length = 0 := rfl
      omega
  · rintro rfl; rfl
/-- A log's sectors hold these records. -/
structure Rows (W : WS) (R : Int → List Rc_) : Prop where
  body : ∀ i, bdy W i = B (bytesW (R i))
  may : ∀ i, ∀ r ∈ R i, mayB r = true
  lo : ∀ i, i < W.low → R i = []
  hi : ∀ i, W.op < i → R i = []
  full : ∀ i, W.low ≤ i → i < W.op → R i ≠ []
  len : ∀ i, (bytesW (R i)).length ≤ 112
  ord : 0 ≤ W.low ∧ W.low ≤ W.first ∧ W.first ≤ W.op
theorem rows_new (base n : Int) : Rows (newW base n) (fun _ => []) :=
  ⟨fun _ => rfl, fun _ _ h => (by cases h), fun _ _ => rfl, fun _ _ => rfl, fun i h1 h2 => by
    have h1 : (1 : Int) ≤ i := h1
    have h2 : i < (1 : Int) := h2
    omega, fun _ => Nat.zero_le _, by show (0 : Int) ≤ 1 ∧ (1 : Int) ≤ 1 ∧ (1 : Int) ≤ 1; omega⟩
variable {W : WS} {R : Int → List Rc_}
theorem Rows.empty (h : Rows W R) (i : Int) : bdy W i = ⟨#[]⟩ ↔ R i = [] := by
  rw [h.body, B_empty, bytes_nil (h.may i)]
theorem Rows.size (h : Rows W R) (i : Int) : (bdy W i).size = (bytesW (R i)).length := by rw [h.body, B_size]
theorem Rows.le (h : Rows W R) (i : Int) : (bdy W i).size ≤ 112 := by rw [h.size]; exact h.len i
/-- The next sector to be begun. -/
def nxW (W : WS) : Int := if bdy W W.op = ⟨#[]⟩ then W.op else W.op + 1
theorem room_nx (W : WS) : roomW W = W.low + W.n - nxW W := by
  unfold roomW nxW
  split <;> omega
/-- The records of a sector, with their places. -/
def secE (R : Int → List Rc_) (i : Int) : List En_ := (wantW 0 (R i)).map (shiftE i)
theorem allS_rows (l : List Rc_) : allS (B (bytesW l)) = wantW 0 l := by
  unfold allS
  rw [all_rows]
  rfl
theorem Rows.ent (h : Rows W R) (i : Int) : entL i (bdy W i) = secE R i := by
  unfold entL secE
  rw [h.body, allS_rows]
def allK (R : Int → List Rc_) (low : Int) (k : Nat) : List En_ := (List.range k).flatMap fun (q : Nat) => secE R (low + (q : Int))
theorem allK_succ (R : Int → List Rc_) (low : Int) (k : Nat) : allK R low (k + 1) = allK R low k ++ secE R (low + (k : Int)) := by
  unfold allK
  rw [List.range_succ, List.flatMap_append]
  simp
/-- All records that a log holds. -/
def allR (W : WS) (R : Int → List Rc_) : List En_ := allK R W.low (W.op + 1 - W.low).toNat
theorem Rows.scanK (h : Rows W R) (from_ : Int) (k : Nat) : scanK W from_ k = (allK R W.low k).filter fun x => decide (from_ ≤ x.f0) := by
  induction k with
  | zero => rfl
  | succ k ih => rw [scanK_succ, allK_succ, List.filter_append, ih, h.ent]
theorem Rows.scan (h : Rows W R) (from_ : Int) : scanF W from_ = (allR W R).filter fun x => decide (from_ ≤ x.f0) := h.scanK from_ _
theorem secE_at (R : Int → List Rc_) (i : Int) : ∀ x ∈ secE R i, i * 128 ≤ x.f0 ∧ x.f0 < i * 128 + (bytesW (R i)).length := by
  intro x hx
  obtain ⟨y, hy, rfl⟩ := List.mem_map.1 hx
  have := allS_at (s := B (bytesW (R i))) y (by rw [allS_rows]; exact hy)
  rw [B_size] at this
  show i * 128 ≤ y.f0 + i * 128 ∧ y.f0 + i * 128 < _
  omega
/-- One more record in a sector. -/
def putR (R : Int → List Rc_) (i : Int) (r : Rc_) : Int → List Rc_ := fun j => if j = i then R i ++ [r] else R j
theorem putR_at (R : Int → List Rc_) (i : Int) (r : Rc_) : putR R i r i = R i ++ [r] := if_pos rfl
theorem putR_off (R : Int → List Rc_) {i j : Int} (r : Rc_) (h : j ≠ i) : putR R i r j = R j := if_neg h
theorem secE_put (R : Int → List Rc_) (i : Int) {r : Rc_} (hm : mayB r = true) : secE (putR R i r) i = secE R i ++ [⟨i * 128 + (bytesW (R i)).length, r⟩] := by
  unfold secE
  rw [putR_at, want_append, List.map_append]
  refine congrArg (fun t : List En_ => List.map (shiftE i) (wantW 0 (R i)) ++ t) ?_
  rw [wantW, wantW, if_pos hm]
  show [shiftE i ⟨((0 + (bytesW (R i)).length : Nat) : Int), r⟩] = _
  unfold shiftE
  refine congrArg (fun z => [(⟨z, r⟩ : En_)]) ?_
  show ((0 + (bytesW (R i)).length : Nat) : Int) + i * 128 = _
  omega
theorem allK_put (R : Int → List Rc_) (low i : Int) (r : Rc_) (k : Nat) (h : low + k ≤ i) : allK (putR R i r) low k = allK R low k := by
  induction k with
  | zero => rfl
  | succ k ih =>
    rw [allK_succ, allK_succ, ih (by omega)]
    unfold secE
    rw [putR_off R r (by omega)]
/-- Where a record goes. -/
structure Goes (W : WS) (R : Int → List Rc_) (r : Rc_) (i : Int) : Prop where
  sec : i = W.op ∨ (i = W.op + 1 ∧ R W.op ≠ [])
  fits : (bytesW (R i)).length + (prB r).length ≤ 112
  room : R i = [] → i < W.low + W.n
/-- The log behind an Append. -/
def putW (W : WS) (R : Int → List Rc_) (r : Rc_) (i : Int) : WS := { W with op := i, f := fill W.f i (B (bytesW (R i ++ [r]))) }
theorem append_cases (h : Rows W R) {r : Rc_} (hm : mayB r = true) : (appendW W r = (0, 5, W) ∧ W.low + W.n ≤ nxW W) ∨ ∃ i, Goes W R r i ∧ appendW W r = (i * 128 + (bytesW (R i)).length, 0, putW W R r i) := by
  rw [append_may W hm]
  obtain ⟨p1, p2⟩ := prB_one hm
  have p3 := prB_le r
  have hb : ∀ i : Int, B (bytesW (R i)) ++ B (prB r) = B (bytesW (R i ++ [r])) := fun i => by
    rw [B_app, bytes_append]
    simp [bytesW]
  by_cases e : R W.op = []
  · have eb : bdy W W.op = ⟨#[]⟩ := (h.empty _).2 e
    have eg : goesW W (B (prB r)).size = (W.op, ⟨#[]⟩) := by
      unfold goesW
      rw [if_neg (fun x => x.1 eb), eb]
    unfold appW
    rw [eg]
    by_cases hr : W.low + W.n ≤ W.op
    · left
      refine ⟨if_pos ⟨rfl, hr⟩, ?_⟩
      unfold nxW
      rw [if_pos eb]; exact hr
    · right
      refine ⟨W.op, ⟨.inl rfl, by rw [e]; show 0 + _ ≤ 112; omega, fun _ => by omega⟩, ?_⟩
      rw [if_neg (fun x => hr x.2)]
      unfold putW
      rw [← hb, e]
      rfl
  · have eb : ¬ bdy W W.op = ⟨#[]⟩ := fun x => e ((h.empty _).1 x)
    have en : nxW W = W.op + 1 := if_neg eb
    by_cases hf : 112 < (bdy W W.op).size + (B (prB r)).size
    · have eg : goesW W (B (prB r)).size = (W.op + 1, ⟨#[]⟩) := by
        unfold goesW
        rw [if_pos ⟨eb, hf⟩]
      have e1 : R (W.op + 1) = [] := h.hi _ (by omega)
      unfold appW
      rw [eg]
      by_cases hr : W.low + W.n ≤ W.op + 1
      · left
        exact ⟨if_pos ⟨rfl, hr⟩, by omega⟩
      · right
        refine ⟨W.op + 1, ⟨.inr ⟨rfl, e⟩, by rw [e1]; show 0 + _ ≤ 112; omega, fun _ => by omega⟩, ?_⟩
        rw [if_neg (fun x => hr x.2)]
        unfold putW
        rw [← hb, e1]
        rfl
    · have eg : goesW W (B (prB r)).size = (W.op, bdy W W.op) := by
        unfold goesW
        rw [if_neg (fun x => hf x.2)]
      right
      unfold appW
      rw [eg]
      refine ⟨W.op, ⟨.inl rfl, by rw [h.size, B_size] at hf; omega, fun x => absurd x e⟩, ?_⟩
      rw [if_neg (fun x => eb x.1)]
      unfold putW
      rw [← hb, h.body, B_size]
theorem Goes.ge {r : Rc_} {i : Int} (g : Goes W R r i) : W.op ≤ i := by rcases g.sec with e | ⟨e, _⟩ <;> omega
theorem put_rows (h : Rows W R) {r : Rc_} (hm : mayB r = true) {i : Int} (g : Goes W R r i) : Rows (putW W R r i) (putR R i r) := by
  have hge := g.ge
  have ho := h.ord
  refine ⟨fun j => ?_, fun j x hx => ?_, fun j hj => ?_, fun j hj => ?_, fun j h1 h2 => ?_, fun j => ?_, ?_⟩
  · show (fill W.f i (B (bytesW (R i ++ [r]))) j).getD _ = _
    unfold fill putR
    by_cases e : j = i
    · rw [if_pos e, if_pos e]; rfl
    · rw [if_neg e, if_neg e]; exact h.body j
  · unfold putR at hx
    by_cases e : j = i
    · rw [if_pos e] at hx
      rcases List.mem_append.1 hx with hx | hx
      · exact h.may i x hx
      · rw [List.mem_singleton.1 hx]; exact hm
    · rw [if_neg e] at hx; exact h.may j x hx
  · have hj : j < W.low := hj
    rw [putR_off R r (by omega)]
    exact h.lo j hj
  · have hj : i < j := hj
    rw [putR_off R r (by omega)]
    exact h.hi j (by omega)
  · have h1 : W.low ≤ j := h1
    have h2 : j < i := h2
    rw [putR_off R r (by omega)]
    by_cases e : j < W.op
    · exact h.full j h1 e
    · rcases g.sec with e2 | ⟨e2, e3⟩
      · omega
      · rw [show j = W.op by omega]; exact e3
  · unfold putR
    by_cases e : j = i
    · rw [if_pos e, bytes_append, List.length_append, bytesW, bytesW, List.append_nil]
      exact g.fits
    · rw [if_neg e]; exact h.len j
  · show 0 ≤ W.low ∧ W.low ≤ W.first ∧ W.first ≤ i
    omega
theorem put_all (h : Rows W R) {r : Rc_} (hm : mayB r = true) {i : Int} (g : Goes W R r i) : allR (putW W R r i) (putR R i r) = allR W R ++ [⟨i * 128 + (bytesW (R i)).length, r⟩] := by
  have hge := g.ge
  have ho := h.ord
  have e1 : allR (putW W R r i) (putR R i r) = allK (putR R i r) W.low ((i - W.low).toNat + 1) := by
    show allK _ W.low (i + 1 - W.low).toNat = _
    rw [show (i + 1 - W.low).toNat = (i - W.low).toNat + 1 by omega]
  have e2 : allK R W.low ((i - W.low).toNat + 1) = allR W R := by
    rcases g.sec with e | ⟨e, e3⟩
    · unfold allR
      rw [show (W.op + 1 - W.low).toNat = (i - W.low).toNat + 1 by omega]
    · rw [allK_succ, show W.low + (((i - W.low).toNat : Nat) : Int) = i by omega]
      have : secE R i = [] := by unfold secE; rw [h.hi i (by omega)]; rfl
      rw [this, List.append_nil]
      unfold allR
      rw [show (W.op + 1 - W.low).toNat = (i - W.low).toNat by omega]
  rw [e1, ← e2, allK_succ, allK_succ, show W.low + (((i - W.low).toNat : Nat) : Int) = i by omega, secE_put R i hm, allK_put R W.low i r _ (by omega), List.append_assoc]
theorem put_nx (h : Rows W R) {r : Rc_} (hm : mayB r = true) {i : Int} (g : Goes W R r i) : nxW (putW W R r i) = i + 1 ∧ nxW W ≤ i + 1 ∧ i ≤ nxW W ∧ W.op ≤ i := by
  have h1 := put_rows h hm g
  have h2 : ¬ bdy (putW W R r i) i = ⟨#[]⟩ := fun e => by
    have := (h1.empty i).1 e
    rw [putR_at] at this
    simp at this
  refine ⟨if_neg h2, ?_, ?_, g.ge⟩
  · have := g.ge
    unfold nxW
    split <;> omega
  · rcases g.sec with e | ⟨e, e3⟩
    · unfold nxW; split <;> omega
    · have : ¬ bdy W W.op = ⟨#[]⟩ := fun x => e3 ((h.empty _).1 x)
      unfold nxW; rw [if_neg this]; omega
theorem sctr_at {i : Int} {k : Nat} (hi : 0 ≤ i) (hk : k < 128) : sctr (i * 128 + (k : Int)) = i := by
  unfold sctr
  rw [Int.tdiv_eq_ediv_of_nonneg (by omega)]
  omega
theorem put_find (h : Rows W R) {r : Rc_} (hm : mayB r = true) {i : Int} (g : Goes W R r i) : findW (putW W R r i) (i * 128 + (bytesW (R i)).length) = some ⟨i * 128 + (bytesW (R i)).length, r⟩ := by
  have hge := g.ge
  have ho := h.ord
  have hl := h.len i
  unfold findW
  rw [if_pos (by omega), sctr_at (by omega) (by omega), (put_rows h hm g).ent, secE_put R i hm, List.find?_append]
  have : (secE R i).find? (fun x => x.f0 == i * 128 + (bytesW (R i)).length) = none := by
    rw [List.find?_eq_none]
    intro x hx
    have := (secE_at R i x hx).2
    simp only [beq_iff_eq]
    omega
  rw [this]
  simp
end Go.Proofs.Ytbnglmeljbiglaa.Wl
set_option maxRecDepth 8192
namespace Go.Proofs.Ytbnglmeljbiglaa.Wl
open Go.Proofs.Ytbnglmeljbiglaa.X4 Go.Proofs.Ytbnglmeljbiglaa.Pt Go.Proofs.Ytbnglmeljbiglaa.Ptb Go.Proofs.Ytbnglmeljbiglaa.Rp Go.Proofs.Ytbnglmeljbiglaa.Cr Go Go.RowKit Go.ChangeMaps Go.Proofs.Ytbnglmeljbiglaa.Arr Go.Proofs.Ytbnglmeljbiglaa.Mp Go.Proofs.Ytbnglmeljbiglaa.Ow Go.Proofs.Ytbnglmeljbiglaa.Dk Go.Proofs.Ytbnglmeljbiglaa.Fr Go.Proofs.YtbnglmeljbiglaaW.PrintWords
set_option linter.unusedVariables false
set_option linter.unusedSimpArgs false
def secB (e i : Int) (b : ByteArray) : ByteArray := (X12.packI e i b).1
theorem secB_size {e i : Int} {b : ByteArray} (he : 0 ≤ e ∧ e < 4294967296) (hi : 0 ≤ i ∧ i < 4294967296) (hb : b.size ≤ 112) : (secB e i b).size = 128 := by
  unfold secB
  rw [← X12.bl_len, (X12.packI_bl e i b he hi hb).1, Slab.secL_len _ _ _ (by rw [X12.bl_len]; exact hb)]
theorem secB_un {e i : Int} {b : ByteArray} (he : 0 ≤ e ∧ e < 4294967296) (hi : 0 ≤ i ∧ i < 4294967296) (hb : b.size ≤ 112) : X12.unpackF (secB e i b) = (e, i, b, 0) := X12.unpack_pack e i b he hi hb
def valS (s : ByteArray) : Prop := (X12.unpackF s).2.2.2 = 0
abbrev epS (s : ByteArray) : Int := (X12.unpackF s).1
theorem not_val : ¬ valS (noughts 128) := by unfold valS; decide +kernel
theorem secB_val {e i : Int} {b : ByteArray} (he : 0 ≤ e ∧ e < 4294967296) (hi : 0 ≤ i ∧ i < 4294967296) (hb : b.size ≤ 112) : valS (secB e i b) ∧ epS (secB e i b) = e := by
  unfold valS epS
  rw [secB_un he hi hb]
  exact ⟨rfl, rfl⟩
/-- What a sector says as the log's i-th one. -/
def whole1 (s : ByteArray) (i : Int) : Option (Int × ByteArray) := if (X12.unpackF s).2.2.2 = 0 ∧ (X12.unpackF s).2.1 = i ∧ (X12.unpackF s).2.2.1 ≠ ⟨#[]⟩ ∧ allE (X12.unpackF s).2.2.1 = 0 then some ((X12.unpackF s).1, (X12.unpackF s).2.2.1) else none
theorem whole1_val {s : ByteArray} {i : Int} {q : Int × ByteArray} (h : whole1 s i = some q) : valS s ∧ q.1 = epS s := by
  unfold whole1 at h
  split at h
  · rename_i c
    injection h with h
    subst h
    exact ⟨c.1, rfl⟩
  · cases h
theorem whole1_not {s : ByteArray} (i : Int) (h : ¬ valS s) : whole1 s i = none := by
  cases e : whole1 s i with
  | none => rfl
  | some q => exact absurd (whole1_val e).1 h
/-- It is refused behind an epoch. -/
def Ref (last : Int) (o : Option (Int × ByteArray)) : Prop := ∀ q, o = some q → q.1 < last
theorem ref_none (last : Int) : Ref last none := fun q h => by cases h
/-- The epoch ahead of a sector. -/
def lastE (e : Int → Int) (k : Int) : Int := if k = 1 then 0 else e (k - 1)
theorem tmod_small {i n : Int} (h0 : 0 ≤ i) (h1 : i < n) : i.tmod n = i := Int.tmod_eq_of_lt h0 h1
theorem tmod_in {i n : Int} (h0 : 0 ≤ i) (hn : 0 < n) : 0 ≤ i.tmod n ∧ i.tmod n < n := by
  rw [Int.tmod_eq_emod_of_nonneg h0]
  exact ⟨Int.emod_nonneg _ (by omega), Int.emod_lt_of_pos _ hn⟩
/-- What the disk has of a log: S is what is safe, e the sectors' epochs. -/
structure Keep (W : WS) (R : Int → List Rc_) (S : List ByteArray) (e : Int → Int) : Prop where
  rows : Rows W R
  low : W.low = 1
  n : 8 ≤ W.n ∧ W.n ≤ 64
  base : 0 ≤ W.base ∧ W.base + W.n ≤ S.length
  nx : nxW W ≤ W.n + 1
  ep : 1 ≤ W.ep
  safe : ∀ i, 1 ≤ i → i < W.first → cut S (placeW W i) = secB (e i) i (B (bytesW (R i)))
  eps : ∀ i, 1 ≤ i → i < W.first → 1 ≤ e i ∧ e i ≤ W.ep
  mono : ∀ i, 1 ≤ i → i + 1 < W.first → e i ≤ e (i + 1)
  stale : ∀ i, W.first ≤ i → i ≤ W.n → valS (cut S (placeW W i)) → epS (cut S (placeW W i)) < W.ep
  stop : W.first ≤ W.n → Ref (lastE e W.first) (whole1 (cut S (placeW W W.first)) W.first)
theorem cut_rep (L : Nat) (s : ByteArray) (p : Int) (h0 : 0 ≤ p) (h1 : p < L) : cut (List.replicate L s) p = s := by
  unfold cut
  rw [List.getElem?_replicate, if_pos (by omega)]
  rfl
theorem keep_new {L : Nat} {base n : Int} (hn : 8 ≤ n ∧ n ≤ 64) (hb : 0 ≤ base ∧ base + n ≤ L) : Keep (newW base n) (fun _ => []) (newD L).safe (fun _ => 0) := by
  have hc : ∀ i, 0 ≤ i → cut (newD L).safe (placeW (newW base n) i) = noughts 128 := fun i hi => by
    have := tmod_in hi (show 0 < n by omega)
    refine cut_rep L _ _ ?_ ?_
    · show 0 ≤ base + i.tmod n; omega
    · show base + i.tmod n < L; omega
  refine ⟨rows_new base n, rfl, hn, ⟨hb.1, ?_⟩, ?_, ?_, fun i h1 h2 => ?_, fun i h1 h2 => ?_, fun i h1 h2 => Int.le_refl _, fun i h1 h2 hv => ?_, fun h1 => ?_⟩
  · show base + n ≤ ((List.replicate L (noughts 128)).length : Int)
    rw [List.length_replicate]; exact hb.2
  · show nxW (newW base n) ≤ n + 1
    have : nxW (newW base n) = 1 := rfl
    omega
  · show (1 : Int) ≤ 1; omega
  · have h2 : i < (1 : Int) := h2
    omega
  · have h2 : i < (1 : Int) := h2
    omega
  · have h1 : (1 : Int) ≤ i := h1
    rw [hc i (by omega)] at hv
    exact absurd hv not_val
  · rw [hc _ (by show (0 : Int) ≤ 1; omega), whole1_not _ not_val]
    exact ref_none _
variable {W : WS} {R : Int → List Rc_} {S : List ByteArray} {e : Int → Int} {d : DS}
theorem Keep.pl (h : Keep W R S e) {i : Int} (hi : 0 ≤ i) : 0 ≤ placeW W i ∧ placeW W i < S.length := by
  have := tmod_in hi (show 0 < W.n by have := h.n; omega)
  have := h.base
  unfold placeW
  omega
theorem Keep.op_le (h : Keep W R S e) : W.op ≤ nxW W ∧ nxW W ≤ W.op + 1 := by unfold nxW; split <;> omega
theorem Keep.inj (h : Keep W R S e) {i j : Int} (i1 : 1 ≤ i) (i2 : i ≤ W.n) (j1 : 1 ≤ j) (j2 : j ≤ W.n) (hp : placeW W i = placeW W j) : i = j := by
  unfold placeW at hp
  by_cases a : i = W.n
  · by_cases b : j = W.n
    · omega
    · rw [a, Int.tmod_self, tmod_small (by omega) (by omega)] at hp; omega
  · by_cases b : j = W.n
    · rw [b, Int.tmod_self, tmod_small (i := i) (by omega) (by omega)] at hp; omega
    · rw [tmod_small (i := i) (by omega) (by omega), tmod_small (i := j) (by omega) (by omega)] at hp; omega
theorem keep_put (h : Keep W R S e) {r : Rc_} (hm : mayB r = true) {i : Int} (g : Goes W R r i) : Keep (putW W R r i) (putR R i r) S e := by
  have hge := g.ge
  have ho := h.rows.ord
  have hnx := put_nx h.rows hm g
  refine ⟨put_rows h.rows hm g, h.low, h.n, h.base, ?_, h.ep, fun j h1 h2 => ?_, h.eps, h.mono, h.stale, h.stop⟩
  · rw [hnx.1]
    show i + 1 ≤ W.n + 1
    by_cases e1 : R i = []
    · have := g.room e1
      have := h.low
      omega
    · have e2 : i = W.op := by
        rcases g.sec with x | ⟨x, _⟩
        · exact x
        · exact absurd (h.rows.hi i (by omega)) e1
      have : nxW W = W.op + 1 := by
        unfold nxW
        rw [if_neg (fun x => e1 (e2 ▸ (h.rows.empty _).1 x))]
      have := h.nx
      omega
  · have h2 : j < W.first := h2
    rw [putR_off R r (by omega)]
    exact h.safe j h1 h2
/-- The writes of a Flush. -/
def wrL (W : WS) (k : Nat) : WL := (List.range k).map fun (q : Nat) => (placeW W (W.first + q), secW W (W.first + q))
theorem wrL_succ (W : WS) (k : Nat) : wrL W (k + 1) = wrL W k ++ [(placeW W (W.first + k), secW W (W.first + k))] := by
  unfold wrL
  rw [List.range_succ, List.map_append]
  rfl
theorem wrL_mono (W : WS) {a b : Nat} (h : a ≤ b) : ∀ q ∈ wrL W a, q ∈ wrL W b := by
  intro q hq
  obtain ⟨k, hk, rfl⟩ := List.mem_map.1 hq
  exact List.mem_map.2 ⟨k, List.mem_range.2 (by have := List.mem_range.1 hk; omega), rfl⟩
theorem Keep.sec (h : Keep W R S e) (i : Int) : secW W i = secB W.ep i (B (bytesW (R i))) := by
  unfold secW secB
  rw [h.rows.body]
theorem flushL_keep (h : Keep W R S e) (hep : W.ep < 4294967296) : ∀ (k q : Nat) (d : DS), Mid S (wrL W q) d → W.first + q + k = W.op + 1 → W.first + q ≤ nxW W →
    (flushL W k (W.first + q) d).1 = 0 ∧ (flushL W k (W.first + q) d).2.1 = nxW W ∧ Mid S (wrL W (nxW W - W.first).toNat) (flushL W k (W.first + q) d).2.2 ∧ (d.fuse = -1 → (flushL W k (W.first + q) d).2.2.fuse = -1)
    ∨ (flushL W k (W.first + q) d).1 = 4 ∧ Ded S (wrL W (nxW W - W.first).toNat) (flushL W k (W.first + q) d).2.2 ∧ d.fuse ≠ -1 := by
  intro k
  have ho := h.rows.ord
  have hol := h.op_le
  have hlow := h.low
  have hnn := h.n
  have hnx := h.nx
  have hep1 := h.ep
  induction k with
  | zero =>
    intro q d hm hk hq
    unfold flushL
    left
    have e1 : nxW W = W.first + q := by omega
    refine ⟨rfl, e1.symm, ?_, fun x => x⟩
    rw [show (nxW W - W.first).toNat = q by omega]
    exact hm
  | succ k ih =>
    intro q d hm hk hq
    unfold flushL
    by_cases hb : W.first + q ≤ W.op ∧ bdy W (W.first + q) ≠ ⟨#[]⟩
    · have hb1 := hb.1
      have hlt : W.first + q < nxW W := by
        by_cases x : W.first + (q : Int) = W.op
        · have : ¬ bdy W W.op = ⟨#[]⟩ := fun y => hb.2 (by rw [x]; exact y)
          have : nxW W = W.op + 1 := if_neg this
          omega
        · omega
      have hpl := h.pl (i := W.first + q) (by omega)
      have hsz : (secW W (W.first + q)).size = 128 := by
        rw [h.sec]
        exact secB_size (by omega) (by omega) (by rw [B_size]; exact h.rows.len _)
      rw [if_pos hb]
      rcases mid_write hm hpl.1 hpl.2 hsz with ⟨e1, m1⟩ | ⟨e1, m1⟩
      · rw [if_neg (by rw [e1]; decide)]
        rw [← wrL_succ] at m1
        have := ih (q + 1) _ m1 (by push_cast; omega) (by push_cast; omega)
        rw [show W.first + ((q + 1 : Nat) : Int) = W.first + q + 1 by push_cast; omega] at this
        rcases this with ⟨a1, a2, a3, a4⟩ | ⟨a1, a2, a3⟩
        · exact .inl ⟨a1, a2, a3, fun x => a4 ((free_write hm.2.2 x _ _).2.2)⟩
        · exact .inr ⟨a1, a2, fun x => a3 ((free_write hm.2.2 x _ _).2.2)⟩
      · rw [if_pos (by rw [e1]; decide)]
        exact .inr ⟨e1, m1.mono (wrL_mono W (by omega)), fun x => (free_write hm.2.2 x _ _).1 e1⟩
    · rw [if_neg hb]
      have hz : bdy W (W.first + q) = ⟨#[]⟩ := by
        by_cases z : bdy W (W.first + q) = ⟨#[]⟩
        · exact z
        · exact absurd ⟨by omega, z⟩ hb
      have e1 : W.first + (q : Int) = W.op := by
        by_cases x : W.first + (q : Int) = W.op
        · exact x
        · exact absurd ((h.rows.empty _).1 hz) (h.rows.full _ (by omega) (by omega))
      have e2 : nxW W = W.op := if_pos (by rw [← e1]; exact hz)
      left
      refine ⟨rfl, by show W.first + (q : Int) = nxW W; omega, ?_, fun x => x⟩
      rw [show (nxW W - W.first).toNat = q by omega]
      exact hm
theorem last_wr (h : Keep W R S e) : ∀ k : Nat, W.first + k ≤ W.n + 1 → ∀ i, 1 ≤ i → i ≤ W.n → lastOf (wrL W k) (placeW W i) = if W.first ≤ i ∧ i < W.first + k then some (secW W i) else none := by
  intro k
  have ho := h.rows.ord
  have hlow := h.low
  induction k with
  | zero => intro _ i _ _; rw [if_neg (by omega)]; rfl
  | succ k ih =>
    intro hk i h1 h2
    rw [wrL_succ, last_push]
    simp only []
    by_cases x : i = W.first + k
    · rw [if_pos (by rw [x]), if_pos (by push_cast; omega), x]
    · rw [if_neg (fun y => x (h.inj h1 h2 (by omega) (by push_cast at hk; omega) y)), ih (by push_cast at hk; omega) i h1 h2]
      by_cases y : W.first ≤ i ∧ i < W.first + k
      · rw [if_pos y, if_pos (by push_cast; omega)]
      · rw [if_neg y, if_neg (by push_cast; omega)]
/-- The epochs behind a Flush. -/
def eN (W : WS) (e : Int → Int) : Int → Int := fun i => if i < W.first then e i else W.ep
theorem lastE_first (W : WS) (e : Int → Int) : lastE (eN W e) W.first = lastE e W.first := by
  unfold lastE eN
  split
  · rfl
  · rw [if_pos (by omega)]
theorem lastE_past (W : WS) (e : Int → Int) {k : Int} (h1 : 1 ≤ W.first) (h : W.first < k) : lastE (eN W e) k = W.ep := by
  unfold lastE eN
  rw [if_neg (by omega), if_neg (by omega)]
/-- The log behind a Flush. -/
def doneW (W : WS) : WS := { W with first := nxW W, op := nxW W }
theorem done_rows (h : Rows W R) : Rows (doneW W) R ∧ nxW (doneW W) = nxW W := by
  have ho := h.ord
  have hol : W.op ≤ nxW W ∧ nxW W ≤ W.op + 1 := by unfold nxW; split <;> omega
  have hz : bdy W (nxW W) = ⟨#[]⟩ := by
    by_cases z : bdy W W.op = ⟨#[]⟩
    · have : nxW W = W.op := if_pos z
      rw [this]; exact z
    · have : nxW W = W.op + 1 := if_neg z
      rw [this, h.empty, h.hi _ (by omega)]
  refine ⟨⟨h.body, h.may, h.lo, fun i hi => h.hi i (by have hi : nxW W < i := hi; omega), fun i h1 h2 => ?_, h.len, ?_⟩, if_pos hz⟩
  · have h2 : i < nxW W := h2
    by_cases x : i < W.op
    · exact h.full i h1 x
    · have e1 : i = W.op := by omega
      have e2 : ¬ bdy W W.op = ⟨#[]⟩ := fun z => by
        have : nxW W = W.op := if_pos z
        omega
      rw [e1]
      exact fun z => e2 ((h.empty _).2 z)
  · show 0 ≤ W.low ∧ W.low ≤ nxW W ∧ nxW W ≤ nxW W
    omega
/-- The row that is safe behind a Flush. -/
def newS (W : WS) (S : List ByteArray) : List ByteArray := overF (lastOf (wrL W (nxW W - W.first).toNat)) S
theorem newS_cut (h : Keep W R S e) {i : Int} (h1 : 1 ≤ i) (h2 : i ≤ W.n) : cut (newS W S) (placeW W i) = if W.first ≤ i ∧ i < nxW W then secW W i else cut S (placeW W i) := by
  have hp := h.pl (i := i) (by omega)
  have ho := h.rows.ord
  have hol := h.op_le
  have hnx := h.nx
  unfold newS
  rw [cut_over _ _ _ hp.1 hp.2, last_wr h _ (by omega) i h1 h2]
  by_cases x : W.first ≤ i ∧ i < nxW W
  · rw [if_pos (by omega), if_pos x]; rfl
  · rw [if_neg (by omega), if_neg x]; rfl
theorem ref_past (h : Keep W R S e) {k : Int} (h1 : W.first < k) (h2 : k ≤ W.n) {s : ByteArray} (hs : s = cut S (placeW W k)) : Ref (lastE (eN W e) k) (whole1 s k) := by
  have ho := h.rows.ord
  have hlow := h.low
  subst hs
  rw [lastE_past W e (by omega) h1]
  intro q hq
  obtain ⟨v1, v2⟩ := whole1_val hq
  rw [v2]
  exact h.stale k (by omega) h2 v1
theorem eN_mono (h : Keep W R S e) {i : Int} (h1 : 1 ≤ i) : eN W e i ≤ eN W e (i + 1) := by
  unfold eN
  by_cases x : i + 1 < W.first
  · rw [if_pos (by omega), if_pos x]; exact h.mono i h1 x
  · rw [if_neg x]
    by_cases y : i < W.first
    · rw [if_pos y]; exact (h.eps i h1 y).2
    · rw [if_neg y]; exact Int.le_refl _
theorem eN_in (h : Keep W R S e) {i : Int} (h1 : 1 ≤ i) : 1 ≤ eN W e i ∧ eN W e i ≤ W.ep := by
  unfold eN
  split
  · exact h.eps i h1 (by assumption)
  · exact ⟨h.ep, Int.le_refl _⟩
theorem keep_done (h : Keep W R S e) : Keep (doneW W) R (newS W S) (eN W e) := by
  have ho := h.rows.ord
  have hol := h.op_le
  have hlow := h.low
  have hnx := h.nx
  obtain ⟨r1, r2⟩ := done_rows h.rows
  have hc : ∀ i, 1 ≤ i → i ≤ W.n → cut (newS W S) (placeW (doneW W) i) = if W.first ≤ i ∧ i < nxW W then secW W i else cut S (placeW W i) := fun i a b => newS_cut h a b
  refine ⟨r1, hlow, h.n, ⟨h.base.1, ?_⟩, by rw [r2]; exact hnx, h.ep, fun i h1 h2 => ?_, fun i h1 h2 => ?_, fun i h1 h2 => eN_mono h h1, fun i h1 h2 hv => ?_, fun h1 => ?_⟩
  · show W.base + W.n ≤ ((newS W S).length : Int)
    unfold newS; rw [over_len]; exact h.base.2
  · have h2 : i < nxW W := h2
    rw [hc i h1 (by omega)]
    unfold eN
    by_cases x : i < W.first
    · rw [if_neg (by omega), if_pos x]; exact h.safe i h1 x
    · rw [if_pos (by omega), if_neg x, h.sec]
  · exact eN_in h h1
  · have h1 : nxW W ≤ i := h1
    have h2 : i ≤ W.n := h2
    rw [hc i (by omega) h2, if_neg (by omega)] at hv ⊢
    exact h.stale i (by omega) h2 hv
  · have h1 : nxW W ≤ W.n := h1
    show Ref (lastE (eN W e) (nxW W)) (whole1 (cut (newS W S) (placeW (doneW W) (nxW W))) (nxW W))
    rw [hc _ (by omega) h1, if_neg (by omega)]
    by_cases x : nxW W = W.first
    · rw [x, lastE_first]; exact h.stop (by omega)
    · exact ref_past h (by omega) h1 rfl
theorem done_same (h : Rows W R) (hn : nxW W = W.first) : doneW W = W := by
  have ho := h.ord
  have hol : W.op ≤ nxW W ∧ nxW W ≤ W.op + 1 := by unfold nxW; split <;> omega
  have e1 : W.op = W.first := by omega
  unfold doneW
  rw [hn]
  cases W with
  | mk a b c d e f g =>
    have e2 : e = d := e1
    subst e2
    rfl
theorem newS_same (W : WS) (S : List ByteArray) (hn : nxW W = W.first) : newS W S = S := by
  unfold newS
  rw [hn, Int.sub_self]
  show overF (lastOf []) S = S
  rw [last_nil, over_none]
/-- What a Flush does: all is safe, or the power goes. -/
theorem flush_keep (h : Keep W R S e) (hep : W.ep < 4294967296) (hm : Mid S [] d) :
    ((flushW W d).1 = 0 ∧ (flushW W d).2.1 = doneW W ∧ Mid (newS W S) [] (flushW W d).2.2 ∧ (d.fuse = -1 → (flushW W d).2.2.fuse = -1))
    ∨ ((flushW W d).1 = 4 ∧ (flushW W d).2.1 = W ∧ Ded S (wrL W (nxW W - W.first).toNat) (flushW W d).2.2 ∧ d.fuse ≠ -1) := by
  have ho := h.rows.ord
  have hol := h.op_le
  have hl := flushL_keep h hep (W.op + 1 - W.first).toNat 0 d hm (by omega) (by omega)
  rw [show W.first + ((0 : Nat) : Int) = W.first by omega] at hl
  unfold flushW
  unfold flushR
  generalize flushL W (W.op + 1 - W.first).toNat W.first d = x at *
  rcases hl with ⟨a1, a2, a3, a4⟩ | ⟨a1, a2, a3⟩
  · rw [if_neg (by rw [a1]; decide), a2]
    by_cases y : nxW W = W.first
    · rw [if_pos y, done_same h.rows y, newS_same W S y]
      left
      rw [y, Int.sub_self] at a3
      exact ⟨rfl, rfl, a3, a4⟩
    · rw [if_neg y]
      rcases mid_sync a3 with ⟨e1, m1⟩ | ⟨e1, m1⟩
      · rw [if_neg (by rw [e1]; decide)]
        exact .inl ⟨rfl, rfl, m1, fun z => (free_sync a3.2.2 (a4 z)).2.2⟩
      · rw [if_pos (by rw [e1]; decide)]
        refine .inr ⟨e1, rfl, m1, fun z => ?_⟩
        have := (free_sync a3.2.2 (a4 z)).1
        omega
  · rw [if_pos (by rw [a1]; decide)]
    exact .inr ⟨a1, rfl, a2, a3⟩
end Go.Proofs.Ytbnglmeljbiglaa.Wl
set_option maxRecDepth 8192
namespace Go.Proofs.Ytbnglmeljbiglaa.Wl
open Go.Proofs.Ytbnglmeljbiglaa.X4 Go.Proofs.Ytbnglmeljbiglaa.Pt Go.Proofs.Ytbnglmeljbiglaa.Ptb Go.Proofs.Ytbnglmeljbiglaa.Rp Go.Proofs.Ytbnglmeljbiglaa.Cr Go Go.RowKit Go.ChangeMaps Go.Proofs.Ytbnglmeljbiglaa.Arr Go.Proofs.Ytbnglmeljbiglaa.Mp Go.Proofs.Ytbnglmeljbiglaa.Ow Go.Proofs.Ytbnglmeljbiglaa.Dk Go.Proofs.Ytbnglmeljbiglaa.Fr Go.Proofs.YtbnglmeljbiglaaW.PrintWords
set_option linter.unusedVariables false
set_option linter.unusedSimpArgs false
/-- A quiet disk, whose sectors below k say the records. -/
structure Said (base n : Int) (R : Int → List Rc_) (T : List ByteArray) (e : Int → Int) (k : Int) : Prop where
  hn : 8 ≤ n ∧ n ≤ 64
  hb : 0 ≤ base ∧ base + n ≤ T.length
  hk : 1 ≤ k ∧ k ≤ n + 1
  sec : ∀ j, 1 ≤ j → j < k → cut T (base + j.tmod n) = secB (e j) j (B (bytesW (R j)))
  rows : ∀ j, 1 ≤ j → j < k → R j ≠ [] ∧ (∀ r ∈ R j, mayB r = true)
  len : ∀ j, (bytesW (R j)).length ≤ 112
  eps : ∀ j, 1 ≤ j → j < k → 1 ≤ e j ∧ e j < 4294967296
  mono : ∀ j, 1 ≤ j → j + 1 < k → e j ≤ e (j + 1)
  stop : k ≤ n → Ref (lastE e k) (whole1 (cut T (base + k.tmod n)) k)
section
variable {base n k : Int} {R : Int → List Rc_} {T : List ByteArray} {e : Int → Int} {d : DS}
theorem Said.pl (h : Said base n R T e k) {i : Int} (hi : 0 ≤ i) : 0 ≤ base + i.tmod n ∧ base + i.tmod n < T.length := by
  have := tmod_in hi (show 0 < n by have := h.hn; omega)
  have := h.hb
  omega
end
variable {W : WS} {R : Int → List Rc_} {S T : List ByteArray} {e : Int → Int} {d : DS}
/-- All sectors of a log have epochs that are no greater than its own. -/
theorem Keep.all_le (h : Keep W R S e) (hep : W.ep < 4294967296) {i : Int} (h1 : 1 ≤ i) (h2 : i ≤ W.n) (hv : valS (cut S (placeW W i))) : epS (cut S (placeW W i)) ≤ W.ep := by
  have hn := h.n
  by_cases x : i < W.first
  · have a := h.eps i h1 x
    rw [h.safe i h1 x, (secB_val (by omega) (by omega) (by rw [B_size]; exact h.rows.len i)).2]
    exact a.2
  · exact Int.le_of_lt (h.stale i (by omega) h2 hv)
/-- All records up to the next sector. -/
theorem allR_nx (h : Rows W R) (hl : W.low = 1) : allR W R = allK R 1 (nxW W - 1).toNat := by
  have ho := h.ord
  unfold allR
  rw [hl]
  by_cases x : bdy W W.op = ⟨#[]⟩
  · have e1 : nxW W = W.op := if_pos x
    rw [show (W.op + 1 - 1).toNat = (nxW W - 1).toNat + 1 by omega, allK_succ, show (1 : Int) + (((nxW W - 1).toNat : Nat) : Int) = W.op by omega]
    have : secE R W.op = [] := by unfold secE; rw [(h.empty _).1 x]; rfl
    rw [this, List.append_nil]
  · have e1 : nxW W = W.op + 1 := if_neg x
    rw [show (W.op + 1 - 1).toNat = (nxW W - 1).toNat by omega]
end Go.Proofs.Ytbnglmeljbiglaa.Wl
set_option maxRecDepth 8192
namespace Go.Proofs.Ytbnglmeljbiglaa.Wl
open Go.Proofs.Ytbnglmeljbiglaa.X4 Go.Proofs.Ytbnglmeljbiglaa.Pt Go.Proofs.Ytbnglmeljbiglaa.Ptb Go.Proofs.Ytbnglmeljbiglaa.Rp Go Go.RowKit Go.ChangeMaps Go.Proofs.Ytbnglmeljbiglaa.Arr Go.Proofs.Ytbnglmeljbiglaa.Mp Go.Proofs.Ytbnglmeljbiglaa.Ow Go.Proofs.Ytbnglmeljbiglaa.Dk Go.Proofs.Ytbnglmeljbiglaa.Fr Go.Proofs.YtbnglmeljbiglaaW.PrintWords Go.Proofs.YtbnglmeljbiglaaW.PrintLast Go.Proofs.YtbnglmeljbiglaaW.PrintMore
set_option linter.unusedVariables false
set_option linter.unusedSimpArgs false
theorem newdisk (L : Nat) (h1 : 1 ≤ L) (h2 : L ≤ 512) (w : World) (c : Nat → Nat) : Calls Try.prog 11 #[.int .i64 (L : Int)] w fun e w' => ∃ g, e = .returned (.tuple #[.pointer (some ⟨g, 0, none⟩), .int .i64 0]) ∧ DK w' (Col (Dk.paint c w.heap.size 1) 1) g (newD L) ∧ Fr [] w c w' (Dk.paint c w.heap.size 1) := by
  refine (new_calls L (by omega) (by omega) w).mono ?_
  rintro e w' ⟨g, hg, rfl, hk, hb⟩
  exact ⟨g, rfl, hk.fresh c 1, Fr.of_paint hb 1⟩
theorem crash_o {w : World} {c : Nat → Nat} {g : Nat} {d : DS} (h : DK w (Col c 1) g d) (ho : OkD d) {A : Option Addr} {m cp : Nat} {p : Nat → Nat} (hp : ∀ c', (∀ k, k < w.heap.size → c' k = c k) → Pk w (Col c' 1) A m p) (hb : ∀ i, p i < 256) : Calls Try.prog 18 #[.pointer (some ⟨g, 0, none⟩), .slice A m cp] w fun x w' => x = .returned (.tuple #[]) ∧ ∃ c', Fr [1] w c w' c' ∧ DK w' (Col c' 1) g (crashD m p d) := by
  refine (crash_calls d g A m cp p (Col (Dk.paint c w.heap.size 1) 1) w (top_paint c w 1) (h.mono fun k hk e => (paint_old hk).trans e) ho (hp _ fun k hk => paint_old hk) hb).mono ?_
  rintro x w' ⟨rfl, hk, hf⟩
  exact ⟨rfl, _, fr_disk hf, hk⟩
theorem scanW_bd (d : DS) (base n : Int) : ∀ (k : Nat) (i last : Int) (f : Int → Option ByteArray), (∀ j, ((f j).getD ⟨#[]⟩).size ≤ 112) → ∀ j, (((scanW d base n k i last f).2 j).getD ⟨#[]⟩).size ≤ 112 := by
  intro k
  induction k with
  | zero => intro i last f h j; exact h j
  | succ k ih =>
    intro i last f h j
    unfold scanW
    cases hw : wholeF d (base + i.tmod n) i with
    | none => exact h j
    | some q =>
      simp only []
      split
      · exact h j
      · refine ih _ _ _ (fun j' => ?_) j
        split
        · unfold wholeF at hw
          split at hw
          · cases hw
          · split at hw
            · injection hw with hw; subst hw; exact body_le _
            · cases hw
        · exact h j'
theorem open_bd (d : DS) (base n low : Int) (i : Int) : (bdy (openW d base n low) i).size ≤ 112 := scanW_bd d base n n.toNat low 0 (fun _ => none) (fun _ => Nat.zero_le _) i
theorem newdisk10 {w0 w : World} {c : Nat → Nat} (_ : Gr w0 w c) : Calls Try.prog 11 #[.int .i64 10] w fun e w' => ∃ g, e = .returned (.tuple #[.pointer (some ⟨g, 0, none⟩), .int .i64 0]) ∧ DK w' (Col (Dk.paint c w.heap.size 1) 1) g (newD 10) ∧ Fr [] w c w' (Dk.paint c w.heap.size 1) := newdisk 10 (by decide) (by decide) w c
theorem newdisk64 {w0 w : World} {c : Nat → Nat} (_ : Gr w0 w c) : Calls Try.prog 11 #[.int .i64 64] w fun e w' => ∃ g, e = .returned (.tuple #[.pointer (some ⟨g, 0, none⟩), .int .i64 0]) ∧ DK w' (Col (Dk.paint c w.heap.size 1) 1) g (newD 64) ∧ Fr [] w c w' (Dk.paint c w.heap.size 1) := newdisk 64 (by decide) (by decide) w c
def awR : Rc_ := ⟨5, 0, 0, 0, 0, 0, 0, ⟨#[]⟩, ⟨#[]⟩, [], []⟩
def awW0 : WS := newW 1 8
def awW1 : WS := (appendW awW0 awR).2.2
def awW2 : WS := (appendW awW1 awR).2.2
def awW3 : WS := (flushW awW2 (newD 10)).2.1
def awD3 : DS := (flushW awW2 (newD 10)).2.2
def awW4 : WS := (appendW awW3 awR).2.2
def awD5 : DS := crashD 0 (fun _ => 0) awD3
def awW6 : WS := openW awD5 1 8 1
theorem aw_a1 : (appendW awW0 awR).1 = 128 ∧ (appendW awW0 awR).2.1 = 0 := by decide +kernel
theorem aw_a2 : (appendW awW1 awR).1 = 129 ∧ (appendW awW1 awR).2.1 = 0 := by decide +kernel
theorem aw_f : (flushW awW2 (newD 10)).1 = 0 := by decide +kernel
theorem aw_a4 : (appendW awW3 awR).1 = 256 ∧ (appendW awW3 awR).2.1 = 0 := by decide +kernel
theorem aw_s6 : (scanF awW6 0).length = 2 := by decide +kernel
theorem aw_e6 : awW6.ep = 2 ∧ awW6.op = 2 ∧ awW6.low = 1 := by decide +kernel
theorem aw_sa : safeW awW4 129 = true ∧ safeW awW4 256 = false := by decide +kernel
theorem aw_la : latestF awD5 1 (8 : Int).toNat < 4294967290 ∧ liesE awD5 1 8 = 0 ∧ awD5.gone = false := by decide +kernel
theorem aw_l0 : liesE (newD 10) 1 8 = 0 := by decide +kernel
theorem aw_fit0 : Fit awW0 := ⟨by decide +kernel, by decide +kernel, by decide +kernel, by decide +kernel, by decide +kernel, by decide +kernel⟩
theorem aw_fit1 : Fit awW1 := ⟨by decide +kernel, by decide +kernel, by decide +kernel, by decide +kernel, by decide +kernel, by decide +kernel⟩
theorem aw_fit2 : Fit awW2 := ⟨by decide +kernel, by decide +kernel, by decide +kernel, by decide +kernel, by decide +kernel, by decide +kernel⟩
theorem aw_fit3 : Fit awW3 := ⟨by decide +kernel, by decide +kernel, by decide +kernel, by decide +kernel, by decide +kernel, by decide +kernel⟩
theorem aw_fit6 : Fit awW6 := ⟨by decide +kernel, by decide +kernel, by decide +kernel, by decide +kernel, by decide +kernel, by decide +kernel⟩
theorem aw_bd0 : (bdy awW0 awW0.op).size ≤ 1000 := by decide +kernel
theorem aw_bd1 : (bdy awW1 awW1.op).size ≤ 1000 := by decide +kernel
theorem aw_bd3 : (bdy awW3 awW3.op).size ≤ 1000 := by decide +kernel
theorem rows_ex {W : WS} {R : Int → List Rc_} (h : Rows W R) (r : Rc_) : ∃ R', Rows (appendW W r).2.2 R' := by
  cases hm : mayB r with
  | false => rw [append_not W hm]; exact ⟨R, h⟩
  | true =>
    rcases append_cases h hm with ⟨e, _⟩ | ⟨i, g, e⟩
    · rw [e]; exact ⟨R, h⟩
    · rw [e]; exact ⟨_, put_rows h hm g⟩
theorem aw_bd2 (i : Int) : (bdy awW2 i).size ≤ 112 := by
  obtain ⟨R1, h1⟩ := rows_ex (rows_new 1 8) awR
  obtain ⟨R2, h2⟩ := rows_ex h1 awR
  exact h2.le i
theorem aw_bd6 (i : Int) : (bdy awW6 i).size ≤ 112 := open_bd _ _ _ _ i
theorem aw_op2 : awW2.op ≤ 100000000 ∧ awW2.first ≤ awW2.op + 1 ∧ awW2.op - awW2.first ≤ 1000 := by decide +kernel
theorem aw_gap6 : awW6.low ≤ awW6.op + 1 ∧ awW6.op - awW6.low ≤ 1000 := by decide +kernel
theorem c_nil {α : Type} (d : Kd α) (w : World) (A : Option Addr) : Kd.C d w A 0 ([] : List α) := ⟨rfl, by decide, fun h => absurd h (Nat.lt_irrefl 0)⟩
theorem begin_calls (w : World) : Calls Try.prog 45 #[] w fun e w' => ∃ (A9 : Option Addr) (c9 : Nat) (A10 : Option Addr) (c10 : Nat), e = .returned (.agg #[.int .i64 5, .int .i64 0, .int .i64 0, .int .i64 0, .int .i64 0, .int .i64 0, .int .i64 0, .string ⟨#[]⟩, .string ⟨#[]⟩, .slice A9 0 c9, .slice A10 0 c10]) ∧ Below w.heap.size w w' := by
  refine (X4.careenlaw05_begin.calls 5 0 0 0 0 0 0 ⟨#[]⟩ ⟨#[]⟩ [] [] w rfl).mono ?_
  rintro e w' ⟨v9, v10, rfl, h9, h10, hb⟩
  obtain ⟨A9, c9, rfl, _, _⟩ := Kd.R_reads h9
  obtain ⟨A10, c10, rfl, _, _⟩ := Kd.R_reads h10
  exact ⟨A9, c9, A10, c10, rfl, hb⟩
theorem append_aw {w : World} {c : Nat → Nat} {gl m g : Nat} {W : WS} (h : LO w c gl m g W) (F : Fit W) (hbd : (bdy W W.op).size ≤ 1000) (A9 : Option Addr) (c9 : Nat) (A10 : Option Addr) (c10 : Nat) : Calls Try.prog 15 #[.pointer (some ⟨gl, 0, none⟩), .agg #[.int .i64 5, .int .i64 0, .int .i64 0, .int .i64 0, .int .i64 0, .int .i64 0, .int .i64 0, .string ⟨#[]⟩, .string ⟨#[]⟩, .slice A9 0 c9, .slice A10 0 c10]] w fun e w' => e = .returned (.tuple #[.int .i64 (appendW W awR).1, .int .i64 (appendW W awR).2.1]) ∧ Fr [3] w c w' c ∧ LO w' c gl m g (appendW W awR).2.2 :=
  append_calls h F hbd awR A9 c9 A10 c10 (c_nil _ _ _) (Nat.zero_le _) (c_nil _ _ _) (Nat.zero_le _) (by decide)
end Go.Proofs.Ytbnglmeljbiglaa.Wl
set_option maxRecDepth 8192
namespace Go.Proofs.Ytbnglmeljbiglaa.Wl
open Go.Proofs.Ytbnglmeljbiglaa.X4 Go.Proofs.Ytbnglmeljbiglaa.Pt Go.Proofs.Ytbnglmeljbiglaa.Ptb Go.Proofs.Ytbnglmeljbiglaa.Rp Go Go.RowKit Go.ChangeMaps Go.Proofs.Ytbnglmeljbiglaa.Arr Go.Proofs.Ytbnglmeljbiglaa.Mp Go.Proofs.Ytbnglmeljbiglaa.Ow Go.Proofs.Ytbnglmeljbiglaa.Dk Go.Proofs.Ytbnglmeljbiglaa.Fr Go.Proofs.YtbnglmeljbiglaaW.PrintWords Go.Proofs.YtbnglmeljbiglaaW.PrintLast Go.Proofs.YtbnglmeljbiglaaW.PrintMore
set_option linter.unusedVariables false
set_option linter.unusedSimpArgs false
set_option maxHeartbeats 16000000 in
set_option maxRecDepth 20000 in
theorem awake_calls (w : World) : Calls Try.prog 13 #[] w fun e w' => e = .returned (.bool true) ∧ Below w.heap.size w w' := by
  have G := Aside0.mk (Gr.refl w)
  go_enter Try.func13, Try.ntmps13
  go_upto_region 2 with (go_at_call 11; (with_reducible refine (newdisk10 G.out).mono ?_); rintro e w1 ⟨g, rfl, hk, hf⟩; have G_n := Aside0.mk (G.out.step hf (by decide)); clear G; have G := G_n; clear G_n; have HD := Aside0.mk hk; clear hk hf)
  have HO := Aside0.mk (ok_new 10 (by decide))
  go_upto_region 3 with (go_at_call 12; (with_reducible refine (lnew_calls HD.out HO.out 1 8 (by decide) (by decide) aw_l0).mono ?_); rintro e w1 ⟨gl, m, c1, rfl, hf, hl, hd⟩; have G_n := Aside0.mk (G.out.step hf (by decide)); clear G; have G := G_n; clear G_n; clear HD; have HD := Aside0.mk hd; have HL := Aside0.mk (show LO w1 c1 gl m g awW0 from hl); clear hl hd hf)
  go_upto_region 4 with (first | (go_at_call 45; (with_reducible refine (begin_calls _).mono ?_); rintro e w1 ⟨A9, c9, A10, c10, rfl, hb1⟩; have G_n := Aside0.mk (G.out.below hb1); have HD_n := Aside0.mk (HD.out.below hb1); have HL_n := Aside0.mk (HL.out.below hb1); clear G HD HL; have G := G_n; have HD := HD_n; have HL := HL_n; clear G_n HD_n HL_n; clear hb1) | (go_at_call 15; (with_reducible refine (append_aw HL.out aw_fit0 aw_bd0 _ _ _ _).mono ?_); rintro e w1 ⟨rfl, hf, hl⟩; rw [aw_a1.1, aw_a1.2]; have G_n := Aside0.mk (G.out.step hf (by decide)); have HD_n := Aside0.mk (dk_keep HD.out hf (by decide)); clear G HD; have G := G_n; have HD := HD_n; clear G_n HD_n; clear HL; have HL := Aside0.mk (show LO w1 _ gl m g awW1 from hl); clear hl hf))
  go_upto_region 5 with (first | (go_at_call 45; (with_reducible refine (begin_calls _).mono ?_); rintro e w1 ⟨A9, c9, A10, c10, rfl, hb1⟩; have G_n := Aside0.mk (G.out.below hb1); have HD_n := Aside0.mk (HD.out.below hb1); have HL_n := Aside0.mk (HL.out.below hb1); clear G HD HL; have G := G_n; have HD := HD_n; have HL := HL_n; clear G_n HD_n HL_n; clear hb1) | (go_at_call 15; (with_reducible refine (append_aw HL.out aw_fit1 aw_bd1 _ _ _ _).mono ?_); rintro e w1 ⟨rfl, hf, hl⟩; rw [aw_a2.1, aw_a2.2]; have G_n := Aside0.mk (G.out.step hf (by decide)); have HD_n := Aside0.mk (dk_keep HD.out hf (by decide)); clear G HD; have G := G_n; have HD := HD_n; clear G_n HD_n; clear HL; have HL := Aside0.mk (show LO w1 _ gl m g awW2 from hl); clear hl hf))
  go_upto_region 6 with (go_at_call 16; (with_reducible refine (flush_calls HL.out HD.out HO.out (by decide) aw_fit2 aw_bd2 aw_op2.1 aw_op2.2).mono ?_); rintro e w1 ⟨rfl, c1, hf, hl, hd, ho⟩; rw [aw_f]; have G_n := Aside0.mk (G.out.step hf (by decide)); clear G; have G := G_n; clear G_n; clear HD HL HO; have HD := Aside0.mk (show DK w1 (Col c1 1) g awD3 from hd); have HL := Aside0.mk (show LO w1 c1 gl m g awW3 from hl); have HO := Aside0.mk (show OkN 1100 awD3 from ho); clear hl hd hf ho)
  go_upto_region 7 with (first | (go_at_call 45; (with_reducible refine (begin_calls _).mono ?_); rintro e w1 ⟨A9, c9, A10, c10, rfl, hb1⟩; have G_n := Aside0.mk (G.out.below hb1); have HD_n := Aside0.mk (HD.out.below hb1); have HL_n := Aside0.mk (HL.out.below hb1); clear G HD HL; have G := G_n; have HD := HD_n; have HL := HL_n; clear G_n HD_n HL_n; clear hb1) | (go_at_call 15; (with_reducible refine (append_aw HL.out aw_fit3 aw_bd3 _ _ _ _).mono ?_); rintro e w1 ⟨rfl, hf, hl⟩; rw [aw_a4.1, aw_a4.2]; have G_n := Aside0.mk (G.out.step hf (by decide)); have HD_n := Aside0.mk (dk_keep HD.out hf (by decide)); clear G HD; have G := G_n; have HD := HD_n; clear G_n HD_n; clear HL; have HL := Aside0.mk (show LO w1 _ gl m g awW4 from hl); clear hl hf))
  go_upto_region 8 with (go_at_call 18; (with_reducible refine (crash_o HD.out HO.out.ok (p := fun _ => 0) (fun c' _ => pk_nil _ _ _ _) (fun _ => by decide)).mono ?_); rintro e w1 ⟨rfl, c1, hf, hd⟩; have G_n := Aside0.mk (G.out.step hf (by decide)); have HL_n := Aside0.mk (HL.out.keep hf (by decide)); clear G HL; have G := G_n; have HL := HL_n; clear G_n HL_n; clear HD; have HD := Aside0.mk (show DK w1 (Col c1 1) g awD5 from hd); clear hd hf)
  have HO5 := Aside0.mk (show OkN 0 awD5 from ok_crash HO.out)
  go_upto_region 9 with (go_at_call 19; (with_reducible refine (lopen_calls HD.out HO5.out 1 8 1 (by decide) (by decide) aw_la.2.1 (by decide) aw_la.2.2 aw_la.1).mono ?_); rintro e w1 ⟨gl6, m6, c1, rfl, hf, hl, hd⟩; have G_n := Aside0.mk (G.out.step hf (by decide)); have HL_n := Aside0.mk (HL.out.keep hf (by decide)); clear G HL; have G := G_n; have HL := HL_n; clear G_n HL_n; clear HD; have HD := Aside0.mk hd; have HL6 := Aside0.mk (show LO w1 c1 gl6 m6 g awW6 from hl); clear hl hd hf)
  go_wp2_with (first | (go_at_call 20; (with_reducible refine (scan_calls HL6.out aw_fit6 aw_bd6 aw_gap6 0).mono ?_); rintro e w1 ⟨v, rfl, hn, hb1⟩; obtain ⟨A_, c_, rfl⟩ := Kd.N_slice hn; rw [aw_s6]; have G_n := Aside0.mk (G.out.below hb1); have HD_n := Aside0.mk (HD.out.below hb1); have HL_n := Aside0.mk (HL.out.below hb1); have HL6_n := Aside0.mk (HL6.out.below hb1); clear G HD HL HL6; have G := G_n; have HD := HD_n; have HL := HL_n; have HL6 := HL6_n; clear G_n HD_n HL_n HL6_n; clear hb1 hn) | (go_at_call 29; (with_reducible refine (epoch_calls HL6.out aw_fit6.ep).mono ?_); rintro e w1 ⟨rfl, hb1⟩; rw [aw_e6.1]; have G_n := Aside0.mk (G.out.below hb1); have HD_n := Aside0.mk (HD.out.below hb1); have HL_n := Aside0.mk (HL.out.below hb1); have HL6_n := Aside0.mk (HL6.out.below hb1); clear G HD HL HL6; have G := G_n; have HD := HD_n; have HL := HL_n; have HL6 := HL6_n; clear G_n HD_n HL_n HL6_n; clear hb1) | (go_at_call 30; (with_reducible refine (next_calls HL6.out).mono ?_); rintro e w1 ⟨rfl, hb1⟩; rw [aw_e6.2.1]; have G_n := Aside0.mk (G.out.below hb1); have HD_n := Aside0.mk (HD.out.below hb1); have HL_n := Aside0.mk (HL.out.below hb1); have HL6_n := Aside0.mk (HL6.out.below hb1); clear G HD HL HL6; have G := G_n; have HD := HD_n; have HL := HL_n; have HL6 := HL6_n; clear G_n HD_n HL_n HL6_n; clear hb1) | (go_at_call 24; (with_reducible refine (safe_calls HL.out 129 (by decide)).mono ?_); rintro e w1 ⟨rfl, hb1⟩; rw [aw_sa.1]; have G_n := Aside0.mk (G.out.below hb1); have HD_n := Aside0.mk (HD.out.below hb1); have HL_n := Aside0.mk (HL.out.below hb1); have HL6_n := Aside0.mk (HL6.out.below hb1); clear G HD HL HL6; have G := G_n; have HD := HD_n; have HL := HL_n; have HL6 := HL6_n; clear G_n HD_n HL_n HL6_n; clear hb1) | (go_at_call 24; (with_reducible refine (safe_calls HL.out 256 (by decide)).mono ?_); rintro e w1 ⟨rfl, hb1⟩; rw [aw_sa.2]; have G_n := Aside0.mk (G.out.below hb1); have HD_n := Aside0.mk (HD.out.below hb1); have HL_n := Aside0.mk (HL.out.below hb1); have HL6_n := Aside0.mk (HL6.out.below hb1); clear G HD HL HL6; have G := G_n; have HD := HD_n; have HL := HL_n; have HL6 := HL6_n; clear G_n HD_n HL_n HL6_n; clear hb1))
  go_ret
  exact ⟨rfl, G.out.bel⟩
end Go.Proofs.Ytbnglmeljbiglaa.Wl
set_option maxRecDepth 8192
namespace Go.Proofs.Ytbnglmeljbiglaa.Wl
open Go.Proofs.Ytbnglmeljbiglaa.X4 Go.Proofs.Ytbnglmeljbiglaa.Pt Go.Proofs.Ytbnglmeljbiglaa.Ptb Go.Proofs.Ytbnglmeljbiglaa.Rp Go.Proofs.Ytbnglmeljbiglaa.Cr Go Go.RowKit Go.ChangeMaps Go.Proofs.Ytbnglmeljbiglaa.Arr Go.Proofs.Ytbnglmeljbiglaa.Mp Go.Proofs.Ytbnglmeljbiglaa.Ow Go.Proofs.Ytbnglmeljbiglaa.Dk Go.Proofs.Ytbnglmeljbiglaa.Fr Go.Proofs.YtbnglmeljbiglaaW.PrintWords
set_option linter.unusedVariables false
set_option linter.unusedSimpArgs false
structure Qs (n E : Int) (W : WS) (R : Int → List Rc_) (d : DS) (e : Int → Int) : Prop where
  keep : Keep W R d.safe e
  mid : Mid d.safe [] d
  fuse : d.fuse = -1
  ep : W.ep ≤ E
  nn : W.n = n
  base : W.base = 0
  len : d.safe.length ≤ 512
section
variable {n E : Int} {W : WS} {R : Int → List Rc_} {d : DS} {e : Int → Int}
theorem Qs.ok (h : Qs n E W R d e) : OkN 0 d := by
  have hr : d.row = [] := h.mid.2.1
  refine ⟨⟨by rw [hr]; decide, by rw [h.fuse]; omega, by rw [h.fuse]; omega, h.len, fun p hp => ?_⟩, by rw [hr]; exact Nat.le_refl _⟩
  rw [hr] at hp; cases hp
theorem Qs.gone (h : Qs n E W R d e) : d.gone = false := h.mid.2.2
theorem Qs.bd (h : Qs n E W R d e) (i : Int) : (bdy W i).size ≤ 112 := h.keep.rows.le i
theorem Qs.ord (h : Qs n E W R d e) : (W.low = 1 ∧ 1 ≤ W.first ∧ W.first ≤ W.op ∧ W.op ≤ W.n + 1) ∧ (8 ≤ W.n ∧ W.n ≤ 64) ∧ 1 ≤ W.ep := by
  have h1 := h.keep.rows.ord
  have h2 := h.keep.op_le
  have h3 := h.keep.nx
  have h4 := h.keep.low
  have h5 := h.keep.n
  exact ⟨⟨h4, by omega, by omega, by omega⟩, h5, h.keep.ep⟩
theorem Qs.fit (h : Qs n E W R d e) (hE : E < 4294967290) : Fit W := by
  obtain ⟨h1, h2, h3⟩ := h.ord
  have hb := h.base
  have he := h.ep
  exact ⟨by omega, by omega, by omega, by omega, by omega, by omega⟩
theorem Qs.gap (h : Qs n E W R d e) : W.op ≤ 100000000 ∧ W.first ≤ W.op + 1 ∧ W.op - W.first ≤ 1000 := by
  obtain ⟨h1, h2, h3⟩ := h.ord
  omega
theorem Qs.sgap (h : Qs n E W R d e) : W.low ≤ W.op + 1 ∧ W.op - W.low ≤ 1000 := by
  obtain ⟨h1, h2, h3⟩ := h.ord
  omega
theorem Qs.bd1 (h : Qs n E W R d e) : (bdy W W.op).size ≤ 1000 := Nat.le_trans (h.bd _) (by decide)
theorem Qs.more (h : Qs n E W R d e) {E' : Int} (hE : E ≤ E') : Qs n E' W R d e := ⟨h.keep, h.mid, h.fuse, Int.le_trans h.ep hE, h.nn, h.base, h.len⟩
theorem qs_new {n : Int} {L : Nat} (hn : 8 ≤ n ∧ n ≤ 64) (hb : n ≤ L) (hL : L ≤ 512) : Qs n 1 (newW 0 n) (fun _ => []) (newD L) (fun _ => 0) :=
  ⟨keep_new hn ⟨Int.le_refl _, by omega⟩, ⟨rfl, rfl, rfl⟩, rfl, Int.le_refl _, rfl, rfl, by simp [newD]; exact hL⟩
theorem Qs.flush (h : Qs n E W R d e) (hE : E < 4294967290) : (flushW W d).1 = 0 ∧ (flushW W d).2.1 = doneW W ∧ Qs n E (doneW W) R (flushW W d).2.2 (eN W e) ∧ (flushW W d).2.2.row = [] := by
  have he := h.ep
  rcases flush_keep h.keep (by omega) h.mid with ⟨f1, f2, f3, f4⟩ | ⟨_, _, _, f4⟩
  · have hs : (flushW W d).2.2.safe = newS W d.safe := f3.1
    refine ⟨f1, f2, ⟨?_, ?_, f4 h.fuse, h.ep, h.nn, h.base, ?_⟩, f3.2.1⟩
    · rw [hs]; exact keep_done h.keep
    · rw [hs]; exact f3
    · rw [hs]; unfold newS; rw [over_len]; exact h.len
  · exact absurd h.fuse f4
theorem Qs.put (h : Qs n E W R d e) {r : Rc_} (hm : mayB r = true) {i : Int} (g : Goes W R r i) : Qs n E (putW W R r i) (putR R i r) d e :=
  ⟨keep_put h.keep hm g, h.mid, h.fuse, h.ep, h.nn, h.base, h.len⟩
theorem Qs.append (h : Qs n E W R d e) (r : Rc_) : ∃ R', Qs n E (appendW W r).2.2 R' d e := by
  cases hm : mayB r with
  | false => rw [append_not W hm]; exact ⟨R, h⟩
  | true =>
    rcases append_cases h.keep.rows hm with ⟨a, _⟩ | ⟨i, g, a⟩
    · rw [a]; exact ⟨R, h⟩
    · rw [a]; exact ⟨_, h.put hm g⟩
theorem Qs.lies (h : Qs n E W R d e) : liesE d 0 n = 0 := by
  have h1 := h.keep.base
  have h2 := h.keep.n
  have h3 := h.nn
  have h4 := h.base
  unfold liesE
  rw [if_neg (by omega)]
end
theorem allS_ok (s : ByteArray) : ∀ x ∈ allS s, okE x := by
  intro x hx
  unfold allS at hx
  cases h : allF s with
  | none => rw [h] at hx; cases hx
  | some l => rw [h] at hx; exact allL_ok _ 0 l h x hx
theorem scan_ok (W : WS) (from_ : Int) : ∀ x ∈ scanF W from_, okE x := by
  intro x hx
  unfold scanF scanK at hx
  obtain ⟨q, _, hx⟩ := List.mem_flatMap.1 hx
  obtain ⟨y, hy, rfl⟩ := List.mem_map.1 (List.mem_filter.1 hx).1
  exact allS_ok _ y hy
end Go.Proofs.Ytbnglmeljbiglaa.Wl
set_option maxRecDepth 8192
namespace Go.Proofs.Ytbnglmeljbiglaa.Wl
open Go.Proofs.Ytbnglmeljbiglaa.X4 Go.Proofs.Ytbnglmeljbiglaa.Pt Go.Proofs.Ytbnglmeljbiglaa.Ptb Go.Proofs.Ytbnglmeljbiglaa.Rp Go.Proofs.Ytbnglmeljbiglaa.Cr Go Go.RowKit Go.ChangeMaps Go.Proofs.Ytbnglmeljbiglaa.Arr Go.Proofs.Ytbnglmeljbiglaa.Mp Go.Proofs.Ytbnglmeljbiglaa.Ow Go.Proofs.Ytbnglmeljbiglaa.Dk Go.Proofs.Ytbnglmeljbiglaa.Fr Go.Proofs.YtbnglmeljbiglaaW.PrintWords
set_option linter.unusedVariables false
set_option linter.unusedSimpArgs false
/-- The place behind the last record. -/
def endW (W : WS) : Int := W.op * 128 + ((bdy W W.op).size : Int)
/-- The records that are safe. -/
def safeL (W : WS) (R : Int → List Rc_) : List En_ := allK R 1 (W.first - 1).toNat
structure App (W : WS) (R : Int → List Rc_) (r : Rc_) (p er : Int) (W' : WS) (R' : Int → List Rc_) : Prop where
  first : W'.first = W.first
  nx : nxW W ≤ nxW W'
  may : er = 0 → mayB r = true
  find : er = 0 → findW W' p = some ⟨p, r⟩
  all : er = 0 → allR W' R' = allR W R ++ [⟨p, r⟩]
  sec : er = 0 → W.first ≤ sctr p ∧ sctr p < nxW W'
  ends : er = 0 → endW W ≤ p ∧ p < endW W'
  no : er ≠ 0 → W' = W ∧ R' = R
  old : W.low = 1 → safeL W' R' = safeL W R
  room : mayB r = true → (er = 0 ∨ er = 5) ∧ (er = 5 → roomW W ≤ 0) ∧ roomW W - 1 ≤ roomW W'
section
variable {n E : Int} {W : WS} {R : Int → List Rc_} {d : DS} {e : Int → Int}
theorem app_keep (h : Rows W R) (r : Rc_) : ∃ p er W' R', (appendW W r).1 = p ∧ (appendW W r).2.1 = er ∧ (appendW W r).2.2 = W' ∧ App W R r p er W' R' ∧ ((W' = W ∧ R' = R) ∨ (mayB r = true ∧ ∃ i, Goes W R r i ∧ W' = putW W R r i ∧ R' = putR R i r)) := by
  cases hm : mayB r with
  | false =>
    have ea := append_not W hm
    refine ⟨0, 1, W, R, by rw [ea], by rw [ea], by rw [ea], ⟨rfl, Int.le_refl _, fun x => by omega, fun x => by omega, fun x => by omega, fun x => by omega, fun x => by omega, fun _ => ⟨rfl, rfl⟩, fun _ => rfl, fun x => ?_⟩, .inl ⟨rfl, rfl⟩⟩
    rw [hm] at x; cases x
  | true =>
    rcases append_cases h hm with ⟨ea, hr⟩ | ⟨i, g, ea⟩
    · refine ⟨0, 5, W, R, by rw [ea], by rw [ea], by rw [ea], ⟨rfl, Int.le_refl _, fun x => by omega, fun x => by omega, fun x => by omega, fun x => by omega, fun x => by omega, fun _ => ⟨rfl, rfl⟩, fun _ => rfl, fun _ => ⟨.inr rfl, fun _ => ?_, by omega⟩⟩, .inl ⟨rfl, rfl⟩⟩
      rw [room_nx]; omega
    · have hnx := put_nx h hm g
      have ho := h.ord
      have hl := h.len i
      have hz : sctr (i * 128 + ((bytesW (R i)).length : Int)) = i := sctr_at (by omega) (by omega)
      have hput := put_rows h hm g
      have p1 := (prB_one hm).1
      refine ⟨i * 128 + ((bytesW (R i)).length : Int), 0, putW W R r i, putR R i r, by rw [ea], by rw [ea], by rw [ea], ⟨rfl, by omega, fun _ => hm, fun _ => put_find h hm g, fun _ => put_all h hm g, fun _ => by rw [hz]; omega, fun _ => ⟨?_, ?_⟩, fun x => absurd rfl x, fun hl1 => allK_put R 1 i r _ (by have := g.ge; have : (putW W R r i).first = W.first := rfl; omega), fun _ => ⟨.inl rfl, fun x => by omega, ?_⟩⟩, .inr ⟨rfl, i, g, rfl, rfl⟩⟩
      · unfold endW
        rw [h.size]
        rcases g.sec with x | ⟨x, _⟩
        · rw [x]; exact Int.le_refl _
        · have := h.len W.op
          omega
      · have e1 : endW (putW W R r i) = i * 128 + (((bytesW (putR R i r i)).length : Nat) : Int) := by
          unfold endW
          rw [hput.size]
          rfl
        rw [e1, putR_at, bytes_append, List.length_append, bytesW, bytesW, List.append_nil]
        push_cast
        omega
      · rw [room_nx, room_nx, hnx.1]
        show W.low + W.n - nxW W - 1 ≤ W.low + W.n - (i + 1)
        omega
theorem Qs.app (h : Qs n E W R d e) (r : Rc_) : ∃ p er W' R', (appendW W r).1 = p ∧ (appendW W r).2.1 = er ∧ (appendW W r).2.2 = W' ∧ App W R r p er W' R' ∧ Qs n E W' R' d e := by
  obtain ⟨p, er, W', R', e1, e2, e3, ha, hc⟩ := app_keep h.keep.rows r
  refine ⟨p, er, W', R', e1, e2, e3, ha, ?_⟩
  rcases hc with ⟨rfl, rfl⟩ | ⟨hm, i, g, rfl, rfl⟩
  · exact h
  · exact h.put hm g
theorem Qs.room (h : Qs n E W R d e) : 0 ≤ roomW W ∧ roomW W ≤ 65 := by
  obtain ⟨h1, h2, h3⟩ := h.ord
  have h4 := h.keep.nx
  have h5 := h.keep.op_le
  rw [room_nx]
  omega
theorem Qs.done (h : Qs n E W R d e) : roomW (doneW W) = roomW W ∧ nxW (doneW W) = nxW W ∧ allR (doneW W) R = allR W R ∧ endW W ≤ endW (doneW W) ∧ W.first ≤ nxW W := by
  have hd := done_rows h.keep.rows
  obtain ⟨h1, h2, h3⟩ := h.ord
  have h5 := h.keep.op_le
  refine ⟨?_, hd.2, ?_, ?_, by omega⟩
  · rw [room_nx, room_nx, hd.2]; rfl
  · rw [allR_nx hd.1 h1.1, allR_nx h.keep.rows h1.1, hd.2]
  · unfold endW
    have hb := h.bd W.op
    show W.op * 128 + ((bdy W W.op).size : Int) ≤ nxW W * 128 + ((bdy W (nxW W)).size : Int)
    by_cases z : bdy W W.op = ⟨#[]⟩
    · rw [show nxW W = W.op from if_pos z]; exact Int.le_refl _
    · rw [show nxW W = W.op + 1 from if_neg z]; omega
theorem Qs.place (h : Qs n E W R d e) : 0 ≤ endW W ∧ endW W < 1000000 := by
  obtain ⟨h1, h2, h3⟩ := h.ord
  have := h.bd W.op
  unfold endW
  omega
end
end Go.Proofs.Ytbnglmeljbiglaa.Wl
set_option maxRecDepth 8192
namespace Go.Proofs.Ytbnglmeljbiglaa.X4
open Go.Proofs.Ytbnglmeljbiglaa.Rgn
open Go.Proofs.Ytbnglmeljbiglaa.Pt Go.Proofs.Ytbnglmeljbiglaa.Ptb Go.Proofs.Ytbnglmeljbiglaa.Rp Go.Proofs.Ytbnglmeljbiglaa.Wl Go Go.RowKit Go.ChangeMaps Go.Proofs.Ytbnglmeljbiglaa.Arr Go.Proofs.Ytbnglmeljbiglaa.Mp Go.Proofs.Ytbnglmeljbiglaa.Ow Go.Proofs.Ytbnglmeljbiglaa.Dk Go.Proofs.Ytbnglmeljbiglaa.Fr Go.Proofs.YtbnglmeljbiglaaW.PrintWords Go.Proofs.YtbnglmeljbiglaaW.PrintLast Go.Proofs.YtbnglmeljbiglaaW.PrintMore
set_option linter.unusedVariables false
set_option linter.unusedSimpArgs false
theorem same_len (r : S37) (h1 : r.f9.length ≤ 1000000) (h2 : r.f10.length ≤ 1000000) (A9 : Option Addr) (c9 : Nat) (A10 : Option Addr) (c10 : Nat) (B9 : Option Addr) (d9 : Nat) (B10 : Option Addr) (d10 : Nat) (w : World) (h9 : Kd.C k107 w A9 r.f9.length r.f9) (l9 : r.f9.length ≤ c9) (h10 : Kd.C k109 w A10 r.f10.length r.f10) (l10 : r.f10.length ≤ c10) (g9 : Kd.C k107 w B9 r.f9.length r.f9) (m9 : r.f9.length ≤ d9) (g10 : Kd.C k109 w B10 r.f10.length r.f10) (m10 : r.f10.length ≤ d10) :
    Calls Try.prog 28 #[.agg #[.int .i64 r.f0, .int .i64 r.f1, .int .i64 r.f2, .int .i64 r.f3, .int .i64 r.f4, .int .i64 r.f5, .int .i64 r.f6, .string r.f7, .string r.f8, .slice A9 r.f9.length c9, .slice A10 r.f10.length c10], .agg #[.int .i64 r.f0, .int .i64 r.f1, .int .i64 r.f2, .int .i64 r.f3, .int .i64 r.f4, .int .i64 r.f5, .int .i64 r.f6, .string r.f7, .string r.f8, .slice B9 r.f9.length d9, .slice B10 r.f10.length d10]] w fun e w' => e = .returned (.bool true) ∧ Below w.heap.size w w' := by
  refine careenref04_Same.calls _ _ _ _ _ _ _ _ _ A9 c9 _ A10 c10 _ _ _ _ _ _ _ _ _ _ B9 d9 _ B10 d10 _ true w h9 l9 h10 l10 g9 m9 g10 m10 ?_
  rw [Pt.rsame_f h1 h2, decide_eq_true rfl]
theorem rde_mem {l : List S44} {k : Nat} (h : k < l.length) : rd_T44 l k ∈ l := by
  unfold rd_T44
  rw [Int.toNat_natCast, List.getD_eq_getElem?_getD, List.getElem?_eq_getElem h]
  exact List.getElem_mem h
set_option maxHeartbeats 16000000 in
theorem sameall_big (l : List S44) (A0 : Option Addr) (c0 : Nat) (A1 : Option Addr) (c1 : Nat) (w : World) (h0 : Kd.C k44 w A0 l.length l) (h1 : Kd.C k44 w A1 l.length l) (hok : ∀ x ∈ l, okE x) (hm : l.length ≤ 1000000000) :
    Calls Try.prog 21 #[.slice A0 l.length c0, .slice A1 l.length c1] w fun e w' => e = .returned (.bool true) ∧ Below w.heap.size w w' := by
  have H0 := Aside0.mk h0; have H1 := Aside0.mk h1; have HOK := Aside0.mk hok; have HM := Aside0.mk hm
  clear h0 h1 hok hm
  have HB := Aside0.mk (Below.refl w.heap.size w)
  have hne : ((l.length : Int) != (l.length : Int)) = false := by simp
  go_enter Try.func21, Try.ntmps21
  go_upto_region 4 with (fail)
  clear hne
  go_loopw [5] (fun v wr => ∃ r : Nat, v = .int .i64 r ∧ Aside0 (r ≤ l.length) ∧ Aside0 (Below w.heap.size w wr)) (fun v _ => l.length - (intOf v).toNat)
  case atStart => exact ⟨0, rfl, ⟨Nat.zero_le _⟩, HB⟩
  case round =>
    clear HB
    obtain ⟨r, rfl, HR, HB⟩ := hrel
    by_cases hlt : r < l.length
    · have hlt1 : (r : Int) < (l.length : Int) := by omega
      have hr0 : (0 : Int) ≤ (r : Int) := by omega
      have hwk : wrap64 ((r : Int) + 1) = ((r + 1 : Nat) : Int) := by have := HM.out; unfold wrap64; omega
      have HLT := Aside0.mk hlt
      have HRL := Aside0.mk (rows_le (show mayB (rd_T44 l (r : Nat)).f1 = true from HOK.out _ (rde_mem hlt)))
      obtain ⟨ad, A9, c9, A10, c10, hA, a0, a1, a2, a3, a4, a5, a6, a7, a8, a9, a10, a11, l9, g9, l10, g10⟩ := at_T44 H0.out (r : Int) (by omega) hlt1
      subst hA
      obtain ⟨bd, B9, d9, B10, d10, hB, b0, b1, b2, b3, b4, b5, b6, b7, b8, b9, b10, b11, m9, k9, m10, k10⟩ := at_T44 H1.out (r : Int) (by omega) hlt1
      subst hB
      rw [Int.toNat_natCast] at a0 a1 a2 a3 a4 a5 a6 a7 a8 a9 a10 a11 b0 b1 b2 b3 b4 b5 b6 b7 b8 b9 b10 b11
      have G9 := Aside0.mk g9; have G10 := Aside0.mk g10; have K9 := Aside0.mk k9; have K10 := Aside0.mk k10; have L9 := Aside0.mk l9; have L10 := Aside0.mk l10; have M9 := Aside0.mk m9; have M10 := Aside0.mk m10
      clear l9 g9 l10 g10 m9 k9 m10 k10
      generalize rd_T44 l (r : Nat) = x at *
      have HQA := Aside0.mk (show w.cell? (ad.add (r * 12)) = some (.int .i64 x.f0) ∧ w.cell? ⟨(ad.add (r * 12)).block, (ad.add (r * 12)).off + 1, none⟩ = some (.int .i64 x.f1.f0) ∧ w.cell? ⟨(ad.add (r * 12)).block, (ad.add (r * 12)).off + 2, none⟩ = some (.int .i64 x.f1.f1) ∧ w.cell? ⟨(ad.add (r * 12)).block, (ad.add (r * 12)).off + 3, none⟩ = some (.int .i64 x.f1.f2) ∧ w.cell? ⟨(ad.add (r * 12)).block, (ad.add (r * 12)).off + 4, none⟩ = some (.int .i64 x.f1.f3) ∧ w.cell? ⟨(ad.add (r * 12)).block, (ad.add (r * 12)).off + 5, none⟩ = some (.int .i64 x.f1.f4) ∧ w.cell? ⟨(ad.add (r * 12)).block, (ad.add (r * 12)).off + 6, none⟩ = some (.int .i64 x.f1.f5) ∧ w.cell? ⟨(ad.add (r * 12)).block, (ad.add (r * 12)).off + 7, none⟩ = some (.int .i64 x.f1.f6) ∧ w.cell? ⟨(ad.add (r * 12)).block, (ad.add (r * 12)).off + 8, none⟩ = some (.string x.f1.f7) ∧ w.cell? ⟨(ad.add (r * 12)).block, (ad.add (r * 12)).off + 9, none⟩ = some (.string x.f1.f8) ∧ w.cell? ⟨(ad.add (r * 12)).block, (ad.add (r * 12)).off + 10, none⟩ = some (.slice A9 x.f1.f9.length c9) ∧ w.cell? ⟨(ad.add (r * 12)).block, (ad.add (r * 12)).off + 11, none⟩ = some (.slice A10 x.f1.f10.length c10) ∧ w.cell? (bd.add (r * 12)) = some (.int .i64 x.f0) ∧ w.cell? ⟨(bd.add (r * 12)).block, (bd.add (r * 12)).off + 1, none⟩ = some (.int .i64 x.f1.f0) ∧ w.cell? ⟨(bd.add (r * 12)).block, (bd.add (r * 12)).off + 2, none⟩ = some (.int .i64 x.f1.f1) ∧ w.cell? ⟨(bd.add (r * 12)).block, (bd.add (r * 12)).off + 3, none⟩ = some (.int .i64 x.f1.f2) ∧ w.cell? ⟨(bd.add (r * 12)).block, (bd.add (r * 12)).off + 4, none⟩ = some (.int .i64 x.f1.f3) ∧ w.cell? ⟨(bd.add (r * 12)).block, (bd.add (r * 12)).off + 5, none⟩ = some (.int .i64 x.f1.f4) ∧ w.cell? ⟨(bd.add (r * 12)).block, (bd.add (r * 12)).off + 6, none⟩ = some (.int .i64 x.f1.f5) ∧ w.cell? ⟨(bd.add (r * 12)).block, (bd.add (r * 12)).off + 7, none⟩ = some (.int .i64 x.f1.f6) ∧ w.cell? ⟨(bd.add (r * 12)).block, (bd.add (r * 12)).off + 8, none⟩ = some (.string x.f1.f7) ∧ w.cell? ⟨(bd.add (r * 12)).block, (bd.add (r * 12)).off + 9, none⟩ = some (.string x.f1.f8) ∧ w.cell? ⟨(bd.add (r * 12)).block, (bd.add (r * 12)).off + 10, none⟩ = some (.slice B9 x.f1.f9.length d9) ∧ w.cell? ⟨(bd.add (r * 12)).block, (bd.add (r * 12)).off + 11, none⟩ = some (.slice B10 x.f1.f10.length d10) from ⟨a0, a1, a2, a3, a4, a5, a6, a7, a8, a9, a10, a11, b0, b1, b2, b3, b4, b5, b6, b7, b8, b9, b10, b11⟩)
      clear a0 a1 a2 a3 a4 a5 a6 a7 a8 a9 a10 a11 b0 b1 b2 b3 b4 b5 b6 b7 b8 b9 b10 b11
      go_upto_region 6 with (fail)
      have HB1 := Aside0.mk HB.out.drew
      clear HB
      obtain ⟨a0, a1, a2, a3, a4, a5, a6, a7, a8, a9, a10, a11, b0, b1, b2, b3, b4, b5, b6, b7, b8, b9, b10, b11⟩ := HQA.out
      replace a0 := pw_cell_below HB1.out a0
      replace a1 := pw_cell_below HB1.out a1
      replace a2 := pw_cell_below HB1.out a2
      replace a3 := pw_cell_below HB1.out a3
      replace a4 := pw_cell_below HB1.out a4
      replace a5 := pw_cell_below HB1.out a5
      replace a6 := pw_cell_below HB1.out a6
      replace a7 := pw_cell_below HB1.out a7
      replace a8 := pw_cell_below HB1.out a8
      replace a9 := pw_cell_below HB1.out a9
      replace a10 := pw_cell_below HB1.out a10
      replace a11 := pw_cell_below HB1.out a11
      replace b0 := pw_cell_below HB1.out b0
      replace b1 := pw_cell_below HB1.out b1
      replace b2 := pw_cell_below HB1.out b2
      replace b3 := pw_cell_below HB1.out b3
      replace b4 := pw_cell_below HB1.out b4
      replace b5 := pw_cell_below HB1.out b5
      replace b6 := pw_cell_below HB1.out b6
      replace b7 := pw_cell_below HB1.out b7
      replace b8 := pw_cell_below HB1.out b8
      replace b9 := pw_cell_below HB1.out b9
      replace b10 := pw_cell_below HB1.out b10
      replace b11 := pw_cell_below HB1.out b11
      refine start_ (n := 25) (S := fun w' => w'.cell? (ad.add (r * 12)) = some (.int .i64 x.f0) ∧ w'.cell? ⟨(ad.add (r * 12)).block, (ad.add (r * 12)).off + 1, none⟩ = some (.int .i64 x.f1.f0) ∧ w'.cell? ⟨(ad.add (r * 12)).block, (ad.add (r * 12)).off + 2, none⟩ = some (.int .i64 x.f1.f1) ∧ w'.cell? ⟨(ad.add (r * 12)).block, (ad.add (r * 12)).off + 3, none⟩ = some (.int .i64 x.f1.f2) ∧ w'.cell? ⟨(ad.add (r * 12)).block, (ad.add (r * 12)).off + 4, none⟩ = some (.int .i64 x.f1.f3) ∧ w'.cell? ⟨(ad.add (r * 12)).block, (ad.add (r * 12)).off + 5, none⟩ = some (.int .i64 x.f1.f4) ∧ w'.cell? ⟨(ad.add (r * 12)).block, (ad.add (r * 12)).off + 6, none⟩ = some (.int .i64 x.f1.f5) ∧ w'.cell? ⟨(ad.add (r * 12)).block, (ad.add (r * 12)).off + 7, none⟩ = some (.int .i64 x.f1.f6) ∧ w'.cell? ⟨(ad.add (r * 12)).block, (ad.add (r * 12)).off + 8, none⟩ = some (.string x.f1.f7) ∧ w'.cell? ⟨(ad.add (r * 12)).block, (ad.add (r * 12)).off + 9, none⟩ = some (.string x.f1.f8) ∧ w'.cell? ⟨(ad.add (r * 12)).block, (ad.add (r * 12)).off + 10, none⟩ = some (.slice A9 x.f1.f9.length c9) ∧ w'.cell? ⟨(ad.add (r * 12)).block, (ad.add (r * 12)).off + 11, none⟩ = some (.slice A10 x.f1.f10.length c10) ∧ w'.cell? (bd.add (r * 12)) = some (.int .i64 x.f0) ∧ w'.cell? ⟨(bd.add (r * 12)).block, (bd.add (r * 12)).off + 1, none⟩ = some (.int .i64 x.f1.f0) ∧ w'.cell? ⟨(bd.add (r * 12)).block, (bd.add (r * 12)).off + 2, none⟩ = some (.int .i64 x.f1.f1) ∧ w'.cell? ⟨(bd.add (r * 12)).block, (bd.add (r * 12)).off + 3, none⟩ = some (.int .i64 x.f1.f2) ∧ w'.cell? ⟨(bd.add (r * 12)).block, (bd.add (r * 12)).off + 4, none⟩ = some (.int .i64 x.f1.f3) ∧ w'.cell? ⟨(bd.add (r * 12)).block, (bd.add (r * 12)).off + 5, none⟩ = some (.int .i64 x.f1.f4) ∧ w'.cell? ⟨(bd.add (r * 12)).block, (bd.add (r * 12)).off + 6, none⟩ = some (.int .i64 x.f1.f5) ∧ w'.cell? ⟨(bd.add (r * 12)).block, (bd.add (r * 12)).off + 7, none⟩ = some (.int .i64 x.f1.f6) ∧ w'.cell? ⟨(bd.add (r * 12)).block, (bd.add (r * 12)).off + 8, none⟩ = some (.string x.f1.f7) ∧ w'.cell? ⟨(bd.add (r * 12)).block, (bd.add (r * 12)).off + 9, none⟩ = some (.string x.f1.f8) ∧ w'.cell? ⟨(bd.add (r * 12)).block, (bd.add (r * 12)).off + 10, none⟩ = some (.slice B9 x.f1.f9.length d9) ∧ w'.cell? ⟨(bd.add (r * 12)).block, (bd.add (r * 12)).off + 11, none⟩ = some (.slice B10 x.f1.f10.length d10)) (ds := []) #[false, false, false, false, false, false, false, false, false, false, false, false, false, false, false, false, false, false, false, false, false, false, false, false, false] (by kernel_rfl) rfl rfl ⟨a0, a1, a2, a3, a4, a5, a6, a7, a8, a9, a10, a11, b0, b1, b2, b3, b4, b5, b6, b7, b8, b9, b10, b11⟩ (fun hHeld => ?_)
      refine rgp 0 17 ?_
      refine rgp 1 18 ?_
      refine rgp 2 19 ?_
      refine rgp 3 20 ?_
      refine rgp 5 22 ?_
      refine rgp 6 23 ?_
      refine rgp 7 24 ?_
      refine rgp 8 25 ?_
      refine rgt 4 21 hHeld ?_
      refine rgt 9 26 hHeld ?_
      refine rgp 10 27 ?_
      refine rgp 11 28 ?_
      refine rgp 12 29 ?_
      refine rgp 13 30 ?_
      refine rgp 14 31 ?_
      refine rgp 15 32 ?_
      refine rgp 17 34 ?_
      refine rgp 18 35 ?_
      refine rgp 19 36 ?_
      refine rgp 20 37 ?_
      refine rgt 16 33 hHeld ?_
      refine rgt 21 38 hHeld ?_
      refine one_ (i := 22) (N := some 39) #[true, true, true, true, true, true, true, true, true, true, true, true, true, true, true, true, true, true, true, true, true, true, true, false, false] rfl rfl (by kernel_rfl) (by decide) (fun K hK => ?_)
      refine goes_ Try.func28 (by kernel_rfl) rfl #[.agg #[.int .i64 x.f1.f0, .int .i64 x.f1.f1, .int .i64 x.f1.f2, .int .i64 x.f1.f3, .int .i64 x.f1.f4, .int .i64 x.f1.f5, .int .i64 x.f1.f6, .string x.f1.f7, .string x.f1.f8, .slice A9 x.f1.f9.length c9, .slice A10 x.f1.f10.length c10], .agg #[.int .i64 x.f1.f0, .int .i64 x.f1.f1, .int .i64 x.f1.f2, .int .i64 x.f1.f3, .int .i64 x.f1.f4, .int .i64 x.f1.f5, .int .i64 x.f1.f6, .string x.f1.f7, .string x.f1.f8, .slice B9 x.f1.f9.length d9, .slice B10 x.f1.f10.length d10]] (by rfl) rfl rfl (by (try simp only [List.map_toArray, List.map_cons, List.map_nil]); first | done | rfl) ?_
      refine (same_len x.f1 (by have := HRL.out; omega) (by have := HRL.out; omega) A9 c9 A10 c10 B9 d9 B10 d10 _ (Kd.C_below G9.out HB1.out) L9.out (Kd.C_below G10.out HB1.out) L10.out (Kd.C_below K9.out HB1.out) M9.out (Kd.C_below K10.out HB1.out) M10.out).mono ?_
      rintro e v1_ ⟨rfl, hb1⟩
      skip
      refine ⟨_, rfl, ?_⟩
      have HB2 := Aside0.mk (Arr.below_trans HB1.out hb1)
      refine hK _ _ ⟨pw_cell_below hb1 a0, pw_cell_below hb1 a1, pw_cell_below hb1 a2, pw_cell_below hb1 a3, pw_cell_below hb1 a4, pw_cell_below hb1 a5, pw_cell_below hb1 a6, pw_cell_below hb1 a7, pw_cell_below hb1 a8, pw_cell_below hb1 a9, pw_cell_below hb1 a10, pw_cell_below hb1 a11, pw_cell_below hb1 b0, pw_cell_below hb1 b1, pw_cell_below hb1 b2, pw_cell_below hb1 b3, pw_cell_below hb1 b4, pw_cell_below hb1 b5, pw_cell_below hb1 b6, pw_cell_below hb1 b7, pw_cell_below hb1 b8, pw_cell_below hb1 b9, pw_cell_below hb1 b10, pw_cell_below hb1 b11⟩ (fun hHeld => ?_)
      clear hK K hb1
      refine norm_ (a' := ?_) ?_ ?_
      rotate_left
      · show Act.put _ (some 39) _ = _
        simp only [Act.put, List.setIfInBounds_toArray, List.set_cons_zero, List.set_cons_succ, i64_w, i32_w]
        rfl
      refine rgp 23 40 ?_
      refine rgp 24 41 ?_
      refine done_ (by kernel_rfl) ?_
      clear a0 a1 a2 a3 a4 a5 a6 a7 a8 a9 a10 a11 b0 b1 b2 b3 b4 b5 b6 b7 b8 b9 b10 b11 HB1
      go_wp2
      go_roundw
      case rel => exact ⟨r + 1, by first | rfl | (rw [hwk]) | go_num, ⟨by have := HLT.out; omega⟩, HB2⟩
      case measure =>
        have := HLT.out
        (try rw [hwk])
        show l.length - (intOf (.int .i64 ((r + 1 : Nat) : Int))).toNat < l.length - (intOf (.int .i64 (r : Int))).toNat
        simp only [intOf]; omega
    · obtain rfl : r = l.length := by have := HR.out; omega
      clear hlt
      go_wp2
      go_ret
      exact ⟨rfl, HB.out⟩
theorem sameall_eq (l : List S44) (A0 : Option Addr) (c0 : Nat) (A1 : Option Addr) (c1 : Nat) (w : World) (h0 : Kd.C k44 w A0 l.length l) (h1 : Kd.C k44 w A1 l.length l) (hok : ∀ x ∈ l, okE x) (hm : l.length ≤ 1000000) :
    Calls Try.prog 21 #[.slice A0 l.length c0, .slice A1 l.length c1] w fun e w' => e = .returned (.bool true) ∧ Below w.heap.size w w' := sameall_big l A0 c0 A1 c1 w h0 h1 hok (Nat.le_trans hm (by decide))
end Go.Proofs.Ytbnglmeljbiglaa.X4
set_option maxRecDepth 8192
namespace Go.Proofs.Ytbnglmeljbiglaa.X4
open Go.Proofs.Ytbnglmeljbiglaa.Pt Go.Proofs.Ytbnglmeljbiglaa.Ptb Go.Proofs.Ytbnglmeljbiglaa.Rp Go.Proofs.Ytbnglmeljbiglaa.Wl Go Go.RowKit Go.ChangeMaps Go.Proofs.Ytbnglmeljbiglaa.Arr Go.Proofs.Ytbnglmeljbiglaa.Mp Go.Proofs.Ytbnglmeljbiglaa.Ow Go.Proofs.Ytbnglmeljbiglaa.Dk Go.Proofs.Ytbnglmeljbiglaa.Fr Go.Proofs.YtbnglmeljbiglaaW.PrintWords Go.Proofs.YtbnglmeljbiglaaW.PrintLast Go.Proofs.YtbnglmeljbiglaaW.PrintMore
set_option linter.unusedVariables false
set_option linter.unusedSimpArgs false
def fewB (r : S37) : Bool := decide (r.f7.size ≤ 300 ∧ r.f8.size ≤ 300 ∧ r.f9.length ≤ 50 ∧ r.f10.length ≤ 50)
theorem few_f (r : S37) : careenref04_Few.f r.f0 r.f1 r.f2 r.f3 r.f4 r.f5 r.f6 r.f7 r.f8 r.f9 r.f10 = some (fewB r) := by
  unfold careenref04_Few.f fewB
  by_cases h1 : r.f7.size ≤ 300
  · by_cases h2 : r.f8.size ≤ 300
    · by_cases h3 : r.f9.length ≤ 50
      · rw [if_pos (by omega), if_pos (by omega), if_pos (by omega)]
        exact congrArg some (decide_eq_decide.2 ⟨fun h => ⟨h1, h2, h3, by omega⟩, fun h => by have := h.2.2.2; omega⟩)
      · rw [if_pos (by omega), if_pos (by omega), if_neg (by omega), decide_eq_false (fun h => h3 h.2.2.1)]
    · rw [if_pos (by omega), if_neg (by omega), decide_eq_false (fun h => h2 h.2.1)]
  · rw [if_neg (by omega), decide_eq_false (fun h => h1 h.1)]
theorem few_calls (r : S37) (A9 : Option Addr) (c9 : Nat) (A10 : Option Addr) (c10 : Nat) (w : World) (h9 : Kd.C k107 w A9 r.f9.length r.f9) (l9 : r.f9.length ≤ c9) (h10 : Kd.C k109 w A10 r.f10.length r.f10) (l10 : r.f10.length ≤ c10) :
    Calls Try.prog 22 #[.agg #[.int .i64 r.f0, .int .i64 r.f1, .int .i64 r.f2, .int .i64 r.f3, .int .i64 r.f4, .int .i64 r.f5, .int .i64 r.f6, .string r.f7, .string r.f8, .slice A9 r.f9.length c9, .slice A10 r.f10.length c10]] w fun e w' => e = .returned (.bool (fewB r)) ∧ Below w.heap.size w w' := careenref04_Few.calls _ _ _ _ _ _ _ _ _ A9 c9 _ A10 c10 _ (fewB r) w h9 l9 h10 l10 (few_f r)
theorem few_le {r : S37} (h : fewB r = true) : r.f8.size ≤ 1000000 := by
  unfold fewB at h
  rw [decide_eq_true_iff] at h
  omega
end Go.Proofs.Ytbnglmeljbiglaa.X4
set_option maxRecDepth 8192
namespace Go.Proofs.Ytbnglmeljbiglaa.Wl
open Go.Proofs.Ytbnglmeljbiglaa.X4 Go Go.RowKit Go.ChangeMaps Go.Proofs.Ytbnglmeljbiglaa.Arr Go.Proofs.Ytbnglmeljbiglaa.Mp Go.Proofs.Ytbnglmeljbiglaa.Ow Go.Proofs.Ytbnglmeljbiglaa.Dk Go.Proofs.Ytbnglmeljbiglaa.Fr Go.Proofs.YtbnglmeljbiglaaW.PrintWords Go.Proofs.YtbnglmeljbiglaaW.PrintLast Go.Proofs.YtbnglmeljbiglaaW.PrintMore
set_option linter.unusedVariables false
set_option linter.unusedSimpArgs false
theorem fr_grown {W w1 : World} {c : Nat → Nat} {row : Option Nat} (hg : W.grownBy w1 row) (x : Nat) (hrow : ∀ k, row = some k → c k = x) : Fr [x] W c w1 (Dk.paint c W.heap.size x) :=
  ⟨hg.os, hg.tape, hg.output, hg.size, fun k hk => paint_old hk, fun k hk hn => hg.block k hk (fun e => hn (by rw [hrow k e.symm]; exact List.mem_singleton.2 rfl))⟩
def okC (n0 : Nat) (c : Nat → Nat) (x : Nat) : Nat → Prop := fun k => k < n0 ∨ c k = x
theorem heap_T : Kd.Heap k107 := Kd.heap_iso _ (Kd.heap_pair (Kd.heap_int _) (Kd.heap_pair (Kd.heap_int _) (Kd.heap_int _)))
theorem heap_Q : Kd.Heap k109 := Kd.heap_iso _ (Kd.heap_pair (Kd.heap_int _) (Kd.heap_int _))
/-- A row of the law's own of colour x; what its elements lead to came in, or is of that colour. -/
def NL {α : Type} (K : Kd α) (e n0 : Nat) (w : World) (c : Nat → Nat) (x : Nat) (v : Value) (xs : List α) : Prop := Kd.N K e w n0 (okC n0 c x) v xs
section
variable {α : Type} {K : Kd α} {e x n0 : Nat} {w0 w w' : World} {c c' : Nat → Nat} {v : Value} {xs : List α} {M : List Nat}
theorem nl_nil (K : Kd α) (e n0 : Nat) (w : World) (c : Nat → Nat) (x : Nat) : NL K e n0 w c x (.slice none 0 0) [] := Kd.N_nil _ _ _ _ _
theorem NL.own (h : NL K e n0 w c x v xs) : ∀ k, v.ownBlock = some k → c k = x := fun k hk => by
  rcases h.1 k hk with h1 | h1
  · have := Kd.N_base h k hk
    omega
  · exact h1
theorem NL.recol (h : NL K e n0 w c x v xs) (hc : ∀ k, k < w.heap.size → c' k = c k) : NL K e n0 w c' x v xs := Kd.N_mono (Kd.N_bound h) (fun k hk => by
  rcases hk.1 with h1 | h1
  · exact .inl h1
  · exact .inr ((hc k hk.2).trans h1))
theorem NL.keep (h : NL K e w0.heap.size w c x v xs) (G : Gr w0 w c) (hf : Fr M w c w' c') (hx : x ∉ M) (h0 : 0 ∉ M) : NL K e w0.heap.size w' c' x v xs := by
  have h1 : NL K e w0.heap.size w c' x v xs := h.recol hf.col
  refine Kd.N_step h1 (fun k hk hlt => hf.blk k hlt ?_)
  rcases hk with h2 | h2
  · rw [G.olds k h2]; exact h0
  · rw [← hf.col k hlt, h2]; exact hx
theorem NL.below (h : NL K e n0 w c x v xs) (hb : Below w.heap.size w w') : NL K e n0 w' c x v xs := Kd.N_below h hb
theorem NL.drew (h : NL K e n0 w c x v xs) : NL K e n0 w.drew c x v xs := h.below ((Below.refl _ _).drew)
theorem NL.paint (h : NL K e n0 w c x v xs) (y : Nat) : NL K e n0 w (Dk.paint c w.heap.size y) x v xs := h.recol fun _ hk => paint_old hk
theorem NL.slice (h : NL K e n0 w c x v xs) : ∃ A cp, v = .slice A xs.length cp := Kd.N_slice h
theorem NL.reads {A : Option Addr} {n cp : Nat} (h : NL K e n0 w c x (.slice A n cp) xs) : n = xs.length ∧ n ≤ cp ∧ K.C w A xs.length xs := Kd.N_reads' h
theorem ok_new (n0 : Nat) (c : Nat → Nat) (x s : Nat) : ∀ k, s ≤ k → okC n0 (Dk.paint c s x) x k := fun _ hk => .inr (paint_new hk)
theorem NL.old (h : NL K e n0 w c x v xs) : ∀ k, k < n0 → okC n0 c' x k ∧ some k ≠ v.ownBlock := fun k hk => ⟨.inl hk, fun e1 => by
  have := Kd.N_base h k e1.symm
  omega⟩
theorem NL.apart {y s : Nat} (h : NL K e n0 w c x v xs) (hxy : x ≠ y) : ∀ k, okC n0 c y k → (okC n0 (Dk.paint c s x) x k ∨ okC n0 c y k) ∧ some k ≠ v.ownBlock := fun k hk => ⟨.inr hk, fun e1 => by
  have h1 := Kd.N_base h k e1.symm
  have h2 := h.own k e1.symm
  rcases hk with hk | hk
  · omega
  · exact hxy (h2.symm.trans hk)⟩
theorem NL.at_ (h : NL K e n0 w c x v xs) : ∀ k, v.ownBlock = some k → c k = x ∧ k < w.heap.size := fun k hk => ⟨h.own k hk, Kd.N_lt h k hk⟩
end
theorem fk_ent {w0 W : World} (hb : Below w0.heap.size w0 W) (x : S44) {A9 : Option Addr} {c9 : Nat} {A10 : Option Addr} {c10 : Nat} (h9 : Kd.C k107 w0 A9 x.f1.f9.length x.f1.f9) (l9 : x.f1.f9.length ≤ c9) (h10 : Kd.C k109 w0 A10 x.f1.f10.length x.f1.f10) (l10 : x.f1.f10.length ≤ c10) :
    Kd.FK k44 W (fun k => k < w0.heap.size) x [.int .i64 x.f0, .int .i64 x.f1.f0, .int .i64 x.f1.f1, .int .i64 x.f1.f2, .int .i64 x.f1.f3, .int .i64 x.f1.f4, .int .i64 x.f1.f5, .int .i64 x.f1.f6, .string x.f1.f7, .string x.f1.f8, .slice A9 x.f1.f9.length c9, .slice A10 x.f1.f10.length c10] := fun W' hW => by
  have hs : ∀ k, k < w0.heap.size → W'.heap[k]? = w0.heap[k]? := fun k hk => (hW k hk (Nat.lt_of_lt_of_le hk hb.size)).trans (hb.block k hk)
  have t9 : Kd.Heap k107 := heap_T
  have t10 : Kd.Heap k109 := heap_Q
  exact k44_mk W' x l9 (t9.C hs h9) l10 (t10.C hs h10)
theorem same_self (r : S37) (hf : fewB r = true) (A9 : Option Addr) (c9 : Nat) (A10 : Option Addr) (c10 : Nat) (B9 : Option Addr) (d9 : Nat) (B10 : Option Addr) (d10 : Nat) (w : World) (h9 : Kd.C k107 w A9 r.f9.length r.f9) (l9 : r.f9.length ≤ c9) (h10 : Kd.C k109 w A10 r.f10.length r.f10) (l10 : r.f10.length ≤ c10) (g9 : Kd.C k107 w B9 r.f9.length r.f9) (m9 : r.f9.length ≤ d9) (g10 : Kd.C k109 w B10 r.f10.length r.f10) (m10 : r.f10.length ≤ d10) :
    Calls Try.prog 28 #[.agg #[.int .i64 r.f0, .int .i64 r.f1, .int .i64 r.f2, .int .i64 r.f3, .int .i64 r.f4, .int .i64 r.f5, .int .i64 r.f6, .string r.f7, .string r.f8, .slice A9 r.f9.length c9, .slice A10 r.f10.length c10], .agg #[.int .i64 r.f0, .int .i64 r.f1, .int .i64 r.f2, .int .i64 r.f3, .int .i64 r.f4, .int .i64 r.f5, .int .i64 r.f6, .string r.f7, .string r.f8, .slice B9 r.f9.length d9, .slice B10 r.f10.length d10]] w fun e w' => e = .returned (.bool true) ∧ Below w.heap.size w w' := by
  unfold fewB at hf
  rw [decide_eq_true_iff] at hf
  refine careenref04_Same.calls _ _ _ _ _ _ _ _ _ A9 c9 _ A10 c10 _ _ _ _ _ _ _ _ _ _ B9 d9 _ B10 d10 _ true w h9 l9 h10 l10 g9 m9 g10 m10 ?_
  rw [Pt.rsame_f (by omega) (by omega), decide_eq_true rfl]
end Go.Proofs.Ytbnglmeljbiglaa.Wl
