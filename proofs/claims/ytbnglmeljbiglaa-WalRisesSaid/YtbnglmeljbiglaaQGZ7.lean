import Derived.Test.YtbnglmeljbiglaaQGZ0
import Derived.Test.YtbnglmeljbiglaaQGZ1
import Derived.Test.YtbnglmeljbiglaaQGZ2
import Derived.Test.YtbnglmeljbiglaaQGZ3
import Derived.Test.YtbnglmeljbiglaaQGZ6
-- Written by this session's xprint.py (the kit's print, with contracts proved by hand).
namespace Go.Proofs.Ytbnglmeljbiglaa.X4
open Go.RowKit Go.Proofs.YtbnglmeljbiglaaW.PrintWords Go.Proofs.YtbnglmeljbiglaaW.PrintLast Go.Proofs.YtbnglmeljbiglaaW.PrintMore
attribute [local go_sem] max2_int min2_int max_two min_two max_three min_three max_four min_four   -- for this text's walks alone
set_option linter.unusedVariables false
set_option linter.unusedSimpArgs false
-- NOT PRINTED: function 17 (disk_Disk_Arm)
-- NOT PRINTED: function 3 (careenlaw05_WalKeeps)
-- NOT PRINTED: function 23 (disk_Disk_Waiting)
-- NOT PRINTED: function 4 (careenlaw05_WalSafe)
-- NOT PRINTED: function 25 (wal_Log_Room)
-- NOT PRINTED: function 5 (careenlaw05_WalRoom)
-- NOT PRINTED: function 27 (wal_Log_Read)
-- NOT PRINTED: function 6 (careenlaw05_WalRises)
-- NOT PRINTED: function 31 (wal_Log_Low)
-- NOT PRINTED: function 7 (careenlaw05_WalAgain)
-- NOT PRINTED: function 32 (wal_Log_Cut)
-- NOT PRINTED: function 8 (careenlaw05_WalNil)
/-- A state of type 111 at block g of W; what its slices lead to came in by w0. -/
def IsS111 (w0 W : World) (g : Nat) (f0 : Int) (f1 : List (S44)) : Prop := ∃ A1 c1, W.heap[g]? = some (.cells #[.int .i64 f0, .slice A1 f1.length c1] 111 (0, 0)) ∧ w0.heap.size ≤ g ∧ Kd.C k44 w0 A1 f1.length f1
theorem IsS111.grown {w0 W : World} {g : Nat} {f0 : Int} {f1 : List (S44)} {W1 : World} {row : Option Nat} (h : IsS111 w0 W g f0 f1) (hw : W.grownBy W1 row) (hne : some g ≠ row) : IsS111 w0 W1 g f0 f1 := by
  obtain ⟨A1, c1, hb, hg, hr1⟩ := h
  exact ⟨A1, c1, blk_grown hb hw hne, hg, hr1⟩
theorem IsS111.fresh {w0 W : World} {g : Nat} {f0 : Int} {f1 : List (S44)} (h : IsS111 w0 W g f0 f1) : ∀ k, W.heap.size ≤ k → k ≠ g := by
  obtain ⟨A1, c1, hb, hg, hr1⟩ := h
  exact Kd.freshB hb
theorem IsS111.kept {w0 W : World} {g : Nat} {f0 : Int} {f1 : List (S44)} {W1 : World} {S : Nat → Prop} (h : IsS111 w0 W g f0 f1) (hk : Kept W W1 S) (hne : ¬ S g) : IsS111 w0 W1 g f0 f1 := by
  obtain ⟨A1, c1, hb, hg, hr1⟩ := h
  exact ⟨A1, c1, blk_kept hb hk hne, hg, hr1⟩
theorem IsS111.below {w0 W : World} {g : Nat} {f0 : Int} {f1 : List (S44)} {W1 : World} (h : IsS111 w0 W g f0 f1) (hw : Below W.heap.size W W1) : IsS111 w0 W1 g f0 f1 := h.grown (grown_of_below hw none) (by simp)
theorem IsS111.alloc {w0 W : World} {g : Nat} {f0 : Int} {f1 : List (S44)} (h : IsS111 w0 W g f0 f1) (o : Obj) : IsS111 w0 (W.alloc o) g f0 f1 := h.below (below_alloc (Below.refl _ _) o)
theorem IsS111.drewN {w0 W : World} {g : Nat} {f0 : Int} {f1 : List (S44)} (h : IsS111 w0 W g f0 f1) (m : Nat) : IsS111 w0 (W.drewN m) g f0 f1 := h
theorem IsS111.drew {w0 W : World} {g : Nat} {f0 : Int} {f1 : List (S44)} (h : IsS111 w0 W g f0 f1) : IsS111 w0 W.drew g f0 f1 := h
theorem IsS111.at_ {w0 W : World} {g : Nat} {f0 : Int} {f1 : List (S44)} {w' : World} {m : Nat} (hq : W.drewN m = w') (h : IsS111 w0 W g f0 f1) : IsS111 w0 w' g f0 f1 := by subst hq; exact IsS111.drewN h m
theorem IsS111.apart {w0 W : World} {g : Nat} {f0 : Int} {f1 : List (S44)} {α : Type} {d : Kd α} {e : Nat} {base : Nat} {ok : Nat → Prop} {v : Value} {xs : List α} (h : IsS111 w0 W g f0 f1) (ho : d.R e W base ok v xs) (ht : ∀ q, q ∈ e :: d.E → q ≠ 111) : d.R e W base (fun k => ok k ∧ k ≠ g) v xs := by
  obtain ⟨A1, c1, hb, hg, hr1⟩ := h
  exact Kd.R_types ho hb ht
theorem IsS111.own_ne {w0 W : World} {g : Nat} {f0 : Int} {f1 : List (S44)} {α : Type} {d : Kd α} {e : Nat} {base : Nat} {ok : Nat → Prop} {v : Value} {xs : List α} (h : IsS111 w0 W g f0 f1) (ho : d.R e W base ok v xs) (ht : e ≠ 111) : some g ≠ v.ownBlock := by
  obtain ⟨A1, c1, hb, hg, hr1⟩ := h
  exact Kd.R_ne ho hb ht
theorem IsS111.lt {w0 W : World} {g : Nat} {f0 : Int} {f1 : List (S44)} (h : IsS111 w0 W g f0 f1) : g < W.heap.size := by
  obtain ⟨A1, c1, hb, hg, hr1⟩ := h
  exact blk_lt hb
theorem IsS111.ge {w0 W : World} {g : Nat} {f0 : Int} {f1 : List (S44)} (h : IsS111 w0 W g f0 f1) : w0.heap.size ≤ g := by
  obtain ⟨A1, c1, hb, hg, hr1⟩ := h
  exact hg
theorem IsS111.far {w0 W : World} {g : Nat} {f0 : Int} {f1 : List (S44)} {p : Addr} (h : IsS111 w0 W g f0 f1) (hne : g ≠ p.block) (u : Value) : IsS111 w0 (W.setCell p u) g f0 f1 := by
  obtain ⟨A1, c1, hb, hg, hr1⟩ := h
  exact ⟨A1, c1, blk_far hb hne u, hg, hr1⟩
-- NOT PRINTED: function 36 (tape_Tape_List)
-- NOT PRINTED: function 37 (tape_Tape_Upto)
-- NOT PRINTED: function 58 (tape_Tape_joins)
-- NOT PRINTED: function 38 (tape_Tape_Add)
-- NOT PRINTED: function 39 (tape_Tape_Whole)
-- NOT PRINTED: function 33 (careenlaw15_awake)
-- NOT PRINTED: function 9 (careenlaw15_TapeGrows)
-- NOT PRINTED: function 74 (page_Empty)
-- NOT PRINTED: function 89 (page_Put)
-- NOT PRINTED: function 75 (page_Apply)
-- NOT PRINTED: function 59 (redo_One)
-- NOT PRINTED: function 40 (tape_Tape_Page)
-- NOT PRINTED: function 41 (tape_Tape_Copy)
-- NOT PRINTED: function 10 (careenlaw15_TapeNil)
end Go.Proofs.Ytbnglmeljbiglaa.X4
set_option maxRecDepth 8192
namespace Go.Proofs.Ytbnglmeljbiglaa.Rp
open Go Go.RowKit Go.Proofs.YtbnglmeljbiglaaW.PrintWords Go.Proofs.Ytbnglmeljbiglaa.X4
set_option linter.unusedSimpArgs false
set_option linter.unusedVariables false
def spotB (r : S37) : Bool := decide (0 ≤ r.f2 ∧ r.f2 ≤ 7 ∧ 0 ≤ r.f3 ∧ r.f3 ≤ 220 ∧ 1 ≤ r.f8.size ∧ r.f8.size ≤ 16 ∧ r.f3 + r.f8.size ≤ 220)
def rowTB (x : S107) : Bool := decide (1 ≤ x.f0) && [x.f0, x.f1, x.f2].all isNum
def rowQB (x : S109) : Bool := decide (0 ≤ x.f0 ∧ x.f0 ≤ 7) && isNum x.f1
def mayB (r : S37) : Bool :=
  if r.f0 = 1 then decide (1 ≤ r.f1) && ([r.f1, r.f4].all isNum && (spotB r && (decide (r.f7.size = r.f8.size) && decide (r = ⟨1, r.f1, r.f2, r.f3, r.f4, 0, 0, r.f7, r.f8, [], []⟩))))
  else if r.f0 = 2 then decide (1 ≤ r.f1) && ([r.f1, r.f4, r.f5].all isNum && (spotB r && decide (r = ⟨2, r.f1, r.f2, r.f3, r.f4, r.f5, 0, ⟨#[]⟩, r.f8, [], []⟩)))
  else if r.f0 = 3 ∨ r.f0 = 4 then decide (1 ≤ r.f1) && ([r.f1, r.f4].all isNum && decide (r = ⟨r.f0, r.f1, 0, 0, r.f4, 0, 0, ⟨#[]⟩, ⟨#[]⟩, [], []⟩))
  else if r.f0 = 5 then decide (r = ⟨5, 0, 0, 0, 0, 0, 0, ⟨#[]⟩, ⟨#[]⟩, [], []⟩)
  else if r.f0 = 6 then [r.f6].all isNum && (decide (r.f9.length ≤ 4) && (decide (r.f10.length ≤ 8) && (decide (r = ⟨6, 0, 0, 0, 0, 0, r.f6, ⟨#[]⟩, ⟨#[]⟩, r.f9, r.f10⟩) && (r.f9.all rowTB && r.f10.all rowQB))))
  else false
end Go.Proofs.Ytbnglmeljbiglaa.Rp
set_option maxRecDepth 8192
namespace Go.Proofs.Ytbnglmeljbiglaa.Pt
open Go Go.RowKit Go.Proofs.YtbnglmeljbiglaaW.PrintWords Go.Proofs.Ytbnglmeljbiglaa.X4 Go.Proofs.Ytbnglmeljbiglaa.Rp Go.Proofs.Ytbnglmeljbiglaa.Wr
set_option linter.unusedVariables false
set_option linter.unusedSimpArgs false
theorem cat_eq {a b : Option (List UInt8)} {c : List UInt8} (h : cat a b = some c) : ∃ x y, a = some x ∧ b = some y ∧ c = x ++ y := by
  cases a with
  | none => cases h
  | some x =>
    cases b with
    | none => cases h
    | some y => exact ⟨x, y, rfl, rfl, (Option.some.inj h).symm⟩
theorem small_eq2 {n m : Int} {bs : List UInt8} (h : smallP n m = some bs) : 0 ≤ n ∧ n ≤ m ∧ bs = [b8 n] := by
  unfold smallP at h
  split at h
  · rename_i c; exact ⟨c.1, c.2, (Option.some.inj h).symm⟩
  · cases h
theorem num_eq2 {n : Int} {bs : List UInt8} (h : numP [n] = some bs) : isNum n = true ∧ bs = four n := by
  unfold numP at h
  split at h
  · rename_i c
    simp at c
    exact ⟨c, by simpa using (Option.some.inj h).symm⟩
  · cases h
theorem num_eq3 {n m : Int} {bs : List UInt8} (h : numP [n, m] = some bs) : isNum n = true ∧ isNum m = true ∧ bs = four n ++ four m := by
  unfold numP at h
  split at h
  · rename_i c
    simp at c
    exact ⟨c.1, c.2, by simpa using (Option.some.inj h).symm⟩
  · cases h
theorem txn_eq2 {n : Int} {bs : List UInt8} (h : txnP n = some bs) : 1 ≤ n ∧ isNum n = true ∧ bs = four n := by
  unfold txnP at h
  split at h
  · rename_i c; exact ⟨c, num_eq2 h⟩
  · cases h
/-- At place p of s stand these bytes. -/
def At (s : ByteArray) (p : Nat) (l : List UInt8) : Prop := p + l.length ≤ s.size ∧ (s.data.toList.drop p).take l.length = l
theorem at_append {s : ByteArray} {p : Nat} {a b : List UInt8} : At s p (a ++ b) ↔ At s p a ∧ At s (p + a.length) b := by
  unfold At
  rw [List.length_append]
  constructor
  · rintro ⟨h1, h2⟩
    have h3 := congrArg (List.take a.length) h2
    have h4 := congrArg (List.drop a.length) h2
    rw [List.take_take, Nat.min_eq_left (by omega), List.take_left] at h3
    rw [List.drop_take, List.drop_drop, List.drop_left, Nat.add_sub_cancel_left] at h4
    exact ⟨⟨by omega, h3⟩, by omega, h4⟩
  · rintro ⟨⟨h1, h2⟩, h3, h4⟩
    refine ⟨by omega, ?_⟩
    rw [List.take_add, h2, List.drop_drop, h4]
theorem len_eq (s : ByteArray) : s.data.toList.length = s.size := by rw [Array.length_toList]; rfl
theorem bt_at2 {s : ByteArray} {i : Nat} {x : UInt8} (h : s.data.toList[i]? = some x) : bt s (i : Int) = (x.toNat : Int) := by
  have hi : i < s.size := by
    rw [← len_eq]
    exact (List.getElem?_eq_some_iff.1 h).1
  have := bt_at s (i : Int) (by simpa using hi)
  rw [← this]
  have h2 : s.data.toList[i]? = some (s[i]'hi) := by
    rw [List.getElem?_eq_getElem (by rw [len_eq]; exact hi)]
    rfl
  rw [h] at h2
  simp only [Int.toNat_natCast]
  rw [Option.some.inj h2]
theorem ext_list (s : ByteArray) (a b : Nat) : (s.extract a b).data.toList = (s.data.toList.drop a).take (b - a) := by simp
theorem take_of_at {s : ByteArray} {p : Nat} {l : List UInt8} (h : At s p l) : takeR s p l.length = some (⟨l.toArray⟩, p + l.length) := by
  unfold takeR
  rw [if_pos h.1]
  have e : s.extract p (p + l.length) = ⟨l.toArray⟩ := by
    apply ByteArray.ext
    apply Array.toList_inj.1
    rw [ext_list, Nat.add_sub_cancel_left, h.2]
  rw [e]
theorem at_of_take {s : ByteArray} {p n : Nat} {b : ByteArray} {q : Nat} (h : takeR s p n = some (b, q)) : At s p b.data.toList ∧ q = p + n ∧ b.size = n := by
  have hs := take_size h
  unfold takeR at h
  split at h
  · rename_i c
    simp only [Option.some.injEq, Prod.mk.injEq] at h
    obtain ⟨h1, h2⟩ := h
    subst h1
    refine ⟨⟨by rw [len_eq]; omega, ?_⟩, by omega, hs.1⟩
    rw [len_eq, ext_list, Nat.add_sub_cancel_left, hs.1]
  · cases h
theorem b8_id (v : Int) (x : UInt8) (h : v = (x.toNat : Int)) : b8 v = x := by
  subst h
  unfold b8
  have := x.toNat_lt
  rw [show ((x.toNat : Int) % 256).toNat = x.toNat by omega]
  exact UInt8.ofNat_toNat
theorem small_of_at {s : ByteArray} {p : Nat} {n : Int} (h0 : 0 ≤ n) (h1 : n ≤ 255) (h : At s p [b8 n]) : smallR s p = some (n, p + 1) := by
  unfold smallR
  have ht := take_of_at h
  simp only [List.length_cons, List.length_nil, Nat.zero_add] at ht
  rw [ht]
  have hb : bt (⟨[b8 n].toArray⟩ : ByteArray) 0 = n := by
    have := bt_at2 (s := ⟨[b8 n].toArray⟩) (i := 0) (x := b8 n) rfl
    rw [show ((0 : Nat) : Int) = 0 from rfl] at this
    rw [this, b8_nat]
    omega
  simp only [Option.map_some, hb]
theorem at_of_small {s : ByteArray} {p : Nat} {v : Int} {q : Nat} (h : smallR s p = some (v, q)) : 0 ≤ v ∧ v ≤ 255 ∧ At s p [b8 v] ∧ q = p + 1 := by
  have h2 := small_some h
  unfold smallR at h
  cases h1 : takeR s p 1 with
  | none => rw [h1] at h; cases h
  | some b =>
    obtain ⟨b, q'⟩ := b
    rw [h1] at h
    simp only [Option.map_some, Option.some.injEq, Prod.mk.injEq] at h
    obtain ⟨rfl, rfl⟩ := h
    obtain ⟨ha, hq, hb⟩ := at_of_take h1
    refine ⟨h2.2.2.1, h2.2.2.2, ?_, hq⟩
    have hl : b.data.toList.length = 1 := by rw [len_eq, hb]
    obtain ⟨x, hx⟩ := List.length_eq_one_iff.1 hl
    have := bt_at2 (s := b) (i := 0) (x := x) (by rw [hx]; rfl)
    rw [show ((0 : Nat) : Int) = 0 from rfl] at this
    rw [hx] at ha
    rwa [b8_id _ x this]
theorem four_len (n : Int) : (four n).length = 4 := rfl
theorem num_of_at {s : ByteArray} {p : Nat} {n : Int} (hn : isNum n = true) (h : At s p (four n)) : numR s p = some (n, p + 4) := by
  have hn := (isNum_iff n).1 hn
  unfold numR
  have ht := take_of_at h
  rw [four_len] at ht
  rw [ht]
  have e : ∀ (i : Nat) (x : UInt8), (four n)[i]? = some x → bt (⟨(four n).toArray⟩ : ByteArray) (i : Int) = (x.toNat : Int) := fun i x hx => bt_at2 (by simpa using hx)
  have e0 := e 0 _ rfl; have e1 := e 1 _ rfl; have e2 := e 2 _ rfl; have e3 := e 3 _ rfl
  rw [b8_nat] at e0 e1 e2 e3
  have e0 : bt (⟨(four n).toArray⟩ : ByteArray) 0 = n / 16777216 % 256 := e0
  have e1 : bt (⟨(four n).toArray⟩ : ByteArray) 1 = n / 65536 % 256 := e1
  have e2 : bt (⟨(four n).toArray⟩ : ByteArray) 2 = n / 256 % 256 := e2
  have e3 : bt (⟨(four n).toArray⟩ : ByteArray) 3 = n % 256 := e3
  simp only [Option.map_some]
  unfold num4
  rw [e0, e1, e2, e3]
  congr 2
  omega
theorem at_of_num {s : ByteArray} {p : Nat} {v : Int} {q : Nat} (h : numR s p = some (v, q)) : At s p (four v) ∧ q = p + 4 ∧ 0 ≤ v := by
  unfold numR at h
  cases h1 : takeR s p 4 with
  | none => rw [h1] at h; cases h
  | some b =>
    obtain ⟨b, q'⟩ := b
    rw [h1] at h
    simp only [Option.map_some, Option.some.injEq, Prod.mk.injEq] at h
    obtain ⟨rfl, rfl⟩ := h
    obtain ⟨ha, hq, hb⟩ := at_of_take h1
    have hl : b.data.toList.length = 4 := by rw [len_eq, hb]
    obtain ⟨x, y, z, u, hx⟩ : ∃ x y z u, b.data.toList = [x, y, z, u] := by
      match hh : b.data.toList, hl with
      | [x, y, z, u], _ => exact ⟨x, y, z, u, rfl⟩
    have e : ∀ (i : Nat) (x : UInt8), b.data.toList[i]? = some x → bt b (i : Int) = (x.toNat : Int) := fun i x hx => bt_at2 hx
    have e0 : bt b 0 = (x.toNat : Int) := e 0 x (by rw [hx]; rfl)
    have e1 : bt b 1 = (y.toNat : Int) := e 1 y (by rw [hx]; rfl)
    have e2 : bt b 2 = (z.toNat : Int) := e 2 z (by rw [hx]; rfl)
    have e3 : bt b 3 = (u.toNat : Int) := e 3 u (by rw [hx]; rfl)
    have hx0 := x.toNat_lt; have hy0 := y.toNat_lt; have hz0 := z.toNat_lt; have hu0 := u.toNat_lt
    refine ⟨?_, hq, by unfold num4; omega⟩
    rw [hx] at ha
    have key : four (num4 b) = [x, y, z, u] := by
      unfold four num4
      rw [e0, e1, e2, e3]
      have b8m : ∀ (v : Int) (c : UInt8), v % 256 = (c.toNat : Int) → b8 v = c := fun v c hv => by
        rw [show b8 v = b8 (v % 256) by unfold b8; rw [Int.emod_emod_of_dvd v (by decide)]]
        exact b8_id _ c hv
      rw [b8m _ x (by omega), b8m _ y (by omega), b8m _ z (by omega), b8m _ u (by omega)]
    rwa [key]
theorem at_nil (s : ByteArray) (p : Nat) (h : p ≤ s.size) : At s p [] := ⟨by simpa using h, by simp⟩
/-- A row of the tables. -/
theorem rowT_of_at {s : ByteArray} {p : Nat} {x : S107} {bs : List UInt8} (hb : rowT x = some bs) (h : At s p bs) : rowT1 s p = some (x, p + 12) ∧ bs.length = 12 := by
  unfold rowT at hb
  obtain ⟨a, b, ha, hb', rfl⟩ := cat_eq hb
  obtain ⟨h1, h2, rfl⟩ := txn_eq2 ha
  obtain ⟨h3, h4, rfl⟩ := num_eq3 hb'
  rw [at_append, at_append] at h
  obtain ⟨k1, k2, k3⟩ := h
  have n1 := num_of_at h2 k1
  have n2 := num_of_at h3 k2
  have n3 := num_of_at h4 k3
  rw [four_len] at n2 n3
  rw [four_len] at n3
  refine ⟨?_, by simp [four_len]⟩
  unfold rowT1
  simp only [n1, n2, n3, Option.bind_some]
theorem rowQ_of_at {s : ByteArray} {p : Nat} {x : S109} {bs : List UInt8} (hb : rowQ x = some bs) (h : At s p bs) : rowQ1 s p = some (x, p + 5) ∧ bs.length = 5 := by
  unfold rowQ at hb
  obtain ⟨a, b, ha, hb', rfl⟩ := cat_eq hb
  obtain ⟨h1, h2, rfl⟩ := small_eq2 ha
  obtain ⟨h3, rfl⟩ := num_eq2 hb'
  rw [at_append] at h
  obtain ⟨k1, k2⟩ := h
  have n1 := small_of_at h1 (by omega) k1
  have n2 := num_of_at h3 k2
  simp only [List.length_cons, List.length_nil, Nat.zero_add] at n2
  refine ⟨?_, by simp [four_len]⟩
  unfold rowQ1
  simp only [n1, n2, Option.bind_some]
theorem rowT_to_at {s : ByteArray} {p : Nat} {x : S107} {q : Nat} {bs : List UInt8} (h : rowT1 s p = some (x, q)) (hb : rowT x = some bs) : At s p bs ∧ q = p + 12 := by
  unfold rowT1 at h
  simp only [Option.bind_eq_some_iff] at h
  obtain ⟨⟨a, pa⟩, ha, ⟨b, pb⟩, hb2, ⟨c, pc⟩, hc, h⟩ := h
  simp only [Option.some.injEq, Prod.mk.injEq] at h
  obtain ⟨rfl, rfl⟩ := h
  unfold rowT at hb
  obtain ⟨u, v, hu, hv, rfl⟩ := cat_eq hb
  obtain ⟨-, -, rfl⟩ := txn_eq2 hu
  obtain ⟨-, -, rfl⟩ := num_eq3 hv
  obtain ⟨k1, e1, -⟩ := at_of_num ha
  obtain ⟨k2, e2, -⟩ := at_of_num hb2
  obtain ⟨k3, e3, -⟩ := at_of_num hc
  simp only at e1 e2 e3 k1 k2 k3 ⊢
  subst e1; subst e2
  exact ⟨at_append.2 ⟨k1, at_append.2 ⟨k2, k3⟩⟩, e3⟩
theorem rowQ_to_at {s : ByteArray} {p : Nat} {x : S109} {q : Nat} {bs : List UInt8} (h : rowQ1 s p = some (x, q)) (hb : rowQ x = some bs) : At s p bs ∧ q = p + 5 := by
  unfold rowQ1 at h
  simp only [Option.bind_eq_some_iff] at h
  obtain ⟨⟨a, pa⟩, ha, ⟨b, pb⟩, hb2, h⟩ := h
  simp only [Option.some.injEq, Prod.mk.injEq] at h
  obtain ⟨rfl, rfl⟩ := h
  unfold rowQ at hb
  obtain ⟨u, v, hu, hv, rfl⟩ := cat_eq hb
  obtain ⟨-, -, rfl⟩ := small_eq2 hu
  obtain ⟨-, rfl⟩ := num_eq2 hv
  obtain ⟨-, -, k1, e1⟩ := at_of_small ha
  obtain ⟨k2, e2, -⟩ := at_of_num hb2
  simp only at e1 e2 k1 k2 ⊢
  subst e1
  exact ⟨at_append.2 ⟨k1, k2⟩, e2⟩
theorem join_snoc {α : Type} {f : α → Option (List UInt8)} {t : List α} {x : α} {bs : List UInt8} (h : joinP ((t ++ [x]).map f) = some bs) : ∃ u v, joinP (t.map f) = some u ∧ f x = some v ∧ bs = u ++ v := by
  rw [List.map_append, join_append] at h
  obtain ⟨u, v, hu, hv, rfl⟩ := cat_eq h
  simp only [List.map_cons, List.map_nil, joinP] at hv
  obtain ⟨y, z, hy, hz, rfl⟩ := cat_eq hv
  injection hz with hz
  subst hz
  exact ⟨u, y, hu, hy, by simp⟩
theorem rowsT_of_at {s : ByteArray} {p : Nat} (l : List S107) : ∀ {bs : List UInt8}, joinP (l.map rowT) = some bs → At s p bs → rowsT s l.length p = some (l, p + 12 * l.length) ∧ bs.length = 12 * l.length := by
  have key : ∀ (m : List S107) {bs : List UInt8}, joinP (m.reverse.map rowT) = some bs → At s p bs → rowsT s m.reverse.length p = some (m.reverse, p + 12 * m.reverse.length) ∧ bs.length = 12 * m.reverse.length := fun m => by
    induction m with
    | nil =>
      intro bs h _
      injection h with h
      subst h
      exact ⟨rfl, rfl⟩
    | cons x t ih =>
      intro bs h hat
      rw [List.reverse_cons] at h ⊢
      obtain ⟨u, v, hu, hv, rfl⟩ := join_snoc h
      obtain ⟨k1, k2⟩ := at_append.1 hat
      obtain ⟨i1, i2⟩ := ih hu k1
      rw [i2] at k2
      obtain ⟨r1, r2⟩ := rowT_of_at hv k2
      refine ⟨?_, by rw [List.length_append, List.length_append, i2, r2]; simp; omega⟩
      rw [List.length_append]
      simp only [List.length_cons, List.length_nil, rowsT, i1, Option.bind_some, r1, Option.some.injEq, Prod.mk.injEq, true_and]
      omega
  intro bs h hat
  have := key l.reverse (bs := bs) (by rwa [List.reverse_reverse]) hat
  rwa [List.reverse_reverse] at this
theorem rowsQ_of_at {s : ByteArray} {p : Nat} (l : List S109) : ∀ {bs : List UInt8}, joinP (l.map rowQ) = some bs → At s p bs → rowsQ s l.length p = some (l, p + 5 * l.length) ∧ bs.length = 5 * l.length := by
  have key : ∀ (m : List S109) {bs : List UInt8}, joinP (m.reverse.map rowQ) = some bs → At s p bs → rowsQ s m.reverse.length p = some (m.reverse, p + 5 * m.reverse.length) ∧ bs.length = 5 * m.reverse.length := fun m => by
    induction m with
    | nil =>
      intro bs h _
      injection h with h
      subst h
      exact ⟨rfl, rfl⟩
    | cons x t ih =>
      intro bs h hat
      rw [List.reverse_cons] at h ⊢
      obtain ⟨u, v, hu, hv, rfl⟩ := join_snoc h
      obtain ⟨k1, k2⟩ := at_append.1 hat
      obtain ⟨i1, i2⟩ := ih hu k1
      rw [i2] at k2
      obtain ⟨r1, r2⟩ := rowQ_of_at hv k2
      refine ⟨?_, by rw [List.length_append, List.length_append, i2, r2]; simp; omega⟩
      rw [List.length_append]
      simp only [List.length_cons, List.length_nil, rowsQ, i1, Option.bind_some, r1, Option.some.injEq, Prod.mk.injEq, true_and]
      omega
  intro bs h hat
  have := key l.reverse (bs := bs) (by rwa [List.reverse_reverse]) hat
  rwa [List.reverse_reverse] at this
theorem rowsT_to_at {s : ByteArray} {p : Nat} (n : Nat) : ∀ {l : List S107} {q : Nat} {bs : List UInt8}, p ≤ s.size → rowsT s n p = some (l, q) → joinP (l.map rowT) = some bs → At s p bs ∧ q = p + 12 * n ∧ l.length = n ∧ bs.length = 12 * n := by
  induction n with
  | zero =>
    intro l q bs hp h hj
    simp only [rowsT, Option.some.injEq, Prod.mk.injEq] at h
    obtain ⟨rfl, rfl⟩ := h
    injection hj with hj
    subst hj
    exact ⟨at_nil s p hp, rfl, rfl, rfl⟩
  | succ n ih =>
    intro l q bs hp h hj
    simp only [rowsT, Option.bind_eq_some_iff] at h
    obtain ⟨⟨l0, q0⟩, h0, ⟨x, q1⟩, h1, h⟩ := h
    simp only [Option.some.injEq, Prod.mk.injEq] at h h1
    obtain ⟨rfl, rfl⟩ := h
    obtain ⟨u, v, hu, hv, rfl⟩ := join_snoc hj
    obtain ⟨k1, k2, k3, k4⟩ := ih hp h0 hu
    subst k2
    obtain ⟨r1, r2⟩ := rowT_to_at h1 hv
    have r3 : v.length = 12 := (rowT_of_at hv r1).2
    refine ⟨at_append.2 ⟨k1, by rw [k4]; exact r1⟩, by omega, by rw [List.length_append, k3]; rfl, by rw [List.length_append, k4, r3]; omega⟩
theorem rowsQ_to_at {s : ByteArray} {p : Nat} (n : Nat) : ∀ {l : List S109} {q : Nat} {bs : List UInt8}, p ≤ s.size → rowsQ s n p = some (l, q) → joinP (l.map rowQ) = some bs → At s p bs ∧ q = p + 5 * n ∧ l.length = n ∧ bs.length = 5 * n := by
  induction n with
  | zero =>
    intro l q bs hp h hj
    simp only [rowsQ, Option.some.injEq, Prod.mk.injEq] at h
    obtain ⟨rfl, rfl⟩ := h
    injection hj with hj
    subst hj
    exact ⟨at_nil s p hp, rfl, rfl, rfl⟩
  | succ n ih =>
    intro l q bs hp h hj
    simp only [rowsQ, Option.bind_eq_some_iff] at h
    obtain ⟨⟨l0, q0⟩, h0, ⟨x, q1⟩, h1, h⟩ := h
    simp only [Option.some.injEq, Prod.mk.injEq] at h h1
    obtain ⟨rfl, rfl⟩ := h
    obtain ⟨u, v, hu, hv, rfl⟩ := join_snoc hj
    obtain ⟨k1, k2, k3, k4⟩ := ih hp h0 hu
    subst k2
    obtain ⟨r1, r2⟩ := rowQ_to_at h1 hv
    have r3 : v.length = 5 := (rowQ_of_at hv r1).2
    refine ⟨at_append.2 ⟨k1, by rw [k4]; exact r1⟩, by omega, by rw [List.length_append, k3]; rfl, by rw [List.length_append, k4, r3]; omega⟩
end Go.Proofs.Ytbnglmeljbiglaa.Pt
set_option maxRecDepth 8192
namespace Go.Proofs.Ytbnglmeljbiglaa.Pt
open Go Go.RowKit Go.Proofs.YtbnglmeljbiglaaW.PrintWords Go.Proofs.Ytbnglmeljbiglaa.X4 Go.Proofs.Ytbnglmeljbiglaa.Rp Go.Proofs.Ytbnglmeljbiglaa.Wr
set_option linter.unusedVariables false
set_option linter.unusedSimpArgs false
theorem rec_cut {r : S37} {bs : List UInt8} (h : recP r = some bs) : 0 ≤ r.f0 ∧ r.f0 ≤ 6 ∧ ∃ b, bodyP r = some b ∧ bs = b8 r.f0 :: b := by
  unfold recP at h
  obtain ⟨x, y, hx, hy, rfl⟩ := cat_eq h
  obtain ⟨h1, h2, rfl⟩ := small_eq2 hx
  exact ⟨h1, h2, y, hy, rfl⟩
theorem body1 {r : S37} {b : List UInt8} (e : r.f0 = 1) (h : bodyP r = some b) : (1 ≤ r.f1 ∧ isNum r.f1 = true) ∧ isNum r.f4 = true ∧ (0 ≤ r.f2 ∧ r.f2 ≤ 7) ∧ (0 ≤ r.f3 ∧ r.f3 ≤ 220 - min (r.f8.size : Int) 220) ∧ (1 ≤ (r.f8.size : Int) ∧ (r.f8.size : Int) ≤ 16) ∧ r.f7.size = r.f8.size ∧ b = four r.f1 ++ (four r.f4 ++ (([b8 r.f2] ++ ([b8 r.f3] ++ [b8 (r.f8.size : Int)])) ++ (r.f7.data.toList ++ r.f8.data.toList))) := by
  unfold bodyP at h
  rw [if_pos e] at h
  obtain ⟨x1, y1, h1, k1, rfl⟩ := cat_eq h
  obtain ⟨x2, y2, h2, k2, rfl⟩ := cat_eq k1
  obtain ⟨x3, y3, h3, k3, rfl⟩ := cat_eq k2
  obtain ⟨t1, t2, rfl⟩ := txn_eq2 h1
  obtain ⟨t3, rfl⟩ := num_eq2 h2
  split at k3
  · rename_i c
    injection k3 with k3
    subst k3
    unfold placeP at h3
    split at h3
    · rename_i c1
      obtain ⟨x4, y4, h4, k4, rfl⟩ := cat_eq h3
      obtain ⟨x5, y5, h5, k5, rfl⟩ := cat_eq k4
      obtain ⟨q1, q2, rfl⟩ := small_eq2 h4
      obtain ⟨q3, q4, rfl⟩ := small_eq2 h5
      obtain ⟨q5, q6, rfl⟩ := small_eq2 k5
      exact ⟨⟨t1, t2⟩, t3, ⟨q1, q2⟩, ⟨q3, q4⟩, ⟨c1, q6⟩, c, rfl⟩
    · cases h3
  · cases k3
theorem body2 {r : S37} {b : List UInt8} (e : r.f0 = 2) (h : bodyP r = some b) : (1 ≤ r.f1 ∧ isNum r.f1 = true) ∧ isNum r.f4 = true ∧ isNum r.f5 = true ∧ (0 ≤ r.f2 ∧ r.f2 ≤ 7) ∧ (0 ≤ r.f3 ∧ r.f3 ≤ 220 - min (r.f8.size : Int) 220) ∧ (1 ≤ (r.f8.size : Int) ∧ (r.f8.size : Int) ≤ 16) ∧ b = four r.f1 ++ ((four r.f4 ++ four r.f5) ++ (([b8 r.f2] ++ ([b8 r.f3] ++ [b8 (r.f8.size : Int)])) ++ r.f8.data.toList)) := by
  unfold bodyP at h
  rw [if_neg (by omega), if_pos e] at h
  obtain ⟨x1, y1, h1, k1, rfl⟩ := cat_eq h
  obtain ⟨x2, y2, h2, k2, rfl⟩ := cat_eq k1
  obtain ⟨x3, y3, h3, k3, rfl⟩ := cat_eq k2
  obtain ⟨t1, t2, rfl⟩ := txn_eq2 h1
  obtain ⟨t3, t4, rfl⟩ := num_eq3 h2
  injection k3 with k3
  subst k3
  unfold placeP at h3
  split at h3
  · rename_i c1
    obtain ⟨x4, y4, h4, k4, rfl⟩ := cat_eq h3
    obtain ⟨x5, y5, h5, k5, rfl⟩ := cat_eq k4
    obtain ⟨q1, q2, rfl⟩ := small_eq2 h4
    obtain ⟨q3, q4, rfl⟩ := small_eq2 h5
    obtain ⟨q5, q6, rfl⟩ := small_eq2 k5
    exact ⟨⟨t1, t2⟩, t3, t4, ⟨q1, q2⟩, ⟨q3, q4⟩, ⟨c1, q6⟩, rfl⟩
  · cases h3
theorem body3 {r : S37} {b : List UInt8} (e : r.f0 = 3 ∨ r.f0 = 4) (h : bodyP r = some b) : (1 ≤ r.f1 ∧ isNum r.f1 = true) ∧ isNum r.f4 = true ∧ b = four r.f1 ++ four r.f4 := by
  unfold bodyP at h
  rw [if_neg (by omega), if_neg (by omega), if_pos e] at h
  obtain ⟨x1, y1, h1, k1, rfl⟩ := cat_eq h
  obtain ⟨t1, t2, rfl⟩ := txn_eq2 h1
  obtain ⟨t3, rfl⟩ := num_eq2 k1
  exact ⟨⟨t1, t2⟩, t3, rfl⟩
theorem body6 {r : S37} {b : List UInt8} (e : r.f0 = 6) (h : bodyP r = some b) : isNum r.f6 = true ∧ r.f9.length ≤ 4 ∧ r.f10.length ≤ 8 ∧ ∃ bt bq, joinP (r.f9.map rowT) = some bt ∧ joinP (r.f10.map rowQ) = some bq ∧ b = four r.f6 ++ ([b8 (r.f9.length : Int)] ++ (bt ++ ([b8 (r.f10.length : Int)] ++ bq))) := by
  unfold bodyP at h
  rw [if_neg (by omega), if_neg (by omega), if_neg (by omega), if_neg (by omega), if_pos e] at h
  unfold tablesP at h
  obtain ⟨x1, y1, h1, k1, rfl⟩ := cat_eq h
  obtain ⟨x2, y2, h2, k2, rfl⟩ := cat_eq k1
  obtain ⟨x3, y3, h3, k3, rfl⟩ := cat_eq k2
  obtain ⟨x4, y4, h4, k4, rfl⟩ := cat_eq k3
  obtain ⟨t1, rfl⟩ := num_eq2 h1
  obtain ⟨q1, q2, rfl⟩ := small_eq2 h2
  obtain ⟨q3, q4, rfl⟩ := small_eq2 h4
  exact ⟨t1, by omega, by omega, x3, y4, h3, k4, rfl⟩
theorem take_of_at' {s : ByteArray} {p n : Nat} {b : ByteArray} (h : At s p b.data.toList) (hn : b.size = n) : takeR s p n = some (b, p + n) := by
  have := take_of_at h
  rw [len_eq, hn] at this
  rw [this]
/-- What is printed is read. -/
theorem rec_of_at {s : ByteArray} {p : Nat} {r : S37} {bs : List UInt8} (h : recP r = some bs) (ho : ownR r = r) (hs : At s p bs) : recR s p = some (r, p + bs.length) := by
  obtain ⟨k0, k6, b, hb, rfl⟩ := rec_cut h
  obtain ⟨a1, a2⟩ := (at_append (a := [b8 r.f0])).1 hs
  have n0 := small_of_at k0 (by omega) a1
  unfold recR
  rw [n0, Option.bind_some]
  have ho2 := ho
  unfold ownR at ho2
  by_cases e1 : r.f0 = 1
  · obtain ⟨⟨c1, c2⟩, c3, ⟨c4, c5⟩, ⟨c6, c7⟩, ⟨c8, c9⟩, c10, rfl⟩ := body1 e1 hb
    obtain ⟨d1, a2⟩ := at_append.1 a2
    obtain ⟨d2, a2⟩ := at_append.1 a2
    obtain ⟨a3, a2⟩ := at_append.1 a2
    obtain ⟨d3, a3⟩ := at_append.1 a3
    obtain ⟨d4, d5⟩ := at_append.1 a3
    obtain ⟨d6, d7⟩ := at_append.1 a2
    have m1 : numR s (p + 1) = some (r.f1, p + 5) := num_of_at c2 d1
    have m2 : numR s (p + 5) = some (r.f4, p + 9) := num_of_at c3 d2
    have m3 : smallR s (p + 9) = some (r.f2, p + 10) := small_of_at c4 (by omega) d3
    have m4 : smallR s (p + 10) = some (r.f3, p + 11) := small_of_at c6 (by omega) d4
    have m5 : smallR s (p + 11) = some ((r.f8.size : Int), p + 12) := small_of_at (by omega) (by omega) d5
    have m6 : takeR s (p + 12) r.f8.size = some (r.f7, p + 12 + r.f8.size) := take_of_at' d6 c10
    have m7 : takeR s (p + 12 + r.f8.size) r.f8.size = some (r.f8, p + 12 + r.f8.size + r.f8.size) := by
      refine take_of_at' ?_ rfl
      rw [len_eq, c10] at d7
      exact d7
    rw [if_pos e1] at ho2 ⊢
    simp only [m1, m2, m3, m4, m5, Option.bind_some, Int.toNat_natCast, m6, m7, ho2]
    simp only [List.length_cons, List.length_append, four_len, List.length_nil, len_eq, c10, Option.some.injEq, Prod.mk.injEq, true_and]
    omega
  by_cases e2 : r.f0 = 2
  · obtain ⟨⟨c1, c2⟩, c3, c3b, ⟨c4, c5⟩, ⟨c6, c7⟩, ⟨c8, c9⟩, rfl⟩ := body2 e2 hb
    obtain ⟨d1, a2⟩ := at_append.1 a2
    obtain ⟨d2, a2⟩ := at_append.1 a2
    obtain ⟨d2, d2b⟩ := at_append.1 d2
    obtain ⟨a3, d6⟩ := at_append.1 a2
    obtain ⟨d3, a3⟩ := at_append.1 a3
    obtain ⟨d4, d5⟩ := at_append.1 a3
    have m1 : numR s (p + 1) = some (r.f1, p + 5) := num_of_at c2 d1
    have m2 : numR s (p + 5) = some (r.f4, p + 9) := num_of_at c3 d2
    have m2b : numR s (p + 9) = some (r.f5, p + 13) := num_of_at c3b d2b
    have m3 : smallR s (p + 13) = some (r.f2, p + 14) := small_of_at c4 (by omega) d3
    have m4 : smallR s (p + 14) = some (r.f3, p + 15) := small_of_at c6 (by omega) d4
    have m5 : smallR s (p + 15) = some ((r.f8.size : Int), p + 16) := small_of_at (by omega) (by omega) d5
    have m6 : takeR s (p + 16) r.f8.size = some (r.f8, p + 16 + r.f8.size) := take_of_at' d6 rfl
    rw [if_neg e1, if_pos e2] at ho2 ⊢
    simp only [m1, m2, m2b, m3, m4, m5, Option.bind_some, Int.toNat_natCast, m6, ho2]
    simp only [List.length_cons, List.length_append, four_len, List.length_nil, len_eq, Option.some.injEq, Prod.mk.injEq, true_and]
    omega
  by_cases e3 : r.f0 = 3 ∨ r.f0 = 4
  · obtain ⟨⟨c1, c2⟩, c3, rfl⟩ := body3 e3 hb
    obtain ⟨d1, d2⟩ := at_append.1 a2
    have m1 : numR s (p + 1) = some (r.f1, p + 5) := num_of_at c2 d1
    have m2 : numR s (p + 5) = some (r.f4, p + 9) := num_of_at c3 d2
    rw [if_neg e1, if_neg e2, if_pos e3] at ho2 ⊢
    simp only [List.length_cons, List.length_nil, Nat.zero_add, m1, m2, Option.bind_some, ho2]
    simp only [List.length_append, four_len, Option.some.injEq, Prod.mk.injEq, true_and]
  by_cases e6 : r.f0 = 6
  · obtain ⟨c1, c2, c3, bt, bq, c4, c5, rfl⟩ := body6 e6 hb
    obtain ⟨d1, a2⟩ := at_append.1 a2
    obtain ⟨d2, a2⟩ := at_append.1 a2
    obtain ⟨d3, a2⟩ := at_append.1 a2
    obtain ⟨d4, d5⟩ := at_append.1 a2
    have m1 : numR s (p + 1) = some (r.f6, p + 5) := num_of_at c1 d1
    have m2 : smallR s (p + 5) = some ((r.f9.length : Int), p + 6) := small_of_at (by omega) (by omega) d2
    have m3 : rowsT s r.f9.length (p + 6) = some (r.f9, p + 6 + 12 * r.f9.length) := (rowsT_of_at _ c4 d3).1
    have l3 := (rowsT_of_at _ c4 d3).2
    rw [l3] at d4 d5
    have m4 : smallR s (p + 6 + 12 * r.f9.length) = some ((r.f10.length : Int), p + 6 + 12 * r.f9.length + 1) := small_of_at (by omega) (by omega) d4
    have m5 : rowsQ s r.f10.length (p + 6 + 12 * r.f9.length + 1) = some (r.f10, p + 6 + 12 * r.f9.length + 1 + 5 * r.f10.length) := (rowsQ_of_at _ c5 d5).1
    have l5 := (rowsQ_of_at _ c5 d5).2
    rw [if_neg e1, if_neg e2, if_neg e3, if_pos e6] at ho2 ⊢
    simp only [List.length_cons, List.length_nil, Nat.zero_add, m1, m2, m3, m4, m5, Option.bind_some, Int.toNat_natCast, ho2]
    simp only [List.length_cons, List.length_append, four_len, List.length_nil, l3, l5, Option.some.injEq, Prod.mk.injEq, true_and]
    omega
  · rw [if_neg e1, if_neg e2, if_neg e3, if_neg e6] at ho2 ⊢
    have hb5 : b = [] := by
      unfold bodyP at hb
      rw [if_neg e1, if_neg e2, if_neg e3] at hb
      split at hb
      · injection hb with hb; exact hb.symm
      · simp [e6] at hb
    subst hb5
    simp only [List.length_cons, List.length_nil, ho2]
/-- What is read stands there. -/
theorem rec_to_at {s : ByteArray} {p : Nat} {r : S37} {q : Nat} {bs : List UInt8} (h : recR s p = some (r, q)) (hb : recP r = some bs) : At s p bs ∧ q = p + bs.length := by
  obtain ⟨k0, k6, b, hc, rfl⟩ := rec_cut hb
  clear hb
  unfold recR at h
  obtain ⟨⟨v, p1⟩, h0, h⟩ := Option.bind_eq_some_iff.1 h
  obtain ⟨_, _, x0, rfl⟩ := at_of_small h0
  by_cases e1 : v = 1
  · subst e1
    rw [if_pos rfl] at h
    simp only [Option.bind_eq_some_iff] at h
    obtain ⟨⟨t, p2⟩, h1, ⟨pv, p3⟩, h2, ⟨pg, p4⟩, h3, ⟨o, p5⟩, h4, ⟨n, p6⟩, h5, ⟨be, p7⟩, h6, ⟨af, p8⟩, h7, h⟩ := h
    simp only [Option.some.injEq, Prod.mk.injEq] at h h1 h2 h3 h4 h5 h6 h7
    obtain ⟨rfl, rfl⟩ := h
    obtain ⟨-, -, -, -, -, -, rfl⟩ := body1 rfl hc
    obtain ⟨x1, rfl, -⟩ := at_of_num h1
    obtain ⟨x2, rfl, -⟩ := at_of_num h2
    obtain ⟨-, -, x3, rfl⟩ := at_of_small h3
    obtain ⟨-, -, x4, rfl⟩ := at_of_small h4
    obtain ⟨hn, -, x5, rfl⟩ := at_of_small h5
    obtain ⟨x6, rfl, s6⟩ := at_of_take h6
    obtain ⟨x7, rfl, s7⟩ := at_of_take h7
    simp only at *
    have en : (af.size : Int) = n := by omega
    rw [← en] at x5
    have x7 : At s (p + 1 + 4 + 4 + 1 + 1 + 1 + be.data.toList.length) af.data.toList := by rw [len_eq, s6]; exact x7
    refine ⟨(at_append (a := [b8 1])).2 ⟨x0, at_append.2 ⟨x1, at_append.2 ⟨x2, at_append.2 ⟨at_append.2 ⟨x3, at_append.2 ⟨x4, x5⟩⟩, at_append.2 ⟨x6, x7⟩⟩⟩⟩⟩, ?_⟩
    · simp only [List.length_cons, List.length_append, four_len, List.length_nil, len_eq]
      omega
  by_cases e2 : v = 2
  · subst e2
    rw [if_neg e1, if_pos rfl] at h
    simp only [Option.bind_eq_some_iff] at h
    obtain ⟨⟨t, p2⟩, h1, ⟨pv, p3⟩, h2, ⟨nx, p3b⟩, h2b, ⟨pg, p4⟩, h3, ⟨o, p5⟩, h4, ⟨n, p6⟩, h5, ⟨af, p8⟩, h7, h⟩ := h
    simp only [Option.some.injEq, Prod.mk.injEq] at h h1 h2 h2b h3 h4 h5 h7
    obtain ⟨rfl, rfl⟩ := h
    obtain ⟨-, -, -, -, -, -, rfl⟩ := body2 rfl hc
    obtain ⟨x1, rfl, -⟩ := at_of_num h1
    obtain ⟨x2, rfl, -⟩ := at_of_num h2
    obtain ⟨x2b, rfl, -⟩ := at_of_num h2b
    obtain ⟨-, -, x3, rfl⟩ := at_of_small h3
    obtain ⟨-, -, x4, rfl⟩ := at_of_small h4
    obtain ⟨hn, -, x5, rfl⟩ := at_of_small h5
    obtain ⟨x7, rfl, s7⟩ := at_of_take h7
    simp only at *
    have en : (af.size : Int) = n := by omega
    rw [← en] at x5
    refine ⟨(at_append (a := [b8 2])).2 ⟨x0, at_append.2 ⟨x1, at_append.2 ⟨at_append.2 ⟨x2, x2b⟩, at_append.2 ⟨at_append.2 ⟨x3, at_append.2 ⟨x4, x5⟩⟩, x7⟩⟩⟩⟩, ?_⟩
    · simp only [List.length_cons, List.length_append, four_len, List.length_nil, len_eq]
      omega
  by_cases e3 : v = 3 ∨ v = 4
  · rw [if_neg e1, if_neg e2, if_pos e3] at h
    simp only [Option.bind_eq_some_iff] at h
    obtain ⟨⟨t, p2⟩, h1, ⟨pv, p3⟩, h2, h⟩ := h
    simp only [Option.some.injEq, Prod.mk.injEq] at h h1 h2
    obtain ⟨rfl, rfl⟩ := h
    obtain ⟨-, -, rfl⟩ := body3 e3 hc
    obtain ⟨x1, rfl, -⟩ := at_of_num h1
    obtain ⟨x2, rfl, -⟩ := at_of_num h2
    exact ⟨(at_append (a := [b8 v])).2 ⟨x0, at_append.2 ⟨x1, x2⟩⟩, rfl⟩
  by_cases e6 : v = 6
  · subst e6
    rw [if_neg e1, if_neg e2, if_neg e3, if_pos rfl] at h
    simp only [Option.bind_eq_some_iff] at h
    obtain ⟨⟨bg, p2⟩, h1, ⟨n, p3⟩, h2, ⟨tx, p4⟩, h3, ⟨m, p5⟩, h4, ⟨pq, p6⟩, h5, h⟩ := h
    simp only [Option.some.injEq, Prod.mk.injEq] at h h1 h2 h3 h4 h5
    obtain ⟨rfl, rfl⟩ := h
    obtain ⟨-, -, -, bt, bq, jt, jq, rfl⟩ := body6 rfl hc
    obtain ⟨x1, rfl, -⟩ := at_of_num h1
    obtain ⟨n0, -, x2, rfl⟩ := at_of_small h2
    have y2 := (small_some h2).2.1
    obtain ⟨x3, rfl, l3, b3⟩ := rowsT_to_at _ y2 h3 jt
    obtain ⟨m0, -, x4, rfl⟩ := at_of_small h4
    have y4 := (small_some h4).2.1
    obtain ⟨x5, rfl, l5, b5⟩ := rowsQ_to_at _ y4 h5 jq
    simp only at *
    have en : (tx.length : Int) = n := by omega
    have em : (pq.length : Int) = m := by omega
    rw [← en] at x2
    rw [← em] at x4
    have x4 : At s (p + 1 + 4 + 1 + bt.length) [b8 (pq.length : Int)] := by rw [b3]; exact x4
    have x5 : At s (p + 1 + 4 + 1 + bt.length + 1) bq := by rw [b3]; exact x5
    refine ⟨(at_append (a := [b8 6])).2 ⟨x0, at_append.2 ⟨x1, at_append.2 ⟨x2, at_append.2 ⟨x3, at_append.2 ⟨x4, x5⟩⟩⟩⟩⟩, ?_⟩
    · simp only [List.length_cons, List.length_append, four_len, List.length_nil, b3, b5]
      omega
  · rw [if_neg e1, if_neg e2, if_neg e3, if_neg e6] at h
    simp only [Option.some.injEq, Prod.mk.injEq] at h
    obtain ⟨rfl, rfl⟩ := h
    have hb5 : b = [] := by
      unfold bodyP at hc
      simp only at hc
      rw [if_neg e1, if_neg e2, if_neg e3] at hc
      split at hc
      · injection hc with hc; exact hc.symm
      · simp [e6] at hc
    subst hb5
    exact ⟨x0, rfl⟩
end Go.Proofs.Ytbnglmeljbiglaa.Pt
set_option maxRecDepth 8192
namespace Go.Proofs.Ytbnglmeljbiglaa.Rp
open Go Go.RowKit Go.Proofs.YtbnglmeljbiglaaW.PrintWords Go.Proofs.Ytbnglmeljbiglaa.X4
set_option linter.unusedSimpArgs false
set_option linter.unusedVariables false
abbrev St := ByteArray × Bool
def takeI (x : St) (n : Nat) : ByteArray × St := if x.2 = true ∨ x.1.size < n then (strOfNums (List.replicate n 0), x.1, true) else (x.1.extract 0 n, x.1.extract n x.1.size, false)
def smallI (x : St) : Int × St := (bt (takeI x 1).1 0, (takeI x 1).2)
def numv (b : ByteArray) : Int := ((bt b 0 * 256 + bt b 1) * 256 + bt b 2) * 256 + bt b 3
def fourI (x : St) : Int × St := (numv (takeI x 4).1, (takeI x 4).2)
def rowTI (x : St) : S107 × St := (⟨(fourI x).1, (fourI (fourI x).2).1, (fourI (fourI (fourI x).2).2).1⟩, (fourI (fourI (fourI x).2).2).2)
def rowQI (x : St) : S109 × St := (⟨(smallI x).1, (fourI (smallI x).2).1⟩, (fourI (smallI x).2).2)
def rowsTI : Nat → St → List S107 × St
  | 0, x => ([], x)
  | n + 1, x => if (rowsTI n x).2.2 = true then rowsTI n x else ((rowsTI n x).1 ++ [(rowTI (rowsTI n x).2).1], (rowTI (rowsTI n x).2).2)
def rowsQI : Nat → St → List S109 × St
  | 0, x => ([], x)
  | n + 1, x => if (rowsQI n x).2.2 = true then rowsQI n x else ((rowsQI n x).1 ++ [(rowQI (rowsQI n x).2).1], (rowQI (rowsQI n x).2).2)
theorem rowsTI_bad {n m : Nat} {x : St} (h : (rowsTI n x).2.2 = true) (hm : n ≤ m) : rowsTI m x = rowsTI n x := by
  induction m with
  | zero => rw [show n = 0 by omega]
  | succ m ih =>
    by_cases e : n = m + 1
    · rw [e]
    · have h2 := ih (by omega)
      simp only [rowsTI]
      rw [h2, if_pos h]
theorem rowsQI_bad {n m : Nat} {x : St} (h : (rowsQI n x).2.2 = true) (hm : n ≤ m) : rowsQI m x = rowsQI n x := by
  induction m with
  | zero => rw [show n = 0 by omega]
  | succ m ih =>
    by_cases e : n = m + 1
    · rw [e]
    · have h2 := ih (by omega)
      simp only [rowsQI]
      rw [h2, if_pos h]
def recI1 (x : St) : S37 × St :=
  let t := fourI x; let v := fourI t.2; let pg := smallI v.2; let o := smallI pg.2; let n := smallI o.2; let b := takeI n.2 n.1.toNat; let f := takeI b.2 n.1.toNat
  (⟨1, t.1, pg.1, o.1, v.1, 0, 0, b.1, f.1, [], []⟩, f.2)
def recI2 (x : St) : S37 × St :=
  let t := fourI x; let v := fourI t.2; let z := fourI v.2; let pg := smallI z.2; let o := smallI pg.2; let n := smallI o.2; let f := takeI n.2 n.1.toNat
  (⟨2, t.1, pg.1, o.1, v.1, z.1, 0, ⟨#[]⟩, f.1, [], []⟩, f.2)
def recI3 (k : Int) (x : St) : S37 × St :=
  let t := fourI x; let v := fourI t.2
  (⟨k, t.1, 0, 0, v.1, 0, 0, ⟨#[]⟩, ⟨#[]⟩, [], []⟩, v.2)
def recI6 (x : St) : S37 × St :=
  let b := fourI x; let n := smallI b.2; let t := rowsTI n.1.toNat n.2; let m := smallI t.2; let q := rowsQI m.1.toNat m.2
  (⟨6, 0, 0, 0, 0, 0, b.1, ⟨#[]⟩, ⟨#[]⟩, t.1, q.1⟩, q.2)
def recI (x : St) : S37 × St :=
  if (smallI x).1 = 1 then recI1 (smallI x).2 else if (smallI x).1 = 2 then recI2 (smallI x).2 else if (smallI x).1 = 3 ∨ (smallI x).1 = 4 then recI3 (smallI x).1 (smallI x).2
  else if (smallI x).1 = 6 then recI6 (smallI x).2 else (⟨(smallI x).1, 0, 0, 0, 0, 0, 0, ⟨#[]⟩, ⟨#[]⟩, [], []⟩, (smallI x).2)
def zR : S37 := ⟨0, 0, 0, 0, 0, 0, 0, ⟨#[]⟩, ⟨#[]⟩, [], []⟩
end Go.Proofs.Ytbnglmeljbiglaa.Rp
