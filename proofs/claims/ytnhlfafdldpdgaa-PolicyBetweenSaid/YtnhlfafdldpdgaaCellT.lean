import Derived.Test.YtnhlfafdldpdgaaCellS
import Derived.Test.YtnhlfafdldpdgaaFlt2
/-! Layer 2: plain laws: a cell read back; orders; the greatest. -/
namespace Go.Proofs.Ytnhlfafdldpdgaa.Cell
open Go Go.RowKit Go.Proofs.Ytnhlfafdldpdgaa.Flt Go.Proofs.YtnhlfafdldpdgaaW.PrintWords
set_option linter.unusedVariables false
theorem get8 (n : Nat) (k : Nat) (h : k < 8) : ((by8 n)[k]!).toNat = n / 2 ^ (56 - 8 * k) % 256 := by
  have hs : (by8 n).size = 8 := rfl
  rw [getElem!_pos (by8 n) k (by omega)]
  have hk : k = 0 ∨ k = 1 ∨ k = 2 ∨ k = 3 ∨ k = 4 ∨ k = 5 ∨ k = 6 ∨ k = 7 := by omega
  rcases hk with rfl | rfl | rfl | rfl | rfl | rfl | rfl | rfl
  · show (UInt8.ofNat (n / 72057594037927936 % 256)).toNat = n / 72057594037927936 % 256
    rw [UInt8.toNat_ofNat']; omega
  · show (UInt8.ofNat (n / 281474976710656 % 256)).toNat = n / 281474976710656 % 256
    rw [UInt8.toNat_ofNat']; omega
  · show (UInt8.ofNat (n / 1099511627776 % 256)).toNat = n / 1099511627776 % 256
    rw [UInt8.toNat_ofNat']; omega
  · show (UInt8.ofNat (n / 4294967296 % 256)).toNat = n / 4294967296 % 256
    rw [UInt8.toNat_ofNat']; omega
  · show (UInt8.ofNat (n / 16777216 % 256)).toNat = n / 16777216 % 256
    rw [UInt8.toNat_ofNat']; omega
  · show (UInt8.ofNat (n / 65536 % 256)).toNat = n / 65536 % 256
    rw [UInt8.toNat_ofNat']; omega
  · show (UInt8.ofNat (n / 256 % 256)).toNat = n / 256 % 256
    rw [UInt8.toNat_ofNat']; omega
  · show (UInt8.ofNat (n % 256)).toNat = n / 1 % 256
    rw [UInt8.toNat_ofNat']; omega
/-- What is written is read. -/
theorem acc_by8 (n : Nat) (h : n < 18446744073709551616) : acc (by8 n) 8 = n := by
  unfold acc acc acc acc acc acc acc acc acc
  rw [get8 n 0 (by decide), get8 n 1 (by decide), get8 n 2 (by decide), get8 n 3 (by decide), get8 n 4 (by decide), get8 n 5 (by decide), get8 n 6 (by decide), get8 n 7 (by decide)]
  simp only [show 2 ^ (56 - 8 * 0) = 72057594037927936 from rfl, show 2 ^ (56 - 8 * 1) = 281474976710656 from rfl, show 2 ^ (56 - 8 * 2) = 1099511627776 from rfl, show 2 ^ (56 - 8 * 3) = 4294967296 from rfl, show 2 ^ (56 - 8 * 4) = 16777216 from rfl, show 2 ^ (56 - 8 * 5) = 65536 from rfl, show 2 ^ (56 - 8 * 6) = 256 from rfl, show 2 ^ (56 - 8 * 7) = 1 from rfl]
  omega
theorem acc_inj (s t : ByteArray) : ∀ k, k ≤ s.size → k ≤ t.size → acc s k = acc t k → ∀ i, i < k → s[i]! = t[i]!
  | 0, _, _, _, i, hi => by omega
  | k + 1, h1, h2, h, i, hi => by
    have a := (s[k]!).toNat_lt
    have b := (t[k]!).toNat_lt
    have h' : acc s k * 256 + (s[k]!).toNat = acc t k * 256 + (t[k]!).toNat := h
    by_cases c : i = k
    · subst c
      exact UInt8.toNat_inj.1 (by omega)
    · exact acc_inj s t k (by omega) (by omega) (by omega) i (by omega)
theorem by8_acc (s : ByteArray) (h : s.size = 8) : by8 (acc s 8) = s := by
  have e := acc_by8 (acc s 8) (acc_64 s)
  have hs : (by8 (acc s 8)).size = 8 := rfl
  refine ByteArray.ext_getElem (by omega) fun i h1 h2 => ?_
  have := acc_inj (by8 (acc s 8)) s 8 (by omega) (by omega) e i (by omega)
  rwa [getElem!_pos (by8 (acc s 8)) i h1, getElem!_pos s i h2] at this
theorem by8_inj {a b : Nat} (ha : a < 18446744073709551616) (hb : b < 18446744073709551616) (h : by8 a = by8 b) : a = b := by
  rw [← acc_by8 a ha, ← acc_by8 b hb, h]
theorem addS_by8 (n f : Nat) (h : n < 18446744073709551616) : addS (by8 n) f = by8 (vop .add n f) := by unfold addS; rw [acc_by8 n h]
theorem cn_lt' (f : UInt64) : cn f.toNat < 18446744073709551616 := cn_lt f.toNat_lt
/-- Nought added. -/
theorem add_zero (x : Nat) (h : x < 18446744073709551616) : vop .add x 0 = if minus x then 0 else cn x := by
  by_cases hn : isN x = true
  · rw [minus_nan hn, cn_nan hn]
    unfold vop; rw [bits_nan_l hn]; rfl
  · have hn : isN x = false := by simpa using hn
    have hx := not_nan hn
    rw [cn_num hn]
    by_cases c : rg x = 9218868437227405312
    · have hm : minus x = false := by
        cases q : minus x with
        | false => rfl
        | true => rw [show x = 9223372036854775808 from beq_iff_eq.1 q] at c; revert c; decide
      rw [hm]
      show ((((F.read x).sum (F.read 0)).map F.write).getD _) = x
      rw [read_inf x c]
      obtain ⟨m, e, h1, h2⟩ := read_fin 0 (by decide)
      rw [h1]
      show F.word (ng x) F.infRung = x
      rw [ir, ← c]
      exact word_self x h
    · have hv : val 0 = 0 := by decide
      have e := add_fin x 0 (by omega) (by decide) (rg x) (by omega) (by
        rw [hv, Int.add_zero]; unfold val; split <;> omega)
      rw [hv, Int.add_zero] at e
      rw [e]
      by_cases z : val x = 0
      · have hr : rg x = 0 := by
          refine mag_inj ?_
          rw [mag_zero]
          unfold val at z; split at z <;> omega
        rw [if_pos z, hr]
        have w := word_self x h
        rw [hr] at w
        cases s : ng x with
        | false => rw [s] at w; rw [← w]; decide
        | true => rw [s] at w; rw [← w]; decide
      · rw [if_neg z]
        have hm : minus x = false := by
          cases q : minus x with
          | false => rfl
          | true => rw [show x = 9223372036854775808 from beq_iff_eq.1 q] at z; revert z; decide
        rw [hm]
        have hs : decide (val x < 0) = ng x := by
          unfold val at z ⊢
          cases s : ng x with
          | false => rw [s] at z; simp only [Bool.false_eq_true, if_false] at z ⊢; exact decide_eq_false (by omega)
          | true => rw [s] at z; simp only [if_true] at z ⊢; exact decide_eq_true (by omega)
        rw [hs]
        exact word_self x h
theorem neg_split (b : Nat) (h : b < 18446744073709551616) : ng (Op.negFloat .f64 b) = !ng b ∧ rg (Op.negFloat .f64 b) = rg b := by
  have e : Op.negFloat .f64 b = b ^^^ 2 ^ 63 := rfl
  rw [e]
  unfold ng rg
  have h1 : (b ^^^ 2 ^ 63) % 2 ^ 63 = b % 2 ^ 63 := by
    rw [Nat.xor_mod_two_pow, Nat.mod_self, Nat.xor_zero]
  have h2 : (b ^^^ 2 ^ 63) / 2 ^ 63 = (b / 2 ^ 63) ^^^ 1 := by
    rw [Nat.xor_div_two_pow, Nat.div_self (Nat.two_pow_pos 63)]
  refine ⟨?_, h1⟩
  show ((b ^^^ 2 ^ 63) / 2 ^ 63 % 2 == 1) = !(b / 2 ^ 63 % 2 == 1)
  rw [h2]
  have : b / 2 ^ 63 = 0 ∨ b / 2 ^ 63 = 1 := by omega
  rcases this with q | q <;> rw [q] <;> rfl
theorem neg_int (b : Nat) (n : Int) (h : b < 18446744073709551616) (hi : isI b n) : isI (Op.negFloat .f64 b) (-n) := by
  have s := neg_split b h
  refine ⟨by rw [s.2]; exact hi.1, ?_⟩
  have hv := hi.2
  unfold val at hv ⊢
  rw [s.1, s.2]
  rw [Int.neg_mul, ← hv]
  cases ng b <;> simp
theorem fi_lt (n : Int) : fi n < 18446744073709551616 := (nearest_num (decide (n < 0)) n.natAbs 0).2
theorem fi_nan (n : Int) : isN (fi n) = false := (nearest_num (decide (n < 0)) n.natAbs 0).1
/-- Two whole numbers, added one by one, and one taken away. -/
theorem twice (a b : Int) (ha : a.natAbs < 4294967296) (hb : b.natAbs < 4294967296) (h0 : a ≠ 0) : vop .add (vop .add (fi a) (fi b)) (Op.negFloat .f64 (fi b)) = fi a := by
  have fa := fi_fin a (by omega)
  have fb := fi_fin b (by omega)
  have s := (add_int (fi a) (fi b) a b ⟨fa.2.2.1, fa.2.2.2⟩ ⟨fb.2.2.1, fb.2.2.2⟩ (by omega)).2
  have t := (add_int _ _ (a + b) (-b) s (neg_int (fi b) b (fi_lt b) ⟨fb.2.2.1, fb.2.2.2⟩) (by omega)).1
  rw [t, show a + b + -b = a by omega, if_neg h0, fi_eq a (by omega)]
theorem fi_zero : fi 0 = 0 := by decide +kernel
theorem ord_pos (a b : Nat) : 0 < ordF a b ↔ kz b < kz a := by
  unfold ordF
  split
  · constructor <;> omega
  · split <;> constructor <;> omega
theorem ord_zero (a b : Nat) : ordF a b = 0 ↔ kz a = kz b := by
  unfold ordF
  split
  · constructor <;> omega
  · split <;> constructor <;> omega
theorem ord_neg (a b : Nat) : wrap64 (0 - ordF b a) = ordF a b := by
  have : ∀ x : Int, -5 < x → x < 5 → wrap64 x = x := fun x h1 h2 => by unfold wrap64; omega
  unfold ordF
  by_cases h : kz a < kz b
  · rw [if_neg (by omega), if_pos (by omega), if_pos h]; exact this _ (by omega) (by omega)
  · by_cases g : kz b < kz a
    · rw [if_pos g, if_neg h, if_pos g]; exact this _ (by omega) (by omega)
    · rw [if_neg g, if_neg h, if_neg h, if_neg g]; exact this _ (by omega) (by omega)
theorem kz_inj (a b : Nat) (ha : a < 18446744073709551616) (hb : b < 18446744073709551616) : kz a = kz b ↔ cn a = cn b := by
  constructor
  · intro h
    cases na : isN a with
    | true =>
      cases nb : isN b with
      | true => rw [cn_nan na, cn_nan nb]
      | false => have := kz_lt nb hb; rw [kz_nan na] at h; omega
    | false =>
      cases nb : isN b with
      | true => have := kz_lt na ha; rw [kz_nan nb] at h; omega
      | false =>
        rw [cn_num na, cn_num nb]
        rcases kz_split na ha with ⟨a1, a2, _⟩ | ⟨a1, a2, a3, _⟩ <;> rcases kz_split nb hb with ⟨b1, b2, _⟩ | ⟨b1, b2, b3, _⟩ <;> omega
  · intro h; rw [← kz_cn a, ← kz_cn b, h]
theorem ord_cn (a b : Nat) : ordF a (cn b) = ordF a b := by unfold ordF; rw [kz_cn]
/-- The greatest one: none stands behind it; it is one of them, or the first. -/
theorem most_all : ∀ (l : List UInt64) (m : Nat), let r := l.foldl (fun m f => if 0 < ordF f.toNat m then f.toNat else m) m
    kz m ≤ kz r ∧ (∀ f ∈ l, kz f.toNat ≤ kz r) ∧ (r = m ∨ ∃ f ∈ l, f.toNat = r)
  | [], m => ⟨Int.le_refl _, by simp, Or.inl rfl⟩
  | f :: l, m => by
    obtain ⟨h1, h2, h3⟩ := most_all l (if 0 < ordF f.toNat m then f.toNat else m)
    show kz m ≤ kz (l.foldl _ (if 0 < ordF f.toNat m then f.toNat else m)) ∧ _
    have key : kz m ≤ kz (if 0 < ordF f.toNat m then f.toNat else m) ∧ kz f.toNat ≤ kz (if 0 < ordF f.toNat m then f.toNat else m) := by
      by_cases c : 0 < ordF f.toNat m
      · rw [if_pos c]; have := (ord_pos _ _).1 c; omega
      · rw [if_neg c]; have := mt (ord_pos f.toNat m).2 c; omega
    refine ⟨Int.le_trans key.1 h1, ?_, ?_⟩
    · intro g hg
      rcases List.mem_cons.1 hg with rfl | hg
      · exact Int.le_trans key.2 h1
      · exact h2 g hg
    · rcases h3 with h3 | ⟨g, hg, e⟩
      · by_cases c : 0 < ordF f.toNat m
        · right
          refine ⟨f, List.mem_cons_self .., ?_⟩
          rw [if_pos c] at h3
          show f.toNat = l.foldl _ (if 0 < ordF f.toNat m then f.toNat else m)
          rw [if_pos c, h3]
        · left
          rw [if_neg c] at h3
          show l.foldl _ (if 0 < ordF f.toNat m then f.toNat else m) = m
          rw [if_neg c, h3]
      · exact Or.inr ⟨g, List.mem_cons_of_mem _ hg, e⟩
theorem most_none (l : List UInt64) (f : UInt64) (h : f ∈ l) : ¬ 0 < ordF f.toNat (cn (mostL l)) := by
  rw [ord_cn, ord_pos]
  have := (most_all l 18442240474082181120).2.1 f h
  unfold mostL
  omega
theorem most_one (l : List UInt64) : cn (mostL l) = 18442240474082181120 ∨ ∃ f ∈ l, ordF f.toNat (cn (mostL l)) = 0 := by
  rcases (most_all l 18442240474082181120).2.2 with h | ⟨f, hf, e⟩
  · left
    show cn (l.foldl _ _) = _
    rw [h]; decide
  · right
    refine ⟨f, hf, ?_⟩
    rw [ord_cn, ord_zero, e]
    rfl
end Go.Proofs.Ytnhlfafdldpdgaa.Cell
