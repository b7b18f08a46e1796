import Derived.Test.YtcfknakmamcinaaQAZ0
import Derived.Test.YtcfknakmamcinaaQAZ1
import Derived.Test.YtcfknakmamcinaaQAZ2
import Derived.Test.YtcfknakmamcinaaQAZ3
-- Written by this session's xprint.py (the kit's print, with contracts proved by hand).
namespace Go.Proofs.Ytcfknakmamcinaa.X4
open Go.RowKit Go.Proofs.YtcfknakmamcinaaW.PrintWords Go.Proofs.YtcfknakmamcinaaW.PrintLast Go.Proofs.YtcfknakmamcinaaW.PrintMore
attribute [local go_sem] max2_int min2_int max_two min_two max_three min_three max_four min_four   -- for this text's walks alone
set_option linter.unusedVariables false
set_option linter.unusedSimpArgs false
mutual
def careenref04_Print.j0 : Nat → ByteArray → Int → Bool → Int → Int → Int → Int → Int → Int → Int → ByteArray → ByteArray → List (S66) → List (S68) → Option (ByteArray)
  | 0, _, _, _, _, _, _, _, _, _, _, _, _, _, _ => none
  | k + 1, x3, x23, x63, x170000, x170001, x170002, x170003, x170004, x170005, x170006, x170007, x170008, x170009, x170010 => if x63 = true then ((careenref04_four.f x170001).bind fun t179 => (if x3.size + t179.size ≤ 9223372036854775807 then ((careenref04_four.f x170004).bind fun t180 => (if (x3 ++ t179).size + t180.size ≤ 9223372036854775807 then (some ((x3 ++ t179) ++ t180)) else (none))) else (none))) else (if x23 = 6 then ((careenref04_four.f x170006).bind fun t181 => ((careenref04_small.f (x170009.length : Int)).bind fun t182 => (if t181.size + t182.size ≤ 9223372036854775807 then (if x3.size + (t181 ++ t182).size ≤ 9223372036854775807 then (careenref04_Print.l0 k (x3 ++ (t181 ++ t182)) 0 x170000 x170001 x170002 x170003 x170004 x170005 x170006 x170007 x170008 x170009 x170010) else (none)) else (none)))) else (some x3))
def careenref04_Print.l0 : Nat → ByteArray → Int → Int → Int → Int → Int → Int → Int → Int → ByteArray → ByteArray → List (S66) → List (S68) → Option (ByteArray)
  | 0, _, _, _, _, _, _, _, _, _, _, _, _, _ => none
  | k + 1, x3, x5, x170000, x170001, x170002, x170003, x170004, x170005, x170006, x170007, x170008, x170009, x170010 => if x5 < (x170009.length : Int) then (if 0 ≤ x5 then ((careenref04_four.f ((rd_T66 x170009 x5).f0)).bind fun t184 => ((careenref04_four.f ((rd_T66 x170009 x5).f1)).bind fun t186 => (if t184.size + t186.size ≤ 9223372036854775807 then ((careenref04_four.f ((rd_T66 x170009 x5).f2)).bind fun t188 => (if (t184 ++ t186).size + t188.size ≤ 9223372036854775807 then (if x3.size + ((t184 ++ t186) ++ t188).size ≤ 9223372036854775807 then (careenref04_Print.l0 k (x3 ++ ((t184 ++ t186) ++ t188)) (wrap64 (x5 + 1)) x170000 x170001 x170002 x170003 x170004 x170005 x170006 x170007 x170008 x170009 x170010) else (none)) else (none))) else (none)))) else (none)) else ((careenref04_small.f (x170010.length : Int)).bind fun t189 => (if x3.size + t189.size ≤ 9223372036854775807 then (careenref04_Print.l1 k (x3 ++ t189) 0 x170000 x170001 x170002 x170003 x170004 x170005 x170006 x170007 x170008 x170009 x170010) else (none)))
def careenref04_Print.l1 : Nat → ByteArray → Int → Int → Int → Int → Int → Int → Int → Int → ByteArray → ByteArray → List (S66) → List (S68) → Option (ByteArray)
  | 0, _, _, _, _, _, _, _, _, _, _, _, _, _ => none
  | k + 1, x3, x6, x170000, x170001, x170002, x170003, x170004, x170005, x170006, x170007, x170008, x170009, x170010 => if x6 < (x170010.length : Int) then (if 0 ≤ x6 then ((careenref04_small.f ((rd_T68 x170010 x6).f0)).bind fun t191 => ((careenref04_four.f ((rd_T68 x170010 x6).f1)).bind fun t193 => (if t191.size + t193.size ≤ 9223372036854775807 then (if x3.size + (t191 ++ t193).size ≤ 9223372036854775807 then (careenref04_Print.l1 k (x3 ++ (t191 ++ t193)) (wrap64 (x6 + 1)) x170000 x170001 x170002 x170003 x170004 x170005 x170006 x170007 x170008 x170009 x170010) else (none)) else (none)))) else (none)) else (some x3)
end
def careenref04_Print.f (k : Nat) (a0_0 : Int) (a0_1 : Int) (a0_2 : Int) (a0_3 : Int) (a0_4 : Int) (a0_5 : Int) (a0_6 : Int) (a0_7 : ByteArray) (a0_8 : ByteArray) (l0_9 : List (S66)) (l0_10 : List (S68)) : Option (ByteArray) := (careenref04_small.f a0_0).bind fun t170 => ((careenref04_small.f a0_2).bind fun t171 => ((careenref04_small.f a0_3).bind fun t172 => (if t171.size + t172.size ≤ 9223372036854775807 then ((careenref04_small.f (a0_8.size : Int)).bind fun t173 => (if (t171 ++ t172).size + t173.size ≤ 9223372036854775807 then (if a0_0 = 1 then ((careenref04_four.f a0_1).bind fun t174 => (if t170.size + t174.size ≤ 9223372036854775807 then ((careenref04_four.f a0_4).bind fun t175 => (if (t170 ++ t174).size + t175.size ≤ 9223372036854775807 then (if ((t170 ++ t174) ++ t175).size + ((t171 ++ t172) ++ t173).size ≤ 9223372036854775807 then (if (((t170 ++ t174) ++ t175) ++ ((t171 ++ t172) ++ t173)).size + a0_7.size ≤ 9223372036854775807 then (if ((((t170 ++ t174) ++ t175) ++ ((t171 ++ t172) ++ t173)) ++ a0_7).size + a0_8.size ≤ 9223372036854775807 then (some (((((t170 ++ t174) ++ t175) ++ ((t171 ++ t172) ++ t173)) ++ a0_7) ++ a0_8)) else (none)) else (none)) else (none)) else (none))) else (none))) else (if a0_0 = 2 then ((careenref04_four.f a0_1).bind fun t176 => (if t170.size + t176.size ≤ 9223372036854775807 then ((careenref04_four.f a0_4).bind fun t177 => (if (t170 ++ t176).size + t177.size ≤ 9223372036854775807 then ((careenref04_four.f a0_5).bind fun t178 => (if ((t170 ++ t176) ++ t177).size + t178.size ≤ 9223372036854775807 then (if (((t170 ++ t176) ++ t177) ++ t178).size + ((t171 ++ t172) ++ t173).size ≤ 9223372036854775807 then (if ((((t170 ++ t176) ++ t177) ++ t178) ++ ((t171 ++ t172) ++ t173)).size + a0_8.size ≤ 9223372036854775807 then (some (((((t170 ++ t176) ++ t177) ++ t178) ++ ((t171 ++ t172) ++ t173)) ++ a0_8)) else (none)) else (none)) else (none))) else (none))) else (none))) else (if a0_0 = 3 then (careenref04_Print.j0 k t170 a0_0 (a0_0 == 3) a0_0 a0_1 a0_2 a0_3 a0_4 a0_5 a0_6 a0_7 a0_8 l0_9 l0_10) else (careenref04_Print.j0 k t170 a0_0 (a0_0 == 4) a0_0 a0_1 a0_2 a0_3 a0_4 a0_5 a0_6 a0_7 a0_8 l0_9 l0_10)))) else (none))) else (none))))
def careenref04_Print.T2 : Bool × List (List Nat × List Nat) := (true, [([], []), ([0], [0]), ([1], [1]), ([], []), ([3], [3]), ([4, 2], [4]), ([2, 5], [2, 5]), ([], []), ([7], [7]), ([8], [8]), ([9, 5], [9]), ([6, 10], [6, 10]), ([11, 10, 0, 1, 2, 3, 4, 5, 6, 7, 8, 9, 10, 11], [11])])
def careenref04_Print.B2 : List Nat := [0, 1, 3, 0, 8, 31, 63, 0, 128, 384, 959, 2047, 4095]
theorem careenref04_Print.tab2 : rtab .any (opsOf Try.f15 2) = careenref04_Print.T2 := by kernel_rfl
theorem careenref04_Print.bits2 : waitsOk careenref04_Print.T2.2 careenref04_Print.B2 = true := by kernel_rfl
def careenref04_Print.T5 : Bool × List (List Nat × List Nat) := (true, [([], []), ([], []), ([1], [1]), ([2], [2]), ([0, 3], [0, 3]), ([], []), ([5], [5]), ([6, 3], [6]), ([4, 7], [4, 7]), ([], []), ([8, 9], [8, 9]), ([], []), ([11], [11]), ([10, 12], [10, 12]), ([], []), ([14], [14]), ([13, 15], [13, 15]), ([16, 7, 0, 1, 2, 3, 4, 5, 6, 7, 8, 9, 10, 11, 12, 13, 14, 15, 16], [16])])
def careenref04_Print.B5 : List Nat := [0, 0, 2, 6, 15, 0, 32, 110, 255, 0, 1023, 0, 2048, 8191, 0, 16384, 65535, 131071]
theorem careenref04_Print.tab5 : rtab .any (opsOf Try.f15 5) = careenref04_Print.T5 := by kernel_rfl
theorem careenref04_Print.bits5 : waitsOk careenref04_Print.T5.2 careenref04_Print.B5 = true := by kernel_rfl
def careenref04_Print.T7 : Bool × List (List Nat × List Nat) := (true, [([], []), ([], []), ([1], [1]), ([2], [2]), ([0, 3], [0, 3]), ([], []), ([5], [5]), ([6, 3], [6]), ([4, 7], [4, 7]), ([], []), ([9], [9]), ([10, 7], [10]), ([8, 11], [8, 11]), ([], []), ([12, 13], [12, 13]), ([], []), ([15], [15]), ([14, 16], [14, 16]), ([17, 11, 0, 1, 2, 3, 4, 5, 6, 7, 8, 9, 10, 11, 12, 13, 14, 15, 16, 17], [17])])
def careenref04_Print.B7 : List Nat := [0, 0, 2, 6, 15, 0, 32, 110, 255, 0, 512, 1774, 4095, 0, 16383, 0, 32768, 131071, 262143]
theorem careenref04_Print.tab7 : rtab .any (opsOf Try.f15 7) = careenref04_Print.T7 := by kernel_rfl
theorem careenref04_Print.bits7 : waitsOk careenref04_Print.T7.2 careenref04_Print.B7 = true := by kernel_rfl
def careenref04_Print.T10 : Bool × List (List Nat × List Nat) := (true, [([], []), ([], []), ([1], [1]), ([2], [2]), ([0, 3], [0, 3]), ([], []), ([5], [5]), ([6, 3], [6]), ([4, 7], [4, 7]), ([8, 7, 0, 1, 2, 3, 4, 5, 6, 7, 8], [8])])
def careenref04_Print.B10 : List Nat := [0, 0, 2, 6, 15, 0, 32, 110, 255, 511]
theorem careenref04_Print.tab10 : rtab .any (opsOf Try.f15 10) = careenref04_Print.T10 := by kernel_rfl
theorem careenref04_Print.bits10 : waitsOk careenref04_Print.T10.2 careenref04_Print.B10 = true := by kernel_rfl
def careenref04_Print.T12 : Bool × List (List Nat × List Nat) := (true, [([], []), ([], []), ([1], [1]), ([2], [2]), ([], []), ([4], [4]), ([5], [5]), ([6, 3], [6]), ([3, 7], [3, 7]), ([0, 8], [0, 8]), ([9, 7, 0, 1, 2, 3, 4, 5, 6, 7, 8, 9], [0, 9])])
def careenref04_Print.B12 : List Nat := [0, 0, 2, 6, 0, 16, 48, 126, 254, 511, 1023]
theorem careenref04_Print.tab12 : rtab .any (opsOf Try.f15 12) = careenref04_Print.T12 := by kernel_rfl
theorem careenref04_Print.bits12 : waitsOk careenref04_Print.T12.2 careenref04_Print.B12 = true := by kernel_rfl
def careenref04_Print.T16 : Bool × List (List Nat × List Nat) := (true, [([], []), ([], []), ([1], [1]), ([], []), ([2, 3], [2, 3]), ([4], [4]), ([5], [5]), ([6], [6]), ([], []), ([8], [8]), ([], []), ([9, 10], [9, 10]), ([11], [11]), ([12], [12]), ([13, 7], [13]), ([7, 14], [7, 14]), ([], []), ([16], [16]), ([], []), ([17, 18], [17, 18]), ([19], [19]), ([20], [20]), ([21, 14], [21]), ([15, 22], [15, 22]), ([0, 23], [0, 23]), ([24, 22, 0, 1, 2, 3, 4, 5, 6, 7, 8, 9, 10, 11, 12, 13, 14, 15, 16, 17, 18, 19, 20, 21, 22, 23, 24], [0, 24])])
def careenref04_Print.B16 : List Nat := [0, 0, 2, 0, 14, 30, 62, 126, 0, 256, 0, 1792, 3840, 7936, 16382, 32766, 0, 65536, 0, 458752, 983040, 2031616, 4161534, 8388606, 16777215, 33554431]
theorem careenref04_Print.tab16 : rtab .any (opsOf Try.f15 16) = careenref04_Print.T16 := by kernel_rfl
theorem careenref04_Print.bits16 : waitsOk careenref04_Print.T16.2 careenref04_Print.B16 = true := by kernel_rfl
def careenref04_Print.T21 : Bool × List (List Nat × List Nat) := (true, [([], []), ([], []), ([1], [1]), ([], []), ([2, 3], [2, 3]), ([4], [4]), ([5], [5]), ([6], [6]), ([], []), ([8], [8]), ([], []), ([9, 10], [9, 10]), ([11], [11]), ([12], [12]), ([13, 7], [13]), ([7, 14], [7, 14]), ([0, 15], [0, 15]), ([16, 14, 0, 1, 2, 3, 4, 5, 6, 7, 8, 9, 10, 11, 12, 13, 14, 15, 16], [0, 16])])
def careenref04_Print.B21 : List Nat := [0, 0, 2, 0, 14, 30, 62, 126, 0, 256, 0, 1792, 3840, 7936, 16382, 32766, 65535, 131071]
theorem careenref04_Print.tab21 : rtab .any (opsOf Try.f15 21) = careenref04_Print.T21 := by kernel_rfl
theorem careenref04_Print.bits21 : waitsOk careenref04_Print.T21.2 careenref04_Print.B21 = true := by kernel_rfl
set_option maxHeartbeats 8000000 in
set_option maxRecDepth 100000 in
theorem careenref04_Print.calls (k : Nat) (a0_0 : Int) (a0_1 : Int) (a0_2 : Int) (a0_3 : Int) (a0_4 : Int) (a0_5 : Int) (a0_6 : Int) (a0_7 : ByteArray) (a0_8 : ByteArray) (A0_9 : Option Addr) (c0_9 : Nat) (l0_9 : List (S66)) (A0_10 : Option Addr) (c0_10 : Nat) (l0_10 : List (S68)) (r : ByteArray) (w : World) (hr0_9 : Kd.C k66 w A0_9 l0_9.length l0_9) (hc0_9 : l0_9.length ≤ c0_9) (hr0_10 : Kd.C k68 w A0_10 l0_10.length l0_10) (hc0_10 : l0_10.length ≤ c0_10) (h : careenref04_Print.f k a0_0 a0_1 a0_2 a0_3 a0_4 a0_5 a0_6 a0_7 a0_8 l0_9 l0_10 = some r) :
    Calls Try.prog 15 #[.agg #[.int .i64 a0_0, .int .i64 a0_1, .int .i64 a0_2, .int .i64 a0_3, .int .i64 a0_4, .int .i64 a0_5, .int .i64 a0_6, .string a0_7, .string a0_8, .slice A0_9 l0_9.length c0_9, .slice A0_10 l0_10.length c0_10]] w fun e w' => e = .returned (.string r) ∧ Below w.heap.size w w' := by
  have hu25 := Try.underlying25
  have HR0_9 := Aside0.mk hr0_9
  have HC0_9 := Aside0.mk hc0_9
  clear hr0_9 hc0_9
  have HR0_10 := Aside0.mk hr0_10
  have HC0_10 := Aside0.mk hc0_10
  clear hr0_10 hc0_10
  have HB := Aside0.mk (Below.refl w.heap.size w)
  have H : ((careenref04_small.f a0_0).bind fun t170 => ((careenref04_small.f a0_2).bind fun t171 => ((careenref04_small.f a0_3).bind fun t172 => (if t171.size + t172.size ≤ 9223372036854775807 then ((careenref04_small.f (a0_8.size : Int)).bind fun t173 => (if (t171 ++ t172).size + t173.size ≤ 9223372036854775807 then (if a0_0 = 1 then ((careenref04_four.f a0_1).bind fun t174 => (if t170.size + t174.size ≤ 9223372036854775807 then ((careenref04_four.f a0_4).bind fun t175 => (if (t170 ++ t174).size + t175.size ≤ 9223372036854775807 then (if ((t170 ++ t174) ++ t175).size + ((t171 ++ t172) ++ t173).size ≤ 9223372036854775807 then (if (((t170 ++ t174) ++ t175) ++ ((t171 ++ t172) ++ t173)).size + a0_7.size ≤ 9223372036854775807 then (if ((((t170 ++ t174) ++ t175) ++ ((t171 ++ t172) ++ t173)) ++ a0_7).size + a0_8.size ≤ 9223372036854775807 then (some (((((t170 ++ t174) ++ t175) ++ ((t171 ++ t172) ++ t173)) ++ a0_7) ++ a0_8)) else (none)) else (none)) else (none)) else (none))) else (none))) else (if a0_0 = 2 then ((careenref04_four.f a0_1).bind fun t176 => (if t170.size + t176.size ≤ 9223372036854775807 then ((careenref04_four.f a0_4).bind fun t177 => (if (t170 ++ t176).size + t177.size ≤ 9223372036854775807 then ((careenref04_four.f a0_5).bind fun t178 => (if ((t170 ++ t176) ++ t177).size + t178.size ≤ 9223372036854775807 then (if (((t170 ++ t176) ++ t177) ++ t178).size + ((t171 ++ t172) ++ t173).size ≤ 9223372036854775807 then (if ((((t170 ++ t176) ++ t177) ++ t178) ++ ((t171 ++ t172) ++ t173)).size + a0_8.size ≤ 9223372036854775807 then (some (((((t170 ++ t176) ++ t177) ++ t178) ++ ((t171 ++ t172) ++ t173)) ++ a0_8)) else (none)) else (none)) else (none))) else (none))) else (none))) else (if a0_0 = 3 then (careenref04_Print.j0 k t170 a0_0 (a0_0 == 3) a0_0 a0_1 a0_2 a0_3 a0_4 a0_5 a0_6 a0_7 a0_8 l0_9 l0_10) else (careenref04_Print.j0 k t170 a0_0 (a0_0 == 4) a0_0 a0_1 a0_2 a0_3 a0_4 a0_5 a0_6 a0_7 a0_8 l0_9 l0_10)))) else (none))) else (none))))) = some r := h
  clear h
  replace H := Option.bind_eq_some_iff.mp H
  obtain ⟨t170, A20, H⟩ := H
  replace H : ((careenref04_small.f a0_2).bind fun t171 => ((careenref04_small.f a0_3).bind fun t172 => (if t171.size + t172.size ≤ 9223372036854775807 then ((careenref04_small.f (a0_8.size : Int)).bind fun t173 => (if (t171 ++ t172).size + t173.size ≤ 9223372036854775807 then (if a0_0 = 1 then ((careenref04_four.f a0_1).bind fun t174 => (if t170.size + t174.size ≤ 9223372036854775807 then ((careenref04_four.f a0_4).bind fun t175 => (if (t170 ++ t174).size + t175.size ≤ 9223372036854775807 then (if ((t170 ++ t174) ++ t175).size + ((t171 ++ t172) ++ t173).size ≤ 9223372036854775807 then (if (((t170 ++ t174) ++ t175) ++ ((t171 ++ t172) ++ t173)).size + a0_7.size ≤ 9223372036854775807 then (if ((((t170 ++ t174) ++ t175) ++ ((t171 ++ t172) ++ t173)) ++ a0_7).size + a0_8.size ≤ 9223372036854775807 then (some (((((t170 ++ t174) ++ t175) ++ ((t171 ++ t172) ++ t173)) ++ a0_7) ++ a0_8)) else (none)) else (none)) else (none)) else (none))) else (none))) else (if a0_0 = 2 then ((careenref04_four.f a0_1).bind fun t176 => (if t170.size + t176.size ≤ 9223372036854775807 then ((careenref04_four.f a0_4).bind fun t177 => (if (t170 ++ t176).size + t177.size ≤ 9223372036854775807 then ((careenref04_four.f a0_5).bind fun t178 => (if ((t170 ++ t176) ++ t177).size + t178.size ≤ 9223372036854775807 then (if (((t170 ++ t176) ++ t177) ++ t178).size + ((t171 ++ t172) ++ t173).size ≤ 9223372036854775807 then (if ((((t170 ++ t176) ++ t177) ++ t178) ++ ((t171 ++ t172) ++ t173)).size + a0_8.size ≤ 9223372036854775807 then (some (((((t170 ++ t176) ++ t177) ++ t178) ++ ((t171 ++ t172) ++ t173)) ++ a0_8)) else (none)) else (none)) else (none))) else (none))) else (none))) else (if a0_0 = 3 then (careenref04_Print.j0 k t170 a0_0 (a0_0 == 3) a0_0 a0_1 a0_2 a0_3 a0_4 a0_5 a0_6 a0_7 a0_8 l0_9 l0_10) else (careenref04_Print.j0 k t170 a0_0 (a0_0 == 4) a0_0 a0_1 a0_2 a0_3 a0_4 a0_5 a0_6 a0_7 a0_8 l0_9 l0_10)))) else (none))) else (none)))) = some r := H
  have A2 := Aside0.mk A20
  clear A20
  replace H := Option.bind_eq_some_iff.mp H
  obtain ⟨t171, A30, H⟩ := H
  replace H : ((careenref04_small.f a0_3).bind fun t172 => (if t171.size + t172.size ≤ 9223372036854775807 then ((careenref04_small.f (a0_8.size : Int)).bind fun t173 => (if (t171 ++ t172).size + t173.size ≤ 9223372036854775807 then (if a0_0 = 1 then ((careenref04_four.f a0_1).bind fun t174 => (if t170.size + t174.size ≤ 9223372036854775807 then ((careenref04_four.f a0_4).bind fun t175 => (if (t170 ++ t174).size + t175.size ≤ 9223372036854775807 then (if ((t170 ++ t174) ++ t175).size + ((t171 ++ t172) ++ t173).size ≤ 9223372036854775807 then (if (((t170 ++ t174) ++ t175) ++ ((t171 ++ t172) ++ t173)).size + a0_7.size ≤ 9223372036854775807 then (if ((((t170 ++ t174) ++ t175) ++ ((t171 ++ t172) ++ t173)) ++ a0_7).size + a0_8.size ≤ 9223372036854775807 then (some (((((t170 ++ t174) ++ t175) ++ ((t171 ++ t172) ++ t173)) ++ a0_7) ++ a0_8)) else (none)) else (none)) else (none)) else (none))) else (none))) else (if a0_0 = 2 then ((careenref04_four.f a0_1).bind fun t176 => (if t170.size + t176.size ≤ 9223372036854775807 then ((careenref04_four.f a0_4).bind fun t177 => (if (t170 ++ t176).size + t177.size ≤ 9223372036854775807 then ((careenref04_four.f a0_5).bind fun t178 => (if ((t170 ++ t176) ++ t177).size + t178.size ≤ 9223372036854775807 then (if (((t170 ++ t176) ++ t177) ++ t178).size + ((t171 ++ t172) ++ t173).size ≤ 9223372036854775807 then (if ((((t170 ++ t176) ++ t177) ++ t178) ++ ((t171 ++ t172) ++ t173)).size + a0_8.size ≤ 9223372036854775807 then (some (((((t170 ++ t176) ++ t177) ++ t178) ++ ((t171 ++ t172) ++ t173)) ++ a0_8)) else (none)) else (none)) else (none))) else (none))) else (none))) else (if a0_0 = 3 then (careenref04_Print.j0 k t170 a0_0 (a0_0 == 3) a0_0 a0_1 a0_2 a0_3 a0_4 a0_5 a0_6 a0_7 a0_8 l0_9 l0_10) else (careenref04_Print.j0 k t170 a0_0 (a0_0 == 4) a0_0 a0_1 a0_2 a0_3 a0_4 a0_5 a0_6 a0_7 a0_8 l0_9 l0_10)))) else (none))) else (none))) = some r := H
  have A3 := Aside0.mk A30
  clear A30
  replace H := Option.bind_eq_some_iff.mp H
  obtain ⟨t172, A40, H⟩ := H
  replace H : (if t171.size + t172.size ≤ 9223372036854775807 then ((careenref04_small.f (a0_8.size : Int)).bind fun t173 => (if (t171 ++ t172).size + t173.size ≤ 9223372036854775807 then (if a0_0 = 1 then ((careenref04_four.f a0_1).bind fun t174 => (if t170.size + t174.size ≤ 9223372036854775807 then ((careenref04_four.f a0_4).bind fun t175 => (if (t170 ++ t174).size + t175.size ≤ 9223372036854775807 then (if ((t170 ++ t174) ++ t175).size + ((t171 ++ t172) ++ t173).size ≤ 9223372036854775807 then (if (((t170 ++ t174) ++ t175) ++ ((t171 ++ t172) ++ t173)).size + a0_7.size ≤ 9223372036854775807 then (if ((((t170 ++ t174) ++ t175) ++ ((t171 ++ t172) ++ t173)) ++ a0_7).size + a0_8.size ≤ 9223372036854775807 then (some (((((t170 ++ t174) ++ t175) ++ ((t171 ++ t172) ++ t173)) ++ a0_7) ++ a0_8)) else (none)) else (none)) else (none)) else (none))) else (none))) else (if a0_0 = 2 then ((careenref04_four.f a0_1).bind fun t176 => (if t170.size + t176.size ≤ 9223372036854775807 then ((careenref04_four.f a0_4).bind fun t177 => (if (t170 ++ t176).size + t177.size ≤ 9223372036854775807 then ((careenref04_four.f a0_5).bind fun t178 => (if ((t170 ++ t176) ++ t177).size + t178.size ≤ 9223372036854775807 then (if (((t170 ++ t176) ++ t177) ++ t178).size + ((t171 ++ t172) ++ t173).size ≤ 9223372036854775807 then (if ((((t170 ++ t176) ++ t177) ++ t178) ++ ((t171 ++ t172) ++ t173)).size + a0_8.size ≤ 9223372036854775807 then (some (((((t170 ++ t176) ++ t177) ++ t178) ++ ((t171 ++ t172) ++ t173)) ++ a0_8)) else (none)) else (none)) else (none))) else (none))) else (none))) else (if a0_0 = 3 then (careenref04_Print.j0 k t170 a0_0 (a0_0 == 3) a0_0 a0_1 a0_2 a0_3 a0_4 a0_5 a0_6 a0_7 a0_8 l0_9 l0_10) else (careenref04_Print.j0 k t170 a0_0 (a0_0 == 4) a0_0 a0_1 a0_2 a0_3 a0_4 a0_5 a0_6 a0_7 a0_8 l0_9 l0_10)))) else (none))) else (none)) = some r := H
  have A4 := Aside0.mk A40
  clear A40
  by_cases c5 : t171.size + t172.size ≤ 9223372036854775807
  · rw [if_pos c5] at H
    have c5b0 := eq_true c5
    have c5b1 : decide (t171.size + t172.size ≤ 9223372036854775807) = true := decide_eq_true c5
    try have c5b2 : (9223372036854775807 < t171.size + t172.size) = False := eq_false (Nat.not_lt.2 c5)
    replace H := Option.bind_eq_some_iff.mp H
    obtain ⟨t173, A60, H⟩ := H
    replace H : (if (t171 ++ t172).size + t173.size ≤ 9223372036854775807 then (if a0_0 = 1 then ((careenref04_four.f a0_1).bind fun t174 => (if t170.size + t174.size ≤ 9223372036854775807 then ((careenref04_four.f a0_4).bind fun t175 => (if (t170 ++ t174).size + t175.size ≤ 9223372036854775807 then (if ((t170 ++ t174) ++ t175).size + ((t171 ++ t172) ++ t173).size ≤ 9223372036854775807 then (if (((t170 ++ t174) ++ t175) ++ ((t171 ++ t172) ++ t173)).size + a0_7.size ≤ 9223372036854775807 then (if ((((t170 ++ t174) ++ t175) ++ ((t171 ++ t172) ++ t173)) ++ a0_7).size + a0_8.size ≤ 9223372036854775807 then (some (((((t170 ++ t174) ++ t175) ++ ((t171 ++ t172) ++ t173)) ++ a0_7) ++ a0_8)) else (none)) else (none)) else (none)) else (none))) else (none))) else (if a0_0 = 2 then ((careenref04_four.f a0_1).bind fun t176 => (if t170.size + t176.size ≤ 9223372036854775807 then ((careenref04_four.f a0_4).bind fun t177 => (if (t170 ++ t176).size + t177.size ≤ 9223372036854775807 then ((careenref04_four.f a0_5).bind fun t178 => (if ((t170 ++ t176) ++ t177).size + t178.size ≤ 9223372036854775807 then (if (((t170 ++ t176) ++ t177) ++ t178).size + ((t171 ++ t172) ++ t173).size ≤ 9223372036854775807 then (if ((((t170 ++ t176) ++ t177) ++ t178) ++ ((t171 ++ t172) ++ t173)).size + a0_8.size ≤ 9223372036854775807 then (some (((((t170 ++ t176) ++ t177) ++ t178) ++ ((t171 ++ t172) ++ t173)) ++ a0_8)) else (none)) else (none)) else (none))) else (none))) else (none))) else (if a0_0 = 3 then (careenref04_Print.j0 k t170 a0_0 (a0_0 == 3) a0_0 a0_1 a0_2 a0_3 a0_4 a0_5 a0_6 a0_7 a0_8 l0_9 l0_10) else (careenref04_Print.j0 k t170 a0_0 (a0_0 == 4) a0_0 a0_1 a0_2 a0_3 a0_4 a0_5 a0_6 a0_7 a0_8 l0_9 l0_10)))) else (none)) = some r := H
    have A6 := Aside0.mk A60
    clear A60
    by_cases c7 : (t171 ++ t172).size + t173.size ≤ 9223372036854775807
    · rw [if_pos c7] at H
      have c7b0 := eq_true c7
      have c7b1 : decide ((t171 ++ t172).size + t173.size ≤ 9223372036854775807) = true := decide_eq_true c7
      try have c7b2 : (9223372036854775807 < (t171 ++ t172).size + t173.size) = False := eq_false (Nat.not_lt.2 c7)
      try have c7b3 := c7b2
      try simp only [ByteArray.size_append] at c7b3
      by_cases c8 : a0_0 = 1
      · rw [if_pos c8] at H
        have c8b0 : (a0_0 == 1) = true := beq_iff_eq.mpr c8
        have c8b1 : (a0_0 != 1) = false := bne_eq_false_iff_eq.mpr c8
        clear c8
        replace H := Option.bind_eq_some_iff.mp H
        obtain ⟨t174, A90, H⟩ := H
        replace H : (if t170.size + t174.size ≤ 9223372036854775807 then ((careenref04_four.f a0_4).bind fun t175 => (if (t170 ++ t174).size + t175.size ≤ 9223372036854775807 then (if ((t170 ++ t174) ++ t175).size + ((t171 ++ t172) ++ t173).size ≤ 9223372036854775807 then (if (((t170 ++ t174) ++ t175) ++ ((t171 ++ t172) ++ t173)).size + a0_7.size ≤ 9223372036854775807 then (if ((((t170 ++ t174) ++ t175) ++ ((t171 ++ t172) ++ t173)) ++ a0_7).size + a0_8.size ≤ 9223372036854775807 then (some (((((t170 ++ t174) ++ t175) ++ ((t171 ++ t172) ++ t173)) ++ a0_7) ++ a0_8)) else (none)) else (none)) else (none)) else (none))) else (none)) = some r := H
        have A9 := Aside0.mk A90
        clear A90
        by_cases c10 : t170.size + t174.size ≤ 9223372036854775807
        · rw [if_pos c10] at H
          have c10b0 := eq_true c10
          have c10b1 : decide (t170.size + t174.size ≤ 9223372036854775807) = true := decide_eq_true c10
          try have c10b2 : (9223372036854775807 < t170.size + t174.size) = False := eq_false (Nat.not_lt.2 c10)
          replace H := Option.bind_eq_some_iff.mp H
          obtain ⟨t175, A110, H⟩ := H
          replace H : (if (t170 ++ t174).size + t175.size ≤ 9223372036854775807 then (if ((t170 ++ t174) ++ t175).size + ((t171 ++ t172) ++ t173).size ≤ 9223372036854775807 then (if (((t170 ++ t174) ++ t175) ++ ((t171 ++ t172) ++ t173)).size + a0_7.size ≤ 9223372036854775807 then (if ((((t170 ++ t174) ++ t175) ++ ((t171 ++ t172) ++ t173)) ++ a0_7).size + a0_8.size ≤ 9223372036854775807 then (some (((((t170 ++ t174) ++ t175) ++ ((t171 ++ t172) ++ t173)) ++ a0_7) ++ a0_8)) else (none)) else (none)) else (none)) else (none)) = some r := H
          have A11 := Aside0.mk A110
          clear A110
          by_cases c12 : (t170 ++ t174).size + t175.size ≤ 9223372036854775807
          · rw [if_pos c12] at H
            have c12b0 := eq_true c12
            have c12b1 : decide ((t170 ++ t174).size + t175.size ≤ 9223372036854775807) = true := decide_eq_true c12
            try have c12b2 : (9223372036854775807 < (t170 ++ t174).size + t175.size) = False := eq_false (Nat.not_lt.2 c12)
            try have c12b3 := c12b2
            try simp only [ByteArray.size_append] at c12b3
            by_cases c13 : ((t170 ++ t174) ++ t175).size + ((t171 ++ t172) ++ t173).size ≤ 9223372036854775807
            · rw [if_pos c13] at H
              have c13b0 := eq_true c13
              have c13b1 : decide (((t170 ++ t174) ++ t175).size + ((t171 ++ t172) ++ t173).size ≤ 9223372036854775807) = true := decide_eq_true c13
              try have c13b2 : (9223372036854775807 < ((t170 ++ t174) ++ t175).size + ((t171 ++ t172) ++ t173).size) = False := eq_false (Nat.not_lt.2 c13)
              try have c13b3 := c13b2
              try simp only [ByteArray.size_append] at c13b3
              by_cases c14 : (((t170 ++ t174) ++ t175) ++ ((t171 ++ t172) ++ t173)).size + a0_7.size ≤ 9223372036854775807
              · rw [if_pos c14] at H
                have c14b0 := eq_true c14
                have c14b1 : decide ((((t170 ++ t174) ++ t175) ++ ((t171 ++ t172) ++ t173)).size + a0_7.size ≤ 9223372036854775807) = true := decide_eq_true c14
                try have c14b2 : (9223372036854775807 < (((t170 ++ t174) ++ t175) ++ ((t171 ++ t172) ++ t173)).size + a0_7.size) = False := eq_false (Nat.not_lt.2 c14)
                try have c14b3 := c14b2
                try simp only [ByteArray.size_append] at c14b3
                by_cases c15 : ((((t170 ++ t174) ++ t175) ++ ((t171 ++ t172) ++ t173)) ++ a0_7).size + a0_8.size ≤ 9223372036854775807
                · rw [if_pos c15] at H
                  have c15b0 := eq_true c15
                  have c15b1 : decide (((((t170 ++ t174) ++ t175) ++ ((t171 ++ t172) ++ t173)) ++ a0_7).size + a0_8.size ≤ 9223372036854775807) = true := decide_eq_true c15
                  try have c15b2 : (9223372036854775807 < ((((t170 ++ t174) ++ t175) ++ ((t171 ++ t172) ++ t173)) ++ a0_7).size + a0_8.size) = False := eq_false (Nat.not_lt.2 c15)
                  try have c15b3 := c15b2
                  try simp only [ByteArray.size_append] at c15b3
                  obtain rfl := Option.some.inj H
                  go_enter Try.func15, Try.ntmps15
                  try go_wp2_with (first | ((with_reducible refine gate_dst (N := 1) rfl ?_); refine box_event ?hg (N := 1) ?hd (cs := #[.int .i64 a0_0, .int .i64 a0_1, .int .i64 a0_2, .int .i64 a0_3, .int .i64 a0_4, .int .i64 a0_5, .int .i64 a0_6, .string a0_7, .string a0_8, .slice A0_9 l0_9.length c0_9, .slice A0_10 l0_10.length c0_10]) (t := 25) ?hr ?_; (case hd => rfl); (case hg => rfl); (case hr => first | (go_simp; done) | (go_simp; rfl)); intro gb169 hg w16 hbox hb; have n0_ := Aside0.mk (below_step (by repeat (first | (with_reducible first | exact HB.out | apply below_alloc | apply pw_below_drewN | apply below_drew1) | exact HB.out)) hb); have n1_ := Aside0.mk (hbox); have n2_ := Aside0.mk ((by rw [hg]; exact (below_size (by repeat (first | (with_reducible first | exact HB.out | apply below_alloc | apply pw_below_drewN | apply below_drew1) | exact HB.out))) : w.heap.size ≤ gb169)); have n3_ := Aside0.mk ((by rw [hg]; exact (below_size (by repeat (first | (with_reducible first | exact HB.out | apply below_alloc | apply pw_below_drewN | apply below_drew1) | exact HB.out))) : w.heap.size ≤ gb169)); clear HB; have HB := n0_; have BK169 := n1_; have GW169 := n2_; have GE169 := n3_; clear n0_ n1_ n2_ n3_; clear hb hbox hg; have hcz17_0 : w16.cell? ⟨gb169, 0, none⟩ = some (.int .i64 a0_0) := (blk_cell BK169.out 0).trans rfl; have hcz17_1 : w16.cell? ⟨gb169, 1, none⟩ = some (.int .i64 a0_1) := (blk_cell BK169.out 1).trans rfl; have hcz17_2 : w16.cell? ⟨gb169, 2, none⟩ = some (.int .i64 a0_2) := (blk_cell BK169.out 2).trans rfl; have hcz17_3 : w16.cell? ⟨gb169, 3, none⟩ = some (.int .i64 a0_3) := (blk_cell BK169.out 3).trans rfl; have hcz17_4 : w16.cell? ⟨gb169, 4, none⟩ = some (.int .i64 a0_4) := (blk_cell BK169.out 4).trans rfl; have hcz17_5 : w16.cell? ⟨gb169, 5, none⟩ = some (.int .i64 a0_5) := (blk_cell BK169.out 5).trans rfl; have hcz17_6 : w16.cell? ⟨gb169, 6, none⟩ = some (.int .i64 a0_6) := (blk_cell BK169.out 6).trans rfl; have hcz17_7 : w16.cell? ⟨gb169, 7, none⟩ = some (.string a0_7) := (blk_cell BK169.out 7).trans rfl; have hcz17_8 : w16.cell? ⟨gb169, 8, none⟩ = some (.string a0_8) := (blk_cell BK169.out 8).trans rfl; have hcz17_9 : w16.cell? ⟨gb169, 9, none⟩ = some (.slice A0_9 l0_9.length c0_9) := (blk_cell BK169.out 9).trans rfl; have hcz17_10 : w16.cell? ⟨gb169, 10, none⟩ = some (.slice A0_10 l0_10.length c0_10) := (blk_cell BK169.out 10).trans rfl; have hfz17_0 := blk_frozen BK169.out 0; have hfz17_1 := blk_frozen BK169.out 1; have hfz17_2 := blk_frozen BK169.out 2; have hfz17_3 := blk_frozen BK169.out 3; have hfz17_4 := blk_frozen BK169.out 4; have hfz17_5 := blk_frozen BK169.out 5; have hfz17_6 := blk_frozen BK169.out 6; have hfz17_7 := blk_frozen BK169.out 7; have hfz17_8 := blk_frozen BK169.out 8; have hfz17_9 := blk_frozen BK169.out 9; have hfz17_10 := blk_frozen BK169.out 10) | ((with_reducible refine gate_callee (f := 29) rfl ?_); refine goesL_ (some 9) rfl rfl Try.func29 (by kernel_rfl) rfl #[.int .i64 a0_0] rfl (by (try simp only [List.map_toArray, List.map_cons, List.map_nil]); first | done | rfl | (simp only [List.length_drop, List.length_take]; rfl)) ?_; (with_reducible refine (careenref04_small.calls a0_0 t170 _ A2.out).mono ?_); rintro e w18 ⟨rfl, hb⟩; refine ⟨_, rfl, ?_⟩; have n0_ := Aside0.mk (blk_below (g := gb169) (o := .cells #[.int .i64 a0_0, .int .i64 a0_1, .int .i64 a0_2, .int .i64 a0_3, .int .i64 a0_4, .int .i64 a0_5, .int .i64 a0_6, .string a0_7, .string a0_8, .slice A0_9 l0_9.length c0_9, .slice A0_10 l0_10.length c0_10] 25 (0, 0)) (by (with_reducible repeat (first | refine blk_drewN ?_ _ | refine blk_drew ?_ | refine blk_alloc ?_ _)); exact BK169.out) hb); have n1_ := Aside0.mk (below_step (by repeat (first | (with_reducible first | exact HB.out | apply below_alloc | apply pw_below_drewN | apply below_drew1 | refine below_set ?_ GE169.out) | exact HB.out)) hb); clear BK169; clear HB; have BK169 := n0_; have HB := n1_; clear n0_ n1_; (try clear hb); (try clear hb2); (try clear hk); (try clear hi)))
                  have n0_ := Aside0.mk (blk_drew BK169.out)
                  have n1_ := Aside0.mk (below_drew1 HB.out)
                  clear BK169
                  clear HB
                  have BK169 := n0_
                  have HB := n1_
                  clear n0_ n1_
                  refine start_ (n := 13) (S := fun w' => w'.cell? ⟨gb169, 0, none⟩ = some (.int .i64 a0_0) ∧ w'.cell? ⟨gb169, 1, none⟩ = some (.int .i64 a0_1) ∧ w'.cell? ⟨gb169, 2, none⟩ = some (.int .i64 a0_2) ∧ w'.cell? ⟨gb169, 3, none⟩ = some (.int .i64 a0_3) ∧ w'.cell? ⟨gb169, 4, none⟩ = some (.int .i64 a0_4) ∧ w'.cell? ⟨gb169, 5, none⟩ = some (.int .i64 a0_5) ∧ w'.cell? ⟨gb169, 6, none⟩ = some (.int .i64 a0_6) ∧ w'.cell? ⟨gb169, 7, none⟩ = some (.string a0_7) ∧ w'.cell? ⟨gb169, 8, none⟩ = some (.string a0_8) ∧ w'.cell? ⟨gb169, 9, none⟩ = some (.slice A0_9 l0_9.length c0_9) ∧ w'.cell? ⟨gb169, 10, none⟩ = some (.slice A0_10 l0_10.length c0_10)) (ds := []) #[false, false, false, false, false, false, false, false, false, false, false, false, false] (by kernel_rfl) rfl rfl ⟨(blk_cell BK169.out 0).trans rfl, (blk_cell BK169.out 1).trans rfl, (blk_cell BK169.out 2).trans rfl, (blk_cell BK169.out 3).trans rfl, (blk_cell BK169.out 4).trans rfl, (blk_cell BK169.out 5).trans rfl, (blk_cell BK169.out 6).trans rfl, (blk_cell BK169.out 7).trans rfl, (blk_cell BK169.out 8).trans rfl, (blk_cell BK169.out 9).trans rfl, (blk_cell BK169.out 10).trans rfl⟩ (fun hHeld => ?_); refine with_tabW careenref04_Print.tab2 careenref04_Print.bits2 (fun HT_ HW_ => ?_)
                  generalize w18.drew = w19 at BK169 HB hHeld ⊢
                  refine pure_ (i := 0) (N := some 10) (v := ?_) (a' := ?_) #[true, false, false, false, false, false, false, false, false, false, false, false, false] rfl rfl (any_of HT_.out (by kernel_rfl)) (fun _ _ _ h => h) (Or.inl ⟨by rfl, ?_⟩) ?_ ?_
                  rotate_left
                  · intro w'
                    go_simp
                    with_reducible rfl
                  rotate_left
                  · simp only [Act.put, List.setIfInBounds_toArray, List.set_cons_zero, List.set_cons_succ, i64_w, i32_w]
                    rfl
                  refine pure_ (i := 3) (N := some 13) (v := ?_) (a' := ?_) #[true, false, false, true, false, false, false, false, false, false, false, false, false] rfl rfl (any_of HT_.out (by kernel_rfl)) (fun _ _ _ h => h) (Or.inl ⟨by rfl, ?_⟩) ?_ ?_
                  rotate_left
                  · intro w'
                    go_simp
                    with_reducible rfl
                  rotate_left
                  · simp only [Act.put, List.setIfInBounds_toArray, List.set_cons_zero, List.set_cons_succ, i64_w, i32_w]
                    rfl
                  refine pure_ (i := 7) (N := some 17) (v := ?_) (a' := ?_) #[true, false, false, true, false, false, false, true, false, false, false, false, false] rfl rfl (any_of HT_.out (by kernel_rfl)) (fun _ _ _ h => h) (Or.inl ⟨by rfl, ?_⟩) ?_ ?_
                  rotate_left
                  · intro w'
                    go_simp
                    with_reducible rfl
                  rotate_left
                  · simp only [Act.put, List.setIfInBounds_toArray, List.set_cons_zero, List.set_cons_succ, i64_w, i32_w]
                    rfl
                  refine take_ (i := 1) (N := some 11) (v := ?_) (a' := ?_) #[true, true, false, true, false, false, false, true, false, false, false, false, false] rfl rfl (take_ofW HT_.out HW_.out (by kernel_rfl)) (fun _ _ _ h => h) (Or.inl ⟨by rfl, ?_⟩) hHeld ?_ ?_
                  rotate_left
                  · rintro w' ⟨s0, s1, s2, s3, s4, s5, s6, s7, s8, s9, s10⟩
                    go_simp
                    with_reducible rfl
                  rotate_left
                  · simp only [Act.put, List.setIfInBounds_toArray, List.set_cons_zero, List.set_cons_succ, i64_w, i32_w]
                    rfl
                  refine take_ (i := 4) (N := some 14) (v := ?_) (a' := ?_) #[true, true, false, true, true, false, false, true, false, false, false, false, false] rfl rfl (take_ofW HT_.out HW_.out (by kernel_rfl)) (fun _ _ _ h => h) (Or.inl ⟨by rfl, ?_⟩) hHeld ?_ ?_
                  rotate_left
                  · rintro w' ⟨s0, s1, s2, s3, s4, s5, s6, s7, s8, s9, s10⟩
                    go_simp
                    with_reducible rfl
                  rotate_left
                  · simp only [Act.put, List.setIfInBounds_toArray, List.set_cons_zero, List.set_cons_succ, i64_w, i32_w]
                    rfl
                  refine take_ (i := 8) (N := some 18) (v := ?_) (a' := ?_) #[true, true, false, true, true, false, false, true, true, false, false, false, false] rfl rfl (take_ofW HT_.out HW_.out (by kernel_rfl)) (fun _ _ _ h => h) (Or.inl ⟨by rfl, ?_⟩) hHeld ?_ ?_
                  rotate_left
                  · rintro w' ⟨s0, s1, s2, s3, s4, s5, s6, s7, s8, s9, s10⟩
                    go_simp
                    with_reducible rfl
                  rotate_left
                  · simp only [Act.put, List.setIfInBounds_toArray, List.set_cons_zero, List.set_cons_succ, i64_w, i32_w]
                    rfl
                  refine pure_ (i := 9) (N := some 19) (v := ?_) (a' := ?_) #[true, true, false, true, true, false, false, true, true, true, false, false, false] rfl rfl (any_of HT_.out (by kernel_rfl)) (fun _ _ _ h => h) (Or.inl ⟨by rfl, ?_⟩) ?_ ?_
                  rotate_left
                  · intro w'
                    go_simp
                    with_reducible rfl
                  rotate_left
                  · simp only [Act.put, List.setIfInBounds_toArray, List.set_cons_zero, List.set_cons_succ, i64_w, i32_w]
                    rfl
                  refine one_ (i := 2) (N := some 12) #[true, true, true, true, true, false, false, true, true, true, false, false, false] rfl rfl (one_of HT_.out (by kernel_rfl)) (by decide) (fun K hK => ?_)
                  refine goes_ Try.func29 (by kernel_rfl) rfl #[.int .i64 a0_2] (by rfl) rfl rfl (by (try simp only [List.map_toArray, List.map_cons, List.map_nil]); first | done | rfl | (simp only [List.length_drop, List.length_take]; rfl)) ?_
                  with_reducible refine (careenref04_small.calls a0_2 t171 _ A3.out).mono ?_
                  rintro e w20 ⟨rfl, hb⟩
                  refine ⟨_, rfl, ?_⟩
                  have n0_ := Aside0.mk (blk_below (g := gb169) (o := .cells #[.int .i64 a0_0, .int .i64 a0_1, .int .i64 a0_2, .int .i64 a0_3, .int .i64 a0_4, .int .i64 a0_5, .int .i64 a0_6, .string a0_7, .string a0_8, .slice A0_9 l0_9.length c0_9, .slice A0_10 l0_10.length c0_10] 25 (0, 0)) (by (with_reducible repeat (first | refine blk_drewN ?_ _ | refine blk_drew ?_ | refine blk_alloc ?_ _)); exact BK169.out) hb)
                  have n1_ := Aside0.mk (below_step (by repeat (first | (with_reducible first | exact HB.out | apply below_alloc | apply pw_below_drewN | apply below_drew1 | refine below_set ?_ GE169.out) | exact HB.out)) hb)
                  clear BK169
                  clear HB
                  have BK169 := n0_
                  have HB := n1_
                  clear n0_ n1_
                  (try clear hb)
                  (try clear hb2)
                  (try clear hk)
                  (try clear hi)
                  refine hK.out _ _ ⟨(blk_cell BK169.out 0).trans rfl, (blk_cell BK169.out 1).trans rfl, (blk_cell BK169.out 2).trans rfl, (blk_cell BK169.out 3).trans rfl, (blk_cell BK169.out 4).trans rfl, (blk_cell BK169.out 5).trans rfl, (blk_cell BK169.out 6).trans rfl, (blk_cell BK169.out 7).trans rfl, (blk_cell BK169.out 8).trans rfl, (blk_cell BK169.out 9).trans rfl, (blk_cell BK169.out 10).trans rfl⟩ (fun hHeld => ?_)
                  clear hK K
                  refine norm_ (a' := ?_) ?_ ?_
                  rotate_left
                  · show Act.put _ (some 12) _ = _
                    simp only [Act.put, List.setIfInBounds_toArray, List.set_cons_zero, List.set_cons_succ, i64_w, i32_w]
                    rfl
                  refine one_ (i := 5) (N := some 15) #[true, true, true, true, true, true, false, true, true, true, false, false, false] rfl rfl (one_of HT_.out (by kernel_rfl)) (by decide) (fun K hK => ?_)
                  refine goes_ Try.func29 (by kernel_rfl) rfl #[.int .i64 a0_3] (by rfl) rfl rfl (by (try simp only [List.map_toArray, List.map_cons, List.map_nil]); first | done | rfl | (simp only [List.length_drop, List.length_take]; rfl)) ?_
                  with_reducible refine (careenref04_small.calls a0_3 t172 _ A4.out).mono ?_
                  rintro e w21 ⟨rfl, hb⟩
                  refine ⟨_, rfl, ?_⟩
                  have n0_ := Aside0.mk (blk_below (g := gb169) (o := .cells #[.int .i64 a0_0, .int .i64 a0_1, .int .i64 a0_2, .int .i64 a0_3, .int .i64 a0_4, .int .i64 a0_5, .int .i64 a0_6, .string a0_7, .string a0_8, .slice A0_9 l0_9.length c0_9, .slice A0_10 l0_10.length c0_10] 25 (0, 0)) (by (with_reducible repeat (first | refine blk_drewN ?_ _ | refine blk_drew ?_ | refine blk_alloc ?_ _)); exact BK169.out) hb)
                  have n1_ := Aside0.mk (below_step (by repeat (first | (with_reducible first | exact HB.out | apply below_alloc | apply pw_below_drewN | apply below_drew1 | refine below_set ?_ GE169.out) | exact HB.out)) hb)
                  clear BK169
                  clear HB
                  have BK169 := n0_
                  have HB := n1_
                  clear n0_ n1_
                  (try clear hb)
                  (try clear hb2)
                  (try clear hk)
                  (try clear hi)
                  refine hK.out _ _ ⟨(blk_cell BK169.out 0).trans rfl, (blk_cell BK169.out 1).trans rfl, (blk_cell BK169.out 2).trans rfl, (blk_cell BK169.out 3).trans rfl, (blk_cell BK169.out 4).trans rfl, (blk_cell BK169.out 5).trans rfl, (blk_cell BK169.out 6).trans rfl, (blk_cell BK169.out 7).trans rfl, (blk_cell BK169.out 8).trans rfl, (blk_cell BK169.out 9).trans rfl, (blk_cell BK169.out 10).trans rfl⟩ (fun hHeld => ?_)
                  clear hK K
                  refine norm_ (a' := ?_) ?_ ?_
                  rotate_left
                  · show Act.put _ (some 15) _ = _
                    simp only [Act.put, List.setIfInBounds_toArray, List.set_cons_zero, List.set_cons_succ, i64_w, i32_w]
                    rfl
                  refine pure_ (i := 6) (N := some 16) (v := ?_) (a' := ?_) #[true, true, true, true, true, true, true, true, true, true, false, false, false] rfl rfl (any_of HT_.out (by kernel_rfl)) (fun _ _ _ h => h) (Or.inl ⟨by rfl, ?_⟩) ?_ ?_
                  rotate_left
                  · intro w'
                    go_simp
                    with_reducible rfl
                  rotate_left
                  · simp only [Act.put, List.setIfInBounds_toArray, List.set_cons_zero, List.set_cons_succ, i64_w, i32_w]
                    rfl
                  refine one_ (i := 10) (N := some 20) #[true, true, true, true, true, true, true, true, true, true, true, false, false] rfl rfl (one_of HT_.out (by kernel_rfl)) (by decide) (fun K hK => ?_)
                  refine goes_ Try.func29 (by kernel_rfl) rfl #[.int .i64 (a0_8.size : Int)] (by rfl) rfl rfl (by (try simp only [List.map_toArray, List.map_cons, List.map_nil]); first | done | rfl | (simp only [List.length_drop, List.length_take]; rfl)) ?_
                  with_reducible refine (careenref04_small.calls (a0_8.size : Int) t173 _ A6.out).mono ?_
                  rintro e w22 ⟨rfl, hb⟩
                  refine ⟨_, rfl, ?_⟩
                  have n0_ := Aside0.mk (blk_below (g := gb169) (o := .cells #[.int .i64 a0_0, .int .i64 a0_1, .int .i64 a0_2, .int .i64 a0_3, .int .i64 a0_4, .int .i64 a0_5, .int .i64 a0_6, .string a0_7, .string a0_8, .slice A0_9 l0_9.length c0_9, .slice A0_10 l0_10.length c0_10] 25 (0, 0)) (by (with_reducible repeat (first | refine blk_drewN ?_ _ | refine blk_drew ?_ | refine blk_alloc ?_ _)); exact BK169.out) hb)
                  have n1_ := Aside0.mk (below_step (by repeat (first | (with_reducible first | exact HB.out | apply below_alloc | apply pw_below_drewN | apply below_drew1 | refine below_set ?_ GE169.out) | exact HB.out)) hb)
                  clear BK169
                  clear HB
                  have BK169 := n0_
                  have HB := n1_
                  clear n0_ n1_
                  (try clear hb)
                  (try clear hb2)
                  (try clear hk)
                  (try clear hi)
                  refine hK.out _ _ ⟨(blk_cell BK169.out 0).trans rfl, (blk_cell BK169.out 1).trans rfl, (blk_cell BK169.out 2).trans rfl, (blk_cell BK169.out 3).trans rfl, (blk_cell BK169.out 4).trans rfl, (blk_cell BK169.out 5).trans rfl, (blk_cell BK169.out 6).trans rfl, (blk_cell BK169.out 7).trans rfl, (blk_cell BK169.out 8).trans rfl, (blk_cell BK169.out 9).trans rfl, (blk_cell BK169.out 10).trans rfl⟩ (fun hHeld => ?_)
                  clear hK K
                  refine norm_ (a' := ?_) ?_ ?_
                  rotate_left
                  · show Act.put _ (some 20) _ = _
                    simp only [Act.put, List.setIfInBounds_toArray, List.set_cons_zero, List.set_cons_succ, i64_w, i32_w]
                    rfl
                  refine pure_ (i := 11) (N := some 21) (v := ?_) (a' := ?_) #[true, true, true, true, true, true, true, true, true, true, true, true, false] rfl rfl (any_of HT_.out (by kernel_rfl)) (fun _ _ _ h => h) (Or.inl ⟨by rfl, ?_⟩) ?_ ?_
                  rotate_left
                  · intro w'
                    go_simp
                    with_reducible rfl
                  rotate_left
                  · simp only [Act.put, List.setIfInBounds_toArray, List.set_cons_zero, List.set_cons_succ, i64_w, i32_w]
                    rfl
                  refine pure_ (i := 12) (N := some 4) (v := ?_) (a' := ?_) #[true, true, true, true, true, true, true, true, true, true, true, true, true] rfl rfl (any_of HT_.out (by kernel_rfl)) (fun _ _ _ h => h) (Or.inl ⟨by rfl, ?_⟩) ?_ ?_
                  rotate_left
                  · intro w'
                    go_simp
                    with_reducible rfl
                  rotate_left
                  · simp only [Act.put, List.setIfInBounds_toArray, List.set_cons_zero, List.set_cons_succ, i64_w, i32_w]
                    rfl
                  refine done_ (done_of HT_.out (by kernel_rfl)) ?_
                  have hcz23_0 : w22.cell? ⟨gb169, 0, none⟩ = some (.int .i64 a0_0) := (blk_cell BK169.out 0).trans rfl
                  have hcz23_1 : w22.cell? ⟨gb169, 1, none⟩ = some (.int .i64 a0_1) := (blk_cell BK169.out 1).trans rfl
                  have hcz23_2 : w22.cell? ⟨gb169, 2, none⟩ = some (.int .i64 a0_2) := (blk_cell BK169.out 2).trans rfl
                  have hcz23_3 : w22.cell? ⟨gb169, 3, none⟩ = some (.int .i64 a0_3) := (blk_cell BK169.out 3).trans rfl
                  have hcz23_4 : w22.cell? ⟨gb169, 4, none⟩ = some (.int .i64 a0_4) := (blk_cell BK169.out 4).trans rfl
                  have hcz23_5 : w22.cell? ⟨gb169, 5, none⟩ = some (.int .i64 a0_5) := (blk_cell BK169.out 5).trans rfl
                  have hcz23_6 : w22.cell? ⟨gb169, 6, none⟩ = some (.int .i64 a0_6) := (blk_cell BK169.out 6).trans rfl
                  have hcz23_7 : w22.cell? ⟨gb169, 7, none⟩ = some (.string a0_7) := (blk_cell BK169.out 7).trans rfl
                  have hcz23_8 : w22.cell? ⟨gb169, 8, none⟩ = some (.string a0_8) := (blk_cell BK169.out 8).trans rfl
                  have hcz23_9 : w22.cell? ⟨gb169, 9, none⟩ = some (.slice A0_9 l0_9.length c0_9) := (blk_cell BK169.out 9).trans rfl
                  have hcz23_10 : w22.cell? ⟨gb169, 10, none⟩ = some (.slice A0_10 l0_10.length c0_10) := (blk_cell BK169.out 10).trans rfl
                  have hfz23_0 := blk_frozen BK169.out 0
                  have hfz23_1 := blk_frozen BK169.out 1
                  have hfz23_2 := blk_frozen BK169.out 2
                  have hfz23_3 := blk_frozen BK169.out 3
                  have hfz23_4 := blk_frozen BK169.out 4
                  have hfz23_5 := blk_frozen BK169.out 5
                  have hfz23_6 := blk_frozen BK169.out 6
                  have hfz23_7 := blk_frozen BK169.out 7
                  have hfz23_8 := blk_frozen BK169.out 8
                  have hfz23_9 := blk_frozen BK169.out 9
                  have hfz23_10 := blk_frozen BK169.out 10
                  try go_wp2
                  have n0_ := Aside0.mk (blk_drew BK169.out)
                  have n1_ := Aside0.mk (below_drew1 HB.out)
                  clear BK169
                  clear HB
                  have BK169 := n0_
                  have HB := n1_
                  clear n0_ n1_
                  refine start_ (n := 18) (S := fun w' => w'.cell? ⟨gb169, 0, none⟩ = some (.int .i64 a0_0) ∧ w'.cell? ⟨gb169, 1, none⟩ = some (.int .i64 a0_1) ∧ w'.cell? ⟨gb169, 2, none⟩ = some (.int .i64 a0_2) ∧ w'.cell? ⟨gb169, 3, none⟩ = some (.int .i64 a0_3) ∧ w'.cell? ⟨gb169, 4, none⟩ = some (.int .i64 a0_4) ∧ w'.cell? ⟨gb169, 5, none⟩ = some (.int .i64 a0_5) ∧ w'.cell? ⟨gb169, 6, none⟩ = some (.int .i64 a0_6) ∧ w'.cell? ⟨gb169, 7, none⟩ = some (.string a0_7) ∧ w'.cell? ⟨gb169, 8, none⟩ = some (.string a0_8) ∧ w'.cell? ⟨gb169, 9, none⟩ = some (.slice A0_9 l0_9.length c0_9) ∧ w'.cell? ⟨gb169, 10, none⟩ = some (.slice A0_10 l0_10.length c0_10)) (ds := []) #[false, false, false, false, false, false, false, false, false, false, false, false, false, false, false, false, false, false] (by kernel_rfl) rfl rfl ⟨(blk_cell BK169.out 0).trans rfl, (blk_cell BK169.out 1).trans rfl, (blk_cell BK169.out 2).trans rfl, (blk_cell BK169.out 3).trans rfl, (blk_cell BK169.out 4).trans rfl, (blk_cell BK169.out 5).trans rfl, (blk_cell BK169.out 6).trans rfl, (blk_cell BK169.out 7).trans rfl, (blk_cell BK169.out 8).trans rfl, (blk_cell BK169.out 9).trans rfl, (blk_cell BK169.out 10).trans rfl⟩ (fun hHeld => ?_); refine with_tabW careenref04_Print.tab5 careenref04_Print.bits5 (fun HT_ HW_ => ?_)
                  generalize w22.drew = w24 at BK169 HB hHeld ⊢
                  refine pure_ (i := 0) (N := some 26) (v := ?_) (a' := ?_) #[true, false, false, false, false, false, false, false, false, false, false, false, false, false, false, false, false, false] rfl rfl (any_of HT_.out (by kernel_rfl)) (fun _ _ _ h => h) (Or.inl ⟨by rfl, ?_⟩) ?_ ?_
                  rotate_left
                  · intro w'
                    go_simp
                    with_reducible rfl
                  rotate_left
                  · simp only [Act.put, List.setIfInBounds_toArray, List.set_cons_zero, List.set_cons_succ, i64_w, i32_w]
                    rfl
                  refine pure_ (i := 1) (N := some 27) (v := ?_) (a' := ?_) #[true, true, false, false, false, false, false, false, false, false, false, false, false, false, false, false, false, false] rfl rfl (any_of HT_.out (by kernel_rfl)) (fun _ _ _ h => h) (Or.inl ⟨by rfl, ?_⟩) ?_ ?_
                  rotate_left
                  · intro w'
                    go_simp
                    with_reducible rfl
                  rotate_left
                  · simp only [Act.put, List.setIfInBounds_toArray, List.set_cons_zero, List.set_cons_succ, i64_w, i32_w]
                    rfl
                  refine pure_ (i := 5) (N := some 31) (v := ?_) (a' := ?_) #[true, true, false, false, false, true, false, false, false, false, false, false, false, false, false, false, false, false] rfl rfl (any_of HT_.out (by kernel_rfl)) (fun _ _ _ h => h) (Or.inl ⟨by rfl, ?_⟩) ?_ ?_
                  rotate_left
                  · intro w'
                    go_simp
                    with_reducible rfl
                  rotate_left
                  · simp only [Act.put, List.setIfInBounds_toArray, List.set_cons_zero, List.set_cons_succ, i64_w, i32_w]
                    rfl
                  refine pure_ (i := 9) (N := some 35) (v := ?_) (a' := ?_) #[true, true, false, false, false, true, false, false, false, true, false, false, false, false, false, false, false, false] rfl rfl (any_of HT_.out (by kernel_rfl)) (fun _ _ _ h => h) (Or.inl ⟨by rfl, ?_⟩) ?_ ?_
                  rotate_left
                  · intro w'
                    go_simp
                    with_reducible rfl
                  rotate_left
                  · simp only [Act.put, List.setIfInBounds_toArray, List.set_cons_zero, List.set_cons_succ, i64_w, i32_w]
                    rfl
                  refine pure_ (i := 11) (N := some 37) (v := ?_) (a' := ?_) #[true, true, false, false, false, true, false, false, false, true, false, true, false, false, false, false, false, false] rfl rfl (any_of HT_.out (by kernel_rfl)) (fun _ _ _ h => h) (Or.inl ⟨by rfl, ?_⟩) ?_ ?_
                  rotate_left
                  · intro w'
                    go_simp
                    with_reducible rfl
                  rotate_left
                  · simp only [Act.put, List.setIfInBounds_toArray, List.set_cons_zero, List.set_cons_succ, i64_w, i32_w]
                    rfl
                  refine pure_ (i := 14) (N := some 40) (v := ?_) (a' := ?_) #[true, true, false, false, false, true, false, false, false, true, false, true, false, false, true, false, false, false] rfl rfl (any_of HT_.out (by kernel_rfl)) (fun _ _ _ h => h) (Or.inl ⟨by rfl, ?_⟩) ?_ ?_
                  rotate_left
                  · intro w'
                    go_simp
                    with_reducible rfl
                  rotate_left
                  · simp only [Act.put, List.setIfInBounds_toArray, List.set_cons_zero, List.set_cons_succ, i64_w, i32_w]
                    rfl
                  refine take_ (i := 2) (N := some 28) (v := ?_) (a' := ?_) #[true, true, true, false, false, true, false, false, false, true, false, true, false, false, true, false, false, false] rfl rfl (take_ofW HT_.out HW_.out (by kernel_rfl)) (fun _ _ _ h => h) (Or.inl ⟨by rfl, ?_⟩) hHeld ?_ ?_
                  rotate_left
                  · rintro w' ⟨s0, s1, s2, s3, s4, s5, s6, s7, s8, s9, s10⟩
                    go_simp
                    with_reducible rfl
                  rotate_left
                  · simp only [Act.put, List.setIfInBounds_toArray, List.set_cons_zero, List.set_cons_succ, i64_w, i32_w]
                    rfl
                  refine take_ (i := 6) (N := some 32) (v := ?_) (a' := ?_) #[true, true, true, false, false, true, true, false, false, true, false, true, false, false, true, false, false, false] rfl rfl (take_ofW HT_.out HW_.out (by kernel_rfl)) (fun _ _ _ h => h) (Or.inl ⟨by rfl, ?_⟩) hHeld ?_ ?_
                  rotate_left
                  · rintro w' ⟨s0, s1, s2, s3, s4, s5, s6, s7, s8, s9, s10⟩
                    go_simp
                    with_reducible rfl
                  rotate_left
                  · simp only [Act.put, List.setIfInBounds_toArray, List.set_cons_zero, List.set_cons_succ, i64_w, i32_w]
                    rfl
                  refine take_ (i := 12) (N := some 38) (v := ?_) (a' := ?_) #[true, true, true, false, false, true, true, false, false, true, false, true, true, false, true, false, false, false] rfl rfl (take_ofW HT_.out HW_.out (by kernel_rfl)) (fun _ _ _ h => h) (Or.inl ⟨by rfl, ?_⟩) hHeld ?_ ?_
                  rotate_left
                  · rintro w' ⟨s0, s1, s2, s3, s4, s5, s6, s7, s8, s9, s10⟩
                    go_simp
                    with_reducible rfl
                  rotate_left
                  · simp only [Act.put, List.setIfInBounds_toArray, List.set_cons_zero, List.set_cons_succ, i64_w, i32_w]
                    rfl
                  refine take_ (i := 15) (N := some 41) (v := ?_) (a' := ?_) #[true, true, true, false, false, true, true, false, false, true, false, true, true, false, true, true, false, false] rfl rfl (take_ofW HT_.out HW_.out (by kernel_rfl)) (fun _ _ _ h => h) (Or.inl ⟨by rfl, ?_⟩) hHeld ?_ ?_
                  rotate_left
                  · rintro w' ⟨s0, s1, s2, s3, s4, s5, s6, s7, s8, s9, s10⟩
                    go_simp
                    with_reducible rfl
                  rotate_left
                  · simp only [Act.put, List.setIfInBounds_toArray, List.set_cons_zero, List.set_cons_succ, i64_w, i32_w]
                    rfl
                  refine one_ (i := 3) (N := some 29) #[true, true, true, true, false, true, true, false, false, true, false, true, true, false, true, true, false, false] rfl rfl (one_of HT_.out (by kernel_rfl)) (by decide) (fun K hK => ?_)
                  refine goes_ Try.func30 (by kernel_rfl) rfl #[.int .i64 a0_1] (by rfl) rfl rfl (by (try simp only [List.map_toArray, List.map_cons, List.map_nil]); first | done | rfl | (simp only [List.length_drop, List.length_take]; rfl)) ?_
                  with_reducible refine (careenref04_four.calls a0_1 t174 _ A9.out).mono ?_
                  rintro e w25 ⟨rfl, hb⟩
                  refine ⟨_, rfl, ?_⟩
                  have n0_ := Aside0.mk (blk_below (g := gb169) (o := .cells #[.int .i64 a0_0, .int .i64 a0_1, .int .i64 a0_2, .int .i64 a0_3, .int .i64 a0_4, .int .i64 a0_5, .int .i64 a0_6, .string a0_7, .string a0_8, .slice A0_9 l0_9.length c0_9, .slice A0_10 l0_10.length c0_10] 25 (0, 0)) (by (with_reducible repeat (first | refine blk_drewN ?_ _ | refine blk_drew ?_ | refine blk_alloc ?_ _)); exact BK169.out) hb)
                  have n1_ := Aside0.mk (below_step (by repeat (first | (with_reducible first | exact HB.out | apply below_alloc | apply pw_below_drewN | apply below_drew1 | refine below_set ?_ GE169.out) | exact HB.out)) hb)
                  clear BK169
                  clear HB
                  have BK169 := n0_
                  have HB := n1_
                  clear n0_ n1_
                  (try clear hb)
                  (try clear hb2)
                  (try clear hk)
                  (try clear hi)
                  refine hK.out _ _ ⟨(blk_cell BK169.out 0).trans rfl, (blk_cell BK169.out 1).trans rfl, (blk_cell BK169.out 2).trans rfl, (blk_cell BK169.out 3).trans rfl, (blk_cell BK169.out 4).trans rfl, (blk_cell BK169.out 5).trans rfl, (blk_cell BK169.out 6).trans rfl, (blk_cell BK169.out 7).trans rfl, (blk_cell BK169.out 8).trans rfl, (blk_cell BK169.out 9).trans rfl, (blk_cell BK169.out 10).trans rfl⟩ (fun hHeld => ?_)
                  clear hK K
                  refine norm_ (a' := ?_) ?_ ?_
                  rotate_left
                  · show Act.put _ (some 29) _ = _
                    simp only [Act.put, List.setIfInBounds_toArray, List.set_cons_zero, List.set_cons_succ, i64_w, i32_w]
                    rfl
                  refine pure_ (i := 4) (N := some 30) (v := ?_) (a' := ?_) #[true, true, true, true, true, true, true, false, false, true, false, true, true, false, true, true, false, false] rfl rfl (any_of HT_.out (by kernel_rfl)) (fun _ _ _ h => h) (Or.inl ⟨by rfl, ?_⟩) ?_ ?_
                  rotate_left
                  · intro w'
                    go_simp
                    with_reducible rfl
                  rotate_left
                  · simp only [Act.put, List.setIfInBounds_toArray, List.set_cons_zero, List.set_cons_succ, i64_w, i32_w]
                    rfl
                  refine one_ (i := 7) (N := some 33) #[true, true, true, true, true, true, true, true, false, true, false, true, true, false, true, true, false, false] rfl rfl (one_of HT_.out (by kernel_rfl)) (by decide) (fun K hK => ?_)
                  refine goes_ Try.func30 (by kernel_rfl) rfl #[.int .i64 a0_4] (by rfl) rfl rfl (by (try simp only [List.map_toArray, List.map_cons, List.map_nil]); first | done | rfl | (simp only [List.length_drop, List.length_take]; rfl)) ?_
                  with_reducible refine (careenref04_four.calls a0_4 t175 _ A11.out).mono ?_
                  rintro e w26 ⟨rfl, hb⟩
                  refine ⟨_, rfl, ?_⟩
                  have n0_ := Aside0.mk (blk_below (g := gb169) (o := .cells #[.int .i64 a0_0, .int .i64 a0_1, .int .i64 a0_2, .int .i64 a0_3, .int .i64 a0_4, .int .i64 a0_5, .int .i64 a0_6, .string a0_7, .string a0_8, .slice A0_9 l0_9.length c0_9, .slice A0_10 l0_10.length c0_10] 25 (0, 0)) (by (with_reducible repeat (first | refine blk_drewN ?_ _ | refine blk_drew ?_ | refine blk_alloc ?_ _)); exact BK169.out) hb)
                  have n1_ := Aside0.mk (below_step (by repeat (first | (with_reducible first | exact HB.out | apply below_alloc | apply pw_below_drewN | apply below_drew1 | refine below_set ?_ GE169.out) | exact HB.out)) hb)
                  clear BK169
                  clear HB
                  have BK169 := n0_
                  have HB := n1_
                  clear n0_ n1_
                  (try clear hb)
                  (try clear hb2)
                  (try clear hk)
                  (try clear hi)
                  refine hK.out _ _ ⟨(blk_cell BK169.out 0).trans rfl, (blk_cell BK169.out 1).trans rfl, (blk_cell BK169.out 2).trans rfl, (blk_cell BK169.out 3).trans rfl, (blk_cell BK169.out 4).trans rfl, (blk_cell BK169.out 5).trans rfl, (blk_cell BK169.out 6).trans rfl, (blk_cell BK169.out 7).trans rfl, (blk_cell BK169.out 8).trans rfl, (blk_cell BK169.out 9).trans rfl, (blk_cell BK169.out 10).trans rfl⟩ (fun hHeld => ?_)
                  clear hK K
                  refine norm_ (a' := ?_) ?_ ?_
                  rotate_left
                  · show Act.put _ (some 33) _ = _
                    simp only [Act.put, List.setIfInBounds_toArray, List.set_cons_zero, List.set_cons_succ, i64_w, i32_w]
                    rfl
                  refine pure_ (i := 8) (N := some 34) (v := ?_) (a' := ?_) #[true, true, true, true, true, true, true, true, true, true, false, true, true, false, true, true, false, false] rfl rfl (any_of HT_.out (by kernel_rfl)) (fun _ _ _ h => h) (Or.inl ⟨by rfl, ?_⟩) ?_ ?_
                  rotate_left
                  · intro w'
                    go_simp
                    with_reducible rfl
                  rotate_left
                  · simp only [Act.put, List.setIfInBounds_toArray, List.set_cons_zero, List.set_cons_succ, i64_w, i32_w]
                    rfl
                  refine pure_ (i := 10) (N := some 36) (v := ?_) (a' := ?_) #[true, true, true, true, true, true, true, true, true, true, true, true, true, false, true, true, false, false] rfl rfl (any_of HT_.out (by kernel_rfl)) (fun _ _ _ h => h) (Or.inl ⟨by rfl, ?_⟩) ?_ ?_
                  rotate_left
                  · intro w'
                    go_simp
                    with_reducible rfl
                  rotate_left
                  · simp only [Act.put, List.setIfInBounds_toArray, List.set_cons_zero, List.set_cons_succ, i64_w, i32_w]
                    rfl
                  refine pure_ (i := 13) (N := some 39) (v := ?_) (a' := ?_) #[true, true, true, true, true, true, true, true, true, true, true, true, true, true, true, true, false, false] rfl rfl (any_of HT_.out (by kernel_rfl)) (fun _ _ _ h => h) (Or.inl ⟨by rfl, ?_⟩) ?_ ?_
                  rotate_left
                  · intro w'
                    go_simp
                    with_reducible rfl
                  rotate_left
                  · simp only [Act.put, List.setIfInBounds_toArray, List.set_cons_zero, List.set_cons_succ, i64_w, i32_w]
                    rfl
                  refine pure_ (i := 16) (N := some 42) (v := ?_) (a' := ?_) #[true, true, true, true, true, true, true, true, true, true, true, true, true, true, true, true, true, false] rfl rfl (any_of HT_.out (by kernel_rfl)) (fun _ _ _ h => h) (Or.inl ⟨by rfl, ?_⟩) ?_ ?_
                  rotate_left
                  · intro w'
                    go_simp
                    with_reducible rfl
                  rotate_left
                  · simp only [Act.put, List.setIfInBounds_toArray, List.set_cons_zero, List.set_cons_succ, i64_w, i32_w]
                    rfl
                  refine pure_ (i := 17) (N := some 2) (v := ?_) (a' := ?_) #[true, true, true, true, true, true, true, true, true, true, true, true, true, true, true, true, true, true] rfl rfl (any_of HT_.out (by kernel_rfl)) (fun _ _ _ h => h) (Or.inl ⟨by rfl, ?_⟩) ?_ ?_
                  rotate_left
                  · intro w'
                    go_simp
                    with_reducible rfl
                  rotate_left
                  · simp only [Act.put, List.setIfInBounds_toArray, List.set_cons_zero, List.set_cons_succ, i64_w, i32_w]
                    rfl
                  refine done_ (done_of HT_.out (by kernel_rfl)) ?_
                  try go_wp2
                  go_ret
                  exact ⟨by first | rfl | (simp [errW_none, errW_some] <;> rfl) | (simp [*, errW_none, errW_some] <;> rfl), by repeat (first | (with_reducible first | exact HB.out | apply below_alloc | apply pw_below_drewN | apply below_drew1 | refine below_set ?_ GE169.out) | exact HB.out)⟩
                · rw [if_neg c15] at H
                  exact absurd H (by simp)
              · rw [if_neg c14] at H
                exact absurd H (by simp)
            · rw [if_neg c13] at H
              exact absurd H (by simp)
          · rw [if_neg c12] at H
            exact absurd H (by simp)
        · rw [if_neg c10] at H
          exact absurd H (by simp)
      · rw [if_neg c8] at H
        have c8b0 : (a0_0 == 1) = false := beq_eq_false_iff_ne.mpr c8
        have c8b1 : (a0_0 != 1) = true := bne_iff_ne.mpr c8
        by_cases c27 : a0_0 = 2
        · rw [if_pos c27] at H
          have c27b0 : (a0_0 == 2) = true := beq_iff_eq.mpr c27
          have c27b1 : (a0_0 != 2) = false := bne_eq_false_iff_eq.mpr c27
          clear c27
          replace H := Option.bind_eq_some_iff.mp H
          obtain ⟨t176, A280, H⟩ := H
          replace H : (if t170.size + t176.size ≤ 9223372036854775807 then ((careenref04_four.f a0_4).bind fun t177 => (if (t170 ++ t176).size + t177.size ≤ 9223372036854775807 then ((careenref04_four.f a0_5).bind fun t178 => (if ((t170 ++ t176) ++ t177).size + t178.size ≤ 9223372036854775807 then (if (((t170 ++ t176) ++ t177) ++ t178).size + ((t171 ++ t172) ++ t173).size ≤ 9223372036854775807 then (if ((((t170 ++ t176) ++ t177) ++ t178) ++ ((t171 ++ t172) ++ t173)).size + a0_8.size ≤ 9223372036854775807 then (some (((((t170 ++ t176) ++ t177) ++ t178) ++ ((t171 ++ t172) ++ t173)) ++ a0_8)) else (none)) else (none)) else (none))) else (none))) else (none)) = some r := H
          have A28 := Aside0.mk A280
          clear A280
          by_cases c29 : t170.size + t176.size ≤ 9223372036854775807
          · rw [if_pos c29] at H
            have c29b0 := eq_true c29
            have c29b1 : decide (t170.size + t176.size ≤ 9223372036854775807) = true := decide_eq_true c29
            try have c29b2 : (9223372036854775807 < t170.size + t176.size) = False := eq_false (Nat.not_lt.2 c29)
            replace H := Option.bind_eq_some_iff.mp H
            obtain ⟨t177, A300, H⟩ := H
            replace H : (if (t170 ++ t176).size + t177.size ≤ 9223372036854775807 then ((careenref04_four.f a0_5).bind fun t178 => (if ((t170 ++ t176) ++ t177).size + t178.size ≤ 9223372036854775807 then (if (((t170 ++ t176) ++ t177) ++ t178).size + ((t171 ++ t172) ++ t173).size ≤ 9223372036854775807 then (if ((((t170 ++ t176) ++ t177) ++ t178) ++ ((t171 ++ t172) ++ t173)).size + a0_8.size ≤ 9223372036854775807 then (some (((((t170 ++ t176) ++ t177) ++ t178) ++ ((t171 ++ t172) ++ t173)) ++ a0_8)) else (none)) else (none)) else (none))) else (none)) = some r := H
            have A30 := Aside0.mk A300
            clear A300
            by_cases c31 : (t170 ++ t176).size + t177.size ≤ 9223372036854775807
            · rw [if_pos c31] at H
              have c31b0 := eq_true c31
              have c31b1 : decide ((t170 ++ t176).size + t177.size ≤ 9223372036854775807) = true := decide_eq_true c31
              try have c31b2 : (9223372036854775807 < (t170 ++ t176).size + t177.size) = False := eq_false (Nat.not_lt.2 c31)
              try have c31b3 := c31b2
              try simp only [ByteArray.size_append] at c31b3
              replace H := Option.bind_eq_some_iff.mp H
              obtain ⟨t178, A320, H⟩ := H
              replace H : (if ((t170 ++ t176) ++ t177).size + t178.size ≤ 9223372036854775807 then (if (((t170 ++ t176) ++ t177) ++ t178).size + ((t171 ++ t172) ++ t173).size ≤ 9223372036854775807 then (if ((((t170 ++ t176) ++ t177) ++ t178) ++ ((t171 ++ t172) ++ t173)).size + a0_8.size ≤ 9223372036854775807 then (some (((((t170 ++ t176) ++ t177) ++ t178) ++ ((t171 ++ t172) ++ t173)) ++ a0_8)) else (none)) else (none)) else (none)) = some r := H
              have A32 := Aside0.mk A320
              clear A320
              by_cases c33 : ((t170 ++ t176) ++ t177).size + t178.size ≤ 9223372036854775807
              · rw [if_pos c33] at H
                have c33b0 := eq_true c33
                have c33b1 : decide (((t170 ++ t176) ++ t177).size + t178.size ≤ 9223372036854775807) = true := decide_eq_true c33
                try have c33b2 : (9223372036854775807 < ((t170 ++ t176) ++ t177).size + t178.size) = False := eq_false (Nat.not_lt.2 c33)
                try have c33b3 := c33b2
                try simp only [ByteArray.size_append] at c33b3
                by_cases c34 : (((t170 ++ t176) ++ t177) ++ t178).size + ((t171 ++ t172) ++ t173).size ≤ 9223372036854775807
                · rw [if_pos c34] at H
                  have c34b0 := eq_true c34
                  have c34b1 : decide ((((t170 ++ t176) ++ t177) ++ t178).size + ((t171 ++ t172) ++ t173).size ≤ 9223372036854775807) = true := decide_eq_true c34
                  try have c34b2 : (9223372036854775807 < (((t170 ++ t176) ++ t177) ++ t178).size + ((t171 ++ t172) ++ t173).size) = False := eq_false (Nat.not_lt.2 c34)
                  try have c34b3 := c34b2
                  try simp only [ByteArray.size_append] at c34b3
                  by_cases c35 : ((((t170 ++ t176) ++ t177) ++ t178) ++ ((t171 ++ t172) ++ t173)).size + a0_8.size ≤ 9223372036854775807
                  · rw [if_pos c35] at H
                    have c35b0 := eq_true c35
                    have c35b1 : decide (((((t170 ++ t176) ++ t177) ++ t178) ++ ((t171 ++ t172) ++ t173)).size + a0_8.size ≤ 9223372036854775807) = true := decide_eq_true c35
                    try have c35b2 : (9223372036854775807 < ((((t170 ++ t176) ++ t177) ++ t178) ++ ((t171 ++ t172) ++ t173)).size + a0_8.size) = False := eq_false (Nat.not_lt.2 c35)
                    try have c35b3 := c35b2
                    try simp only [ByteArray.size_append] at c35b3
                    obtain rfl := Option.some.inj H
                    go_enter Try.func15, Try.ntmps15
                    try go_wp2_with (first | ((with_reducible refine gate_dst (N := 1) rfl ?_); refine box_event ?hg (N := 1) ?hd (cs := #[.int .i64 a0_0, .int .i64 a0_1, .int .i64 a0_2, .int .i64 a0_3, .int .i64 a0_4, .int .i64 a0_5, .int .i64 a0_6, .string a0_7, .string a0_8, .slice A0_9 l0_9.length c0_9, .slice A0_10 l0_10.length c0_10]) (t := 25) ?hr ?_; (case hd => rfl); (case hg => rfl); (case hr => first | (go_simp; done) | (go_simp; rfl)); intro gb169 hg w36 hbox hb; have n0_ := Aside0.mk (below_step (by repeat (first | (with_reducible first | exact HB.out | apply below_alloc | apply pw_below_drewN | apply below_drew1) | exact HB.out)) hb); have n1_ := Aside0.mk (hbox); have n2_ := Aside0.mk ((by rw [hg]; exact (below_size (by repeat (first | (with_reducible first | exact HB.out | apply below_alloc | apply pw_below_drewN | apply below_drew1) | exact HB.out))) : w.heap.size ≤ gb169)); have n3_ := Aside0.mk ((by rw [hg]; exact (below_size (by repeat (first | (with_reducible first | exact HB.out | apply below_alloc | apply pw_below_drewN | apply below_drew1) | exact HB.out))) : w.heap.size ≤ gb169)); clear HB; have HB := n0_; have BK169 := n1_; have GW169 := n2_; have GE169 := n3_; clear n0_ n1_ n2_ n3_; clear hb hbox hg; have hcz37_0 : w36.cell? ⟨gb169, 0, none⟩ = some (.int .i64 a0_0) := (blk_cell BK169.out 0).trans rfl; have hcz37_1 : w36.cell? ⟨gb169, 1, none⟩ = some (.int .i64 a0_1) := (blk_cell BK169.out 1).trans rfl; have hcz37_2 : w36.cell? ⟨gb169, 2, none⟩ = some (.int .i64 a0_2) := (blk_cell BK169.out 2).trans rfl; have hcz37_3 : w36.cell? ⟨gb169, 3, none⟩ = some (.int .i64 a0_3) := (blk_cell BK169.out 3).trans rfl; have hcz37_4 : w36.cell? ⟨gb169, 4, none⟩ = some (.int .i64 a0_4) := (blk_cell BK169.out 4).trans rfl; have hcz37_5 : w36.cell? ⟨gb169, 5, none⟩ = some (.int .i64 a0_5) := (blk_cell BK169.out 5).trans rfl; have hcz37_6 : w36.cell? ⟨gb169, 6, none⟩ = some (.int .i64 a0_6) := (blk_cell BK169.out 6).trans rfl; have hcz37_7 : w36.cell? ⟨gb169, 7, none⟩ = some (.string a0_7) := (blk_cell BK169.out 7).trans rfl; have hcz37_8 : w36.cell? ⟨gb169, 8, none⟩ = some (.string a0_8) := (blk_cell BK169.out 8).trans rfl; have hcz37_9 : w36.cell? ⟨gb169, 9, none⟩ = some (.slice A0_9 l0_9.length c0_9) := (blk_cell BK169.out 9).trans rfl; have hcz37_10 : w36.cell? ⟨gb169, 10, none⟩ = some (.slice A0_10 l0_10.length c0_10) := (blk_cell BK169.out 10).trans rfl; have hfz37_0 := blk_frozen BK169.out 0; have hfz37_1 := blk_frozen BK169.out 1; have hfz37_2 := blk_frozen BK169.out 2; have hfz37_3 := blk_frozen BK169.out 3; have hfz37_4 := blk_frozen BK169.out 4; have hfz37_5 := blk_frozen BK169.out 5; have hfz37_6 := blk_frozen BK169.out 6; have hfz37_7 := blk_frozen BK169.out 7; have hfz37_8 := blk_frozen BK169.out 8; have hfz37_9 := blk_frozen BK169.out 9; have hfz37_10 := blk_frozen BK169.out 10) | ((with_reducible refine gate_callee (f := 29) rfl ?_); refine goesL_ (some 9) rfl rfl Try.func29 (by kernel_rfl) rfl #[.int .i64 a0_0] rfl (by (try simp only [List.map_toArray, List.map_cons, List.map_nil]); first | done | rfl | (simp only [List.length_drop, List.length_take]; rfl)) ?_; (with_reducible refine (careenref04_small.calls a0_0 t170 _ A2.out).mono ?_); rintro e w38 ⟨rfl, hb⟩; refine ⟨_, rfl, ?_⟩; have n0_ := Aside0.mk (blk_below (g := gb169) (o := .cells #[.int .i64 a0_0, .int .i64 a0_1, .int .i64 a0_2, .int .i64 a0_3, .int .i64 a0_4, .int .i64 a0_5, .int .i64 a0_6, .string a0_7, .string a0_8, .slice A0_9 l0_9.length c0_9, .slice A0_10 l0_10.length c0_10] 25 (0, 0)) (by (with_reducible repeat (first | refine blk_drewN ?_ _ | refine blk_drew ?_ | refine blk_alloc ?_ _)); exact BK169.out) hb); have n1_ := Aside0.mk (below_step (by repeat (first | (with_reducible first | exact HB.out | apply below_alloc | apply pw_below_drewN | apply below_drew1 | refine below_set ?_ GE169.out) | exact HB.out)) hb); clear BK169; clear HB; have BK169 := n0_; have HB := n1_; clear n0_ n1_; (try clear hb); (try clear hb2); (try clear hk); (try clear hi)))
                    have n0_ := Aside0.mk (blk_drew BK169.out)
                    have n1_ := Aside0.mk (below_drew1 HB.out)
                    clear BK169
                    clear HB
                    have BK169 := n0_
                    have HB := n1_
                    clear n0_ n1_
                    refine start_ (n := 13) (S := fun w' => w'.cell? ⟨gb169, 0, none⟩ = some (.int .i64 a0_0) ∧ w'.cell? ⟨gb169, 1, none⟩ = some (.int .i64 a0_1) ∧ w'.cell? ⟨gb169, 2, none⟩ = some (.int .i64 a0_2) ∧ w'.cell? ⟨gb169, 3, none⟩ = some (.int .i64 a0_3) ∧ w'.cell? ⟨gb169, 4, none⟩ = some (.int .i64 a0_4) ∧ w'.cell? ⟨gb169, 5, none⟩ = some (.int .i64 a0_5) ∧ w'.cell? ⟨gb169, 6, none⟩ = some (.int .i64 a0_6) ∧ w'.cell? ⟨gb169, 7, none⟩ = some (.string a0_7) ∧ w'.cell? ⟨gb169, 8, none⟩ = some (.string a0_8) ∧ w'.cell? ⟨gb169, 9, none⟩ = some (.slice A0_9 l0_9.length c0_9) ∧ w'.cell? ⟨gb169, 10, none⟩ = some (.slice A0_10 l0_10.length c0_10)) (ds := []) #[false, false, false, false, false, false, false, false, false, false, false, false, false] (by kernel_rfl) rfl rfl ⟨(blk_cell BK169.out 0).trans rfl, (blk_cell BK169.out 1).trans rfl, (blk_cell BK169.out 2).trans rfl, (blk_cell BK169.out 3).trans rfl, (blk_cell BK169.out 4).trans rfl, (blk_cell BK169.out 5).trans rfl, (blk_cell BK169.out 6).trans rfl, (blk_cell BK169.out 7).trans rfl, (blk_cell BK169.out 8).trans rfl, (blk_cell BK169.out 9).trans rfl, (blk_cell BK169.out 10).trans rfl⟩ (fun hHeld => ?_); refine with_tabW careenref04_Print.tab2 careenref04_Print.bits2 (fun HT_ HW_ => ?_)
                    generalize w38.drew = w39 at BK169 HB hHeld ⊢
                    refine pure_ (i := 0) (N := some 10) (v := ?_) (a' := ?_) #[true, false, false, false, false, false, false, false, false, false, false, false, false] rfl rfl (any_of HT_.out (by kernel_rfl)) (fun _ _ _ h => h) (Or.inl ⟨by rfl, ?_⟩) ?_ ?_
                    rotate_left
                    · intro w'
                      go_simp
                      with_reducible rfl
                    rotate_left
                    · simp only [Act.put, List.setIfInBounds_toArray, List.set_cons_zero, List.set_cons_succ, i64_w, i32_w]
                      rfl
                    refine pure_ (i := 3) (N := some 13) (v := ?_) (a' := ?_) #[true, false, false, true, false, false, false, false, false, false, false, false, false] rfl rfl (any_of HT_.out (by kernel_rfl)) (fun _ _ _ h => h) (Or.inl ⟨by rfl, ?_⟩) ?_ ?_
                    rotate_left
                    · intro w'
                      go_simp
                      with_reducible rfl
                    rotate_left
                    · simp only [Act.put, List.setIfInBounds_toArray, List.set_cons_zero, List.set_cons_succ, i64_w, i32_w]
                      rfl
                    refine pure_ (i := 7) (N := some 17) (v := ?_) (a' := ?_) #[true, false, false, true, false, false, false, true, false, false, false, false, false] rfl rfl (any_of HT_.out (by kernel_rfl)) (fun _ _ _ h => h) (Or.inl ⟨by rfl, ?_⟩) ?_ ?_
                    rotate_left
                    · intro w'
                      go_simp
                      with_reducible rfl
                    rotate_left
                    · simp only [Act.put, List.setIfInBounds_toArray, List.set_cons_zero, List.set_cons_succ, i64_w, i32_w]
                      rfl
                    refine take_ (i := 1) (N := some 11) (v := ?_) (a' := ?_) #[true, true, false, true, false, false, false, true, false, false, false, false, false] rfl rfl (take_ofW HT_.out HW_.out (by kernel_rfl)) (fun _ _ _ h => h) (Or.inl ⟨by rfl, ?_⟩) hHeld ?_ ?_
                    rotate_left
                    · rintro w' ⟨s0, s1, s2, s3, s4, s5, s6, s7, s8, s9, s10⟩
                      go_simp
                      with_reducible rfl
                    rotate_left
                    · simp only [Act.put, List.setIfInBounds_toArray, List.set_cons_zero, List.set_cons_succ, i64_w, i32_w]
                      rfl
                    refine take_ (i := 4) (N := some 14) (v := ?_) (a' := ?_) #[true, true, false, true, true, false, false, true, false, false, false, false, false] rfl rfl (take_ofW HT_.out HW_.out (by kernel_rfl)) (fun _ _ _ h => h) (Or.inl ⟨by rfl, ?_⟩) hHeld ?_ ?_
                    rotate_left
                    · rintro w' ⟨s0, s1, s2, s3, s4, s5, s6, s7, s8, s9, s10⟩
                      go_simp
                      with_reducible rfl
                    rotate_left
                    · simp only [Act.put, List.setIfInBounds_toArray, List.set_cons_zero, List.set_cons_succ, i64_w, i32_w]
                      rfl
                    refine take_ (i := 8) (N := some 18) (v := ?_) (a' := ?_) #[true, true, false, true, true, false, false, true, true, false, false, false, false] rfl rfl (take_ofW HT_.out HW_.out (by kernel_rfl)) (fun _ _ _ h => h) (Or.inl ⟨by rfl, ?_⟩) hHeld ?_ ?_
                    rotate_left
                    · rintro w' ⟨s0, s1, s2, s3, s4, s5, s6, s7, s8, s9, s10⟩
                      go_simp
                      with_reducible rfl
                    rotate_left
                    · simp only [Act.put, List.setIfInBounds_toArray, List.set_cons_zero, List.set_cons_succ, i64_w, i32_w]
                      rfl
                    refine pure_ (i := 9) (N := some 19) (v := ?_) (a' := ?_) #[true, true, false, true, true, false, false, true, true, true, false, false, false] rfl rfl (any_of HT_.out (by kernel_rfl)) (fun _ _ _ h => h) (Or.inl ⟨by rfl, ?_⟩) ?_ ?_
                    rotate_left
                    · intro w'
                      go_simp
                      with_reducible rfl
                    rotate_left
                    · simp only [Act.put, List.setIfInBounds_toArray, List.set_cons_zero, List.set_cons_succ, i64_w, i32_w]
                      rfl
                    refine one_ (i := 2) (N := some 12) #[true, true, true, true, true, false, false, true, true, true, false, false, false] rfl rfl (one_of HT_.out (by kernel_rfl)) (by decide) (fun K hK => ?_)
                    refine goes_ Try.func29 (by kernel_rfl) rfl #[.int .i64 a0_2] (by rfl) rfl rfl (by (try simp only [List.map_toArray, List.map_cons, List.map_nil]); first | done | rfl | (simp only [List.length_drop, List.length_take]; rfl)) ?_
                    with_reducible refine (careenref04_small.calls a0_2 t171 _ A3.out).mono ?_
                    rintro e w40 ⟨rfl, hb⟩
                    refine ⟨_, rfl, ?_⟩
                    have n0_ := Aside0.mk (blk_below (g := gb169) (o := .cells #[.int .i64 a0_0, .int .i64 a0_1, .int .i64 a0_2, .int .i64 a0_3, .int .i64 a0_4, .int .i64 a0_5, .int .i64 a0_6, .string a0_7, .string a0_8, .slice A0_9 l0_9.length c0_9, .slice A0_10 l0_10.length c0_10] 25 (0, 0)) (by (with_reducible repeat (first | refine blk_drewN ?_ _ | refine blk_drew ?_ | refine blk_alloc ?_ _)); exact BK169.out) hb)
                    have n1_ := Aside0.mk (below_step (by repeat (first | (with_reducible first | exact HB.out | apply below_alloc | apply pw_below_drewN | apply below_drew1 | refine below_set ?_ GE169.out) | exact HB.out)) hb)
                    clear BK169
                    clear HB
                    have BK169 := n0_
                    have HB := n1_
                    clear n0_ n1_
                    (try clear hb)
                    (try clear hb2)
                    (try clear hk)
                    (try clear hi)
                    refine hK.out _ _ ⟨(blk_cell BK169.out 0).trans rfl, (blk_cell BK169.out 1).trans rfl, (blk_cell BK169.out 2).trans rfl, (blk_cell BK169.out 3).trans rfl, (blk_cell BK169.out 4).trans rfl, (blk_cell BK169.out 5).trans rfl, (blk_cell BK169.out 6).trans rfl, (blk_cell BK169.out 7).trans rfl, (blk_cell BK169.out 8).trans rfl, (blk_cell BK169.out 9).trans rfl, (blk_cell BK169.out 10).trans rfl⟩ (fun hHeld => ?_)
                    clear hK K
                    refine norm_ (a' := ?_) ?_ ?_
                    rotate_left
                    · show Act.put _ (some 12) _ = _
                      simp only [Act.put, List.setIfInBounds_toArray, List.set_cons_zero, List.set_cons_succ, i64_w, i32_w]
                      rfl
                    refine one_ (i := 5) (N := some 15) #[true, true, true, true, true, true, false, true, true, true, false, false, false] rfl rfl (one_of HT_.out (by kernel_rfl)) (by decide) (fun K hK => ?_)
                    refine goes_ Try.func29 (by kernel_rfl) rfl #[.int .i64 a0_3] (by rfl) rfl rfl (by (try simp only [List.map_toArray, List.map_cons, List.map_nil]); first | done | rfl | (simp only [List.length_drop, List.length_take]; rfl)) ?_
                    with_reducible refine (careenref04_small.calls a0_3 t172 _ A4.out).mono ?_
                    rintro e w41 ⟨rfl, hb⟩
                    refine ⟨_, rfl, ?_⟩
                    have n0_ := Aside0.mk (blk_below (g := gb169) (o := .cells #[.int .i64 a0_0, .int .i64 a0_1, .int .i64 a0_2, .int .i64 a0_3, .int .i64 a0_4, .int .i64 a0_5, .int .i64 a0_6, .string a0_7, .string a0_8, .slice A0_9 l0_9.length c0_9, .slice A0_10 l0_10.length c0_10] 25 (0, 0)) (by (with_reducible repeat (first | refine blk_drewN ?_ _ | refine blk_drew ?_ | refine blk_alloc ?_ _)); exact BK169.out) hb)
                    have n1_ := Aside0.mk (below_step (by repeat (first | (with_reducible first | exact HB.out | apply below_alloc | apply pw_below_drewN | apply below_drew1 | refine below_set ?_ GE169.out) | exact HB.out)) hb)
                    clear BK169
                    clear HB
                    have BK169 := n0_
                    have HB := n1_
                    clear n0_ n1_
                    (try clear hb)
                    (try clear hb2)
                    (try clear hk)
                    (try clear hi)
                    refine hK.out _ _ ⟨(blk_cell BK169.out 0).trans rfl, (blk_cell BK169.out 1).trans rfl, (blk_cell BK169.out 2).trans rfl, (blk_cell BK169.out 3).trans rfl, (blk_cell BK169.out 4).trans rfl, (blk_cell BK169.out 5).trans rfl, (blk_cell BK169.out 6).trans rfl, (blk_cell BK169.out 7).trans rfl, (blk_cell BK169.out 8).trans rfl, (blk_cell BK169.out 9).trans rfl, (blk_cell BK169.out 10).trans rfl⟩ (fun hHeld => ?_)
                    clear hK K
                    refine norm_ (a' := ?_) ?_ ?_
                    rotate_left
                    · show Act.put _ (some 15) _ = _
                      simp only [Act.put, List.setIfInBounds_toArray, List.set_cons_zero, List.set_cons_succ, i64_w, i32_w]
                      rfl
                    refine pure_ (i := 6) (N := some 16) (v := ?_) (a' := ?_) #[true, true, true, true, true, true, true, true, true, true, false, false, false] rfl rfl (any_of HT_.out (by kernel_rfl)) (fun _ _ _ h => h) (Or.inl ⟨by rfl, ?_⟩) ?_ ?_
                    rotate_left
                    · intro w'
                      go_simp
                      with_reducible rfl
                    rotate_left
                    · simp only [Act.put, List.setIfInBounds_toArray, List.set_cons_zero, List.set_cons_succ, i64_w, i32_w]
                      rfl
                    refine one_ (i := 10) (N := some 20) #[true, true, true, true, true, true, true, true, true, true, true, false, false] rfl rfl (one_of HT_.out (by kernel_rfl)) (by decide) (fun K hK => ?_)
                    refine goes_ Try.func29 (by kernel_rfl) rfl #[.int .i64 (a0_8.size : Int)] (by rfl) rfl rfl (by (try simp only [List.map_toArray, List.map_cons, List.map_nil]); first | done | rfl | (simp only [List.length_drop, List.length_take]; rfl)) ?_
                    with_reducible refine (careenref04_small.calls (a0_8.size : Int) t173 _ A6.out).mono ?_
                    rintro e w42 ⟨rfl, hb⟩
                    refine ⟨_, rfl, ?_⟩
                    have n0_ := Aside0.mk (blk_below (g := gb169) (o := .cells #[.int .i64 a0_0, .int .i64 a0_1, .int .i64 a0_2, .int .i64 a0_3, .int .i64 a0_4, .int .i64 a0_5, .int .i64 a0_6, .string a0_7, .string a0_8, .slice A0_9 l0_9.length c0_9, .slice A0_10 l0_10.length c0_10] 25 (0, 0)) (by (with_reducible repeat (first | refine blk_drewN ?_ _ | refine blk_drew ?_ | refine blk_alloc ?_ _)); exact BK169.out) hb)
                    have n1_ := Aside0.mk (below_step (by repeat (first | (with_reducible first | exact HB.out | apply below_alloc | apply pw_below_drewN | apply below_drew1 | refine below_set ?_ GE169.out) | exact HB.out)) hb)
                    clear BK169
                    clear HB
                    have BK169 := n0_
                    have HB := n1_
                    clear n0_ n1_
                    (try clear hb)
                    (try clear hb2)
                    (try clear hk)
                    (try clear hi)
                    refine hK.out _ _ ⟨(blk_cell BK169.out 0).trans rfl, (blk_cell BK169.out 1).trans rfl, (blk_cell BK169.out 2).trans rfl, (blk_cell BK169.out 3).trans rfl, (blk_cell BK169.out 4).trans rfl, (blk_cell BK169.out 5).trans rfl, (blk_cell BK169.out 6).trans rfl, (blk_cell BK169.out 7).trans rfl, (blk_cell BK169.out 8).trans rfl, (blk_cell BK169.out 9).trans rfl, (blk_cell BK169.out 10).trans rfl⟩ (fun hHeld => ?_)
                    clear hK K
                    refine norm_ (a' := ?_) ?_ ?_
                    rotate_left
                    · show Act.put _ (some 20) _ = _
                      simp only [Act.put, List.setIfInBounds_toArray, List.set_cons_zero, List.set_cons_succ, i64_w, i32_w]
                      rfl
                    refine pure_ (i := 11) (N := some 21) (v := ?_) (a' := ?_) #[true, true, true, true, true, true, true, true, true, true, true, true, false] rfl rfl (any_of HT_.out (by kernel_rfl)) (fun _ _ _ h => h) (Or.inl ⟨by rfl, ?_⟩) ?_ ?_
                    rotate_left
                    · intro w'
                      go_simp
                      with_reducible rfl
                    rotate_left
                    · simp only [Act.put, List.setIfInBounds_toArray, List.set_cons_zero, List.set_cons_succ, i64_w, i32_w]
                      rfl
                    refine pure_ (i := 12) (N := some 4) (v := ?_) (a' := ?_) #[true, true, true, true, true, true, true, true, true, true, true, true, true] rfl rfl (any_of HT_.out (by kernel_rfl)) (fun _ _ _ h => h) (Or.inl ⟨by rfl, ?_⟩) ?_ ?_
                    rotate_left
                    · intro w'
                      go_simp
                      with_reducible rfl
                    rotate_left
                    · simp only [Act.put, List.setIfInBounds_toArray, List.set_cons_zero, List.set_cons_succ, i64_w, i32_w]
                      rfl
                    refine done_ (done_of HT_.out (by kernel_rfl)) ?_
                    have hcz43_0 : w42.cell? ⟨gb169, 0, none⟩ = some (.int .i64 a0_0) := (blk_cell BK169.out 0).trans rfl
                    have hcz43_1 : w42.cell? ⟨gb169, 1, none⟩ = some (.int .i64 a0_1) := (blk_cell BK169.out 1).trans rfl
                    have hcz43_2 : w42.cell? ⟨gb169, 2, none⟩ = some (.int .i64 a0_2) := (blk_cell BK169.out 2).trans rfl
                    have hcz43_3 : w42.cell? ⟨gb169, 3, none⟩ = some (.int .i64 a0_3) := (blk_cell BK169.out 3).trans rfl
                    have hcz43_4 : w42.cell? ⟨gb169, 4, none⟩ = some (.int .i64 a0_4) := (blk_cell BK169.out 4).trans rfl
                    have hcz43_5 : w42.cell? ⟨gb169, 5, none⟩ = some (.int .i64 a0_5) := (blk_cell BK169.out 5).trans rfl
                    have hcz43_6 : w42.cell? ⟨gb169, 6, none⟩ = some (.int .i64 a0_6) := (blk_cell BK169.out 6).trans rfl
                    have hcz43_7 : w42.cell? ⟨gb169, 7, none⟩ = some (.string a0_7) := (blk_cell BK169.out 7).trans rfl
                    have hcz43_8 : w42.cell? ⟨gb169, 8, none⟩ = some (.string a0_8) := (blk_cell BK169.out 8).trans rfl
                    have hcz43_9 : w42.cell? ⟨gb169, 9, none⟩ = some (.slice A0_9 l0_9.length c0_9) := (blk_cell BK169.out 9).trans rfl
                    have hcz43_10 : w42.cell? ⟨gb169, 10, none⟩ = some (.slice A0_10 l0_10.length c0_10) := (blk_cell BK169.out 10).trans rfl
                    have hfz43_0 := blk_frozen BK169.out 0
                    have hfz43_1 := blk_frozen BK169.out 1
                    have hfz43_2 := blk_frozen BK169.out 2
                    have hfz43_3 := blk_frozen BK169.out 3
                    have hfz43_4 := blk_frozen BK169.out 4
                    have hfz43_5 := blk_frozen BK169.out 5
                    have hfz43_6 := blk_frozen BK169.out 6
                    have hfz43_7 := blk_frozen BK169.out 7
                    have hfz43_8 := blk_frozen BK169.out 8
                    have hfz43_9 := blk_frozen BK169.out 9
                    have hfz43_10 := blk_frozen BK169.out 10
                    try go_wp2
                    have n0_ := Aside0.mk (blk_drew BK169.out)
                    have n1_ := Aside0.mk (below_drew1 HB.out)
                    clear BK169
                    clear HB
                    have BK169 := n0_
                    have HB := n1_
                    clear n0_ n1_
                    refine start_ (n := 19) (S := fun w' => w'.cell? ⟨gb169, 0, none⟩ = some (.int .i64 a0_0) ∧ w'.cell? ⟨gb169, 1, none⟩ = some (.int .i64 a0_1) ∧ w'.cell? ⟨gb169, 2, none⟩ = some (.int .i64 a0_2) ∧ w'.cell? ⟨gb169, 3, none⟩ = some (.int .i64 a0_3) ∧ w'.cell? ⟨gb169, 4, none⟩ = some (.int .i64 a0_4) ∧ w'.cell? ⟨gb169, 5, none⟩ = some (.int .i64 a0_5) ∧ w'.cell? ⟨gb169, 6, none⟩ = some (.int .i64 a0_6) ∧ w'.cell? ⟨gb169, 7, none⟩ = some (.string a0_7) ∧ w'.cell? ⟨gb169, 8, none⟩ = some (.string a0_8) ∧ w'.cell? ⟨gb169, 9, none⟩ = some (.slice A0_9 l0_9.length c0_9) ∧ w'.cell? ⟨gb169, 10, none⟩ = some (.slice A0_10 l0_10.length c0_10)) (ds := []) #[false, false, false, false, false, false, false, false, false, false, false, false, false, false, false, false, false, false, false] (by kernel_rfl) rfl rfl ⟨(blk_cell BK169.out 0).trans rfl, (blk_cell BK169.out 1).trans rfl, (blk_cell BK169.out 2).trans rfl, (blk_cell BK169.out 3).trans rfl, (blk_cell BK169.out 4).trans rfl, (blk_cell BK169.out 5).trans rfl, (blk_cell BK169.out 6).trans rfl, (blk_cell BK169.out 7).trans rfl, (blk_cell BK169.out 8).trans rfl, (blk_cell BK169.out 9).trans rfl, (blk_cell BK169.out 10).trans rfl⟩ (fun hHeld => ?_); refine with_tabW careenref04_Print.tab7 careenref04_Print.bits7 (fun HT_ HW_ => ?_)
                    generalize w42.drew = w44 at BK169 HB hHeld ⊢
                    refine pure_ (i := 0) (N := some 45) (v := ?_) (a' := ?_) #[true, false, false, false, false, false, false, false, false, false, false, false, false, false, false, false, false, false, false] rfl rfl (any_of HT_.out (by kernel_rfl)) (fun _ _ _ h => h) (Or.inl ⟨by rfl, ?_⟩) ?_ ?_
                    rotate_left
                    · intro w'
                      go_simp
                      with_reducible rfl
                    rotate_left
                    · simp only [Act.put, List.setIfInBounds_toArray, List.set_cons_zero, List.set_cons_succ, i64_w, i32_w]
                      rfl
                    refine pure_ (i := 1) (N := some 46) (v := ?_) (a' := ?_) #[true, true, false, false, false, false, false, false, false, false, false, false, false, false, false, false, false, false, false] rfl rfl (any_of HT_.out (by kernel_rfl)) (fun _ _ _ h => h) (Or.inl ⟨by rfl, ?_⟩) ?_ ?_
                    rotate_left
                    · intro w'
                      go_simp
                      with_reducible rfl
                    rotate_left
                    · simp only [Act.put, List.setIfInBounds_toArray, List.set_cons_zero, List.set_cons_succ, i64_w, i32_w]
                      rfl
                    refine pure_ (i := 5) (N := some 50) (v := ?_) (a' := ?_) #[true, true, false, false, false, true, false, false, false, false, false, false, false, false, false, false, false, false, false] rfl rfl (any_of HT_.out (by kernel_rfl)) (fun _ _ _ h => h) (Or.inl ⟨by rfl, ?_⟩) ?_ ?_
                    rotate_left
                    · intro w'
                      go_simp
                      with_reducible rfl
                    rotate_left
                    · simp only [Act.put, List.setIfInBounds_toArray, List.set_cons_zero, List.set_cons_succ, i64_w, i32_w]
                      rfl
                    refine pure_ (i := 9) (N := some 54) (v := ?_) (a' := ?_) #[true, true, false, false, false, true, false, false, false, true, false, false, false, false, false, false, false, false, false] rfl rfl (any_of HT_.out (by kernel_rfl)) (fun _ _ _ h => h) (Or.inl ⟨by rfl, ?_⟩) ?_ ?_
                    rotate_left
                    · intro w'
                      go_simp
                      with_reducible rfl
                    rotate_left
                    · simp only [Act.put, List.setIfInBounds_toArray, List.set_cons_zero, List.set_cons_succ, i64_w, i32_w]
                      rfl
                    refine pure_ (i := 13) (N := some 58) (v := ?_) (a' := ?_) #[true, true, false, false, false, true, false, false, false, true, false, false, false, true, false, false, false, false, false] rfl rfl (any_of HT_.out (by kernel_rfl)) (fun _ _ _ h => h) (Or.inl ⟨by rfl, ?_⟩) ?_ ?_
                    rotate_left
                    · intro w'
                      go_simp
                      with_reducible rfl
                    rotate_left
                    · simp only [Act.put, List.setIfInBounds_toArray, List.set_cons_zero, List.set_cons_succ, i64_w, i32_w]
                      rfl
                    refine pure_ (i := 15) (N := some 60) (v := ?_) (a' := ?_) #[true, true, false, false, false, true, false, false, false, true, false, false, false, true, false, true, false, false, false] rfl rfl (any_of HT_.out (by kernel_rfl)) (fun _ _ _ h => h) (Or.inl ⟨by rfl, ?_⟩) ?_ ?_
                    rotate_left
                    · intro w'
                      go_simp
                      with_reducible rfl
                    rotate_left
                    · simp only [Act.put, List.setIfInBounds_toArray, List.set_cons_zero, List.set_cons_succ, i64_w, i32_w]
                      rfl
                    refine take_ (i := 2) (N := some 47) (v := ?_) (a' := ?_) #[true, true, true, false, false, true, false, false, false, true, false, false, false, true, false, true, false, false, false] rfl rfl (take_ofW HT_.out HW_.out (by kernel_rfl)) (fun _ _ _ h => h) (Or.inl ⟨by rfl, ?_⟩) hHeld ?_ ?_
                    rotate_left
                    · rintro w' ⟨s0, s1, s2, s3, s4, s5, s6, s7, s8, s9, s10⟩
                      go_simp
                      with_reducible rfl
                    rotate_left
                    · simp only [Act.put, List.setIfInBounds_toArray, List.set_cons_zero, List.set_cons_succ, i64_w, i32_w]
                      rfl
                    refine take_ (i := 6) (N := some 51) (v := ?_) (a' := ?_) #[true, true, true, false, false, true, true, false, false, true, false, false, false, true, false, true, false, false, false] rfl rfl (take_ofW HT_.out HW_.out (by kernel_rfl)) (fun _ _ _ h => h) (Or.inl ⟨by rfl, ?_⟩) hHeld ?_ ?_
                    rotate_left
                    · rintro w' ⟨s0, s1, s2, s3, s4, s5, s6, s7, s8, s9, s10⟩
                      go_simp
                      with_reducible rfl
                    rotate_left
                    · simp only [Act.put, List.setIfInBounds_toArray, List.set_cons_zero, List.set_cons_succ, i64_w, i32_w]
                      rfl
                    refine take_ (i := 10) (N := some 55) (v := ?_) (a' := ?_) #[true, true, true, false, false, true, true, false, false, true, true, false, false, true, false, true, false, false, false] rfl rfl (take_ofW HT_.out HW_.out (by kernel_rfl)) (fun _ _ _ h => h) (Or.inl ⟨by rfl, ?_⟩) hHeld ?_ ?_
                    rotate_left
                    · rintro w' ⟨s0, s1, s2, s3, s4, s5, s6, s7, s8, s9, s10⟩
                      go_simp
                      with_reducible rfl
                    rotate_left
                    · simp only [Act.put, List.setIfInBounds_toArray, List.set_cons_zero, List.set_cons_succ, i64_w, i32_w]
                      rfl
                    refine take_ (i := 16) (N := some 61) (v := ?_) (a' := ?_) #[true, true, true, false, false, true, true, false, false, true, true, false, false, true, false, true, true, false, false] rfl rfl (take_ofW HT_.out HW_.out (by kernel_rfl)) (fun _ _ _ h => h) (Or.inl ⟨by rfl, ?_⟩) hHeld ?_ ?_
                    rotate_left
                    · rintro w' ⟨s0, s1, s2, s3, s4, s5, s6, s7, s8, s9, s10⟩
                      go_simp
                      with_reducible rfl
                    rotate_left
                    · simp only [Act.put, List.setIfInBounds_toArray, List.set_cons_zero, List.set_cons_succ, i64_w, i32_w]
                      rfl
                    refine one_ (i := 3) (N := some 48) #[true, true, true, true, false, true, true, false, false, true, true, false, false, true, false, true, true, false, false] rfl rfl (one_of HT_.out (by kernel_rfl)) (by decide) (fun K hK => ?_)
                    refine goes_ Try.func30 (by kernel_rfl) rfl #[.int .i64 a0_1] (by rfl) rfl rfl (by (try simp only [List.map_toArray, List.map_cons, List.map_nil]); first | done | rfl | (simp only [List.length_drop, List.length_take]; rfl)) ?_
                    with_reducible refine (careenref04_four.calls a0_1 t176 _ A28.out).mono ?_
                    rintro e w45 ⟨rfl, hb⟩
                    refine ⟨_, rfl, ?_⟩
                    have n0_ := Aside0.mk (blk_below (g := gb169) (o := .cells #[.int .i64 a0_0, .int .i64 a0_1, .int .i64 a0_2, .int .i64 a0_3, .int .i64 a0_4, .int .i64 a0_5, .int .i64 a0_6, .string a0_7, .string a0_8, .slice A0_9 l0_9.length c0_9, .slice A0_10 l0_10.length c0_10] 25 (0, 0)) (by (with_reducible repeat (first | refine blk_drewN ?_ _ | refine blk_drew ?_ | refine blk_alloc ?_ _)); exact BK169.out) hb)
                    have n1_ := Aside0.mk (below_step (by repeat (first | (with_reducible first | exact HB.out | apply below_alloc | apply pw_below_drewN | apply below_drew1 | refine below_set ?_ GE169.out) | exact HB.out)) hb)
                    clear BK169
                    clear HB
                    have BK169 := n0_
                    have HB := n1_
                    clear n0_ n1_
                    (try clear hb)
                    (try clear hb2)
                    (try clear hk)
                    (try clear hi)
                    refine hK.out _ _ ⟨(blk_cell BK169.out 0).trans rfl, (blk_cell BK169.out 1).trans rfl, (blk_cell BK169.out 2).trans rfl, (blk_cell BK169.out 3).trans rfl, (blk_cell BK169.out 4).trans rfl, (blk_cell BK169.out 5).trans rfl, (blk_cell BK169.out 6).trans rfl, (blk_cell BK169.out 7).trans rfl, (blk_cell BK169.out 8).trans rfl, (blk_cell BK169.out 9).trans rfl, (blk_cell BK169.out 10).trans rfl⟩ (fun hHeld => ?_)
                    clear hK K
                    refine norm_ (a' := ?_) ?_ ?_
                    rotate_left
                    · show Act.put _ (some 48) _ = _
                      simp only [Act.put, List.setIfInBounds_toArray, List.set_cons_zero, List.set_cons_succ, i64_w, i32_w]
                      rfl
                    refine pure_ (i := 4) (N := some 49) (v := ?_) (a' := ?_) #[true, true, true, true, true, true, true, false, false, true, true, false, false, true, false, true, true, false, false] rfl rfl (any_of HT_.out (by kernel_rfl)) (fun _ _ _ h => h) (Or.inl ⟨by rfl, ?_⟩) ?_ ?_
                    rotate_left
                    · intro w'
                      go_simp
                      with_reducible rfl
                    rotate_left
                    · simp only [Act.put, List.setIfInBounds_toArray, List.set_cons_zero, List.set_cons_succ, i64_w, i32_w]
                      rfl
                    refine one_ (i := 7) (N := some 52) #[true, true, true, true, true, true, true, true, false, true, true, false, false, true, false, true, true, false, false] rfl rfl (one_of HT_.out (by kernel_rfl)) (by decide) (fun K hK => ?_)
                    refine goes_ Try.func30 (by kernel_rfl) rfl #[.int .i64 a0_4] (by rfl) rfl rfl (by (try simp only [List.map_toArray, List.map_cons, List.map_nil]); first | done | rfl | (simp only [List.length_drop, List.length_take]; rfl)) ?_
                    with_reducible refine (careenref04_four.calls a0_4 t177 _ A30.out).mono ?_
                    rintro e w46 ⟨rfl, hb⟩
                    refine ⟨_, rfl, ?_⟩
                    have n0_ := Aside0.mk (blk_below (g := gb169) (o := .cells #[.int .i64 a0_0, .int .i64 a0_1, .int .i64 a0_2, .int .i64 a0_3, .int .i64 a0_4, .int .i64 a0_5, .int .i64 a0_6, .string a0_7, .string a0_8, .slice A0_9 l0_9.length c0_9, .slice A0_10 l0_10.length c0_10] 25 (0, 0)) (by (with_reducible repeat (first | refine blk_drewN ?_ _ | refine blk_drew ?_ | refine blk_alloc ?_ _)); exact BK169.out) hb)
                    have n1_ := Aside0.mk (below_step (by repeat (first | (with_reducible first | exact HB.out | apply below_alloc | apply pw_below_drewN | apply below_drew1 | refine below_set ?_ GE169.out) | exact HB.out)) hb)
                    clear BK169
                    clear HB
                    have BK169 := n0_
                    have HB := n1_
                    clear n0_ n1_
                    (try clear hb)
                    (try clear hb2)
                    (try clear hk)
                    (try clear hi)
                    refine hK.out _ _ ⟨(blk_cell BK169.out 0).trans rfl, (blk_cell BK169.out 1).trans rfl, (blk_cell BK169.out 2).trans rfl, (blk_cell BK169.out 3).trans rfl, (blk_cell BK169.out 4).trans rfl, (blk_cell BK169.out 5).trans rfl, (blk_cell BK169.out 6).trans rfl, (blk_cell BK169.out 7).trans rfl, (blk_cell BK169.out 8).trans rfl, (blk_cell BK169.out 9).trans rfl, (blk_cell BK169.out 10).trans rfl⟩ (fun hHeld => ?_)
                    clear hK K
                    refine norm_ (a' := ?_) ?_ ?_
                    rotate_left
                    · show Act.put _ (some 52) _ = _
                      simp only [Act.put, List.setIfInBounds_toArray, List.set_cons_zero, List.set_cons_succ, i64_w, i32_w]
                      rfl
                    refine pure_ (i := 8) (N := some 53) (v := ?_) (a' := ?_) #[true, true, true, true, true, true, true, true, true, true, true, false, false, true, false, true, true, false, false] rfl rfl (any_of HT_.out (by kernel_rfl)) (fun _ _ _ h => h) (Or.inl ⟨by rfl, ?_⟩) ?_ ?_
                    rotate_left
                    · intro w'
                      go_simp
                      with_reducible rfl
                    rotate_left
                    · simp only [Act.put, List.setIfInBounds_toArray, List.set_cons_zero, List.set_cons_succ, i64_w, i32_w]
                      rfl
                    refine one_ (i := 11) (N := some 56) #[true, true, true, true, true, true, true, true, true, true, true, true, false, true, false, true, true, false, false] rfl rfl (one_of HT_.out (by kernel_rfl)) (by decide) (fun K hK => ?_)
                    refine goes_ Try.func30 (by kernel_rfl) rfl #[.int .i64 a0_5] (by rfl) rfl rfl (by (try simp only [List.map_toArray, List.map_cons, List.map_nil]); first | done | rfl | (simp only [List.length_drop, List.length_take]; rfl)) ?_
                    with_reducible refine (careenref04_four.calls a0_5 t178 _ A32.out).mono ?_
                    rintro e w47 ⟨rfl, hb⟩
                    refine ⟨_, rfl, ?_⟩
                    have n0_ := Aside0.mk (blk_below (g := gb169) (o := .cells #[.int .i64 a0_0, .int .i64 a0_1, .int .i64 a0_2, .int .i64 a0_3, .int .i64 a0_4, .int .i64 a0_5, .int .i64 a0_6, .string a0_7, .string a0_8, .slice A0_9 l0_9.length c0_9, .slice A0_10 l0_10.length c0_10] 25 (0, 0)) (by (with_reducible repeat (first | refine blk_drewN ?_ _ | refine blk_drew ?_ | refine blk_alloc ?_ _)); exact BK169.out) hb)
                    have n1_ := Aside0.mk (below_step (by repeat (first | (with_reducible first | exact HB.out | apply below_alloc | apply pw_below_drewN | apply below_drew1 | refine below_set ?_ GE169.out) | exact HB.out)) hb)
                    clear BK169
                    clear HB
                    have BK169 := n0_
                    have HB := n1_
                    clear n0_ n1_
                    (try clear hb)
                    (try clear hb2)
                    (try clear hk)
                    (try clear hi)
                    refine hK.out _ _ ⟨(blk_cell BK169.out 0).trans rfl, (blk_cell BK169.out 1).trans rfl, (blk_cell BK169.out 2).trans rfl, (blk_cell BK169.out 3).trans rfl, (blk_cell BK169.out 4).trans rfl, (blk_cell BK169.out 5).trans rfl, (blk_cell BK169.out 6).trans rfl, (blk_cell BK169.out 7).trans rfl, (blk_cell BK169.out 8).trans rfl, (blk_cell BK169.out 9).trans rfl, (blk_cell BK169.out 10).trans rfl⟩ (fun hHeld => ?_)
                    clear hK K
                    refine norm_ (a' := ?_) ?_ ?_
                    rotate_left
                    · show Act.put _ (some 56) _ = _
                      simp only [Act.put, List.setIfInBounds_toArray, List.set_cons_zero, List.set_cons_succ, i64_w, i32_w]
                      rfl
                    refine pure_ (i := 12) (N := some 57) (v := ?_) (a' := ?_) #[true, true, true, true, true, true, true, true, true, true, true, true, true, true, false, true, true, false, false] rfl rfl (any_of HT_.out (by kernel_rfl)) (fun _ _ _ h => h) (Or.inl ⟨by rfl, ?_⟩) ?_ ?_
                    rotate_left
                    · intro w'
                      go_simp
                      with_reducible rfl
                    rotate_left
                    · simp only [Act.put, List.setIfInBounds_toArray, List.set_cons_zero, List.set_cons_succ, i64_w, i32_w]
                      rfl
                    refine pure_ (i := 14) (N := some 59) (v := ?_) (a' := ?_) #[true, true, true, true, true, true, true, true, true, true, true, true, true, true, true, true, true, false, false] rfl rfl (any_of HT_.out (by kernel_rfl)) (fun _ _ _ h => h) (Or.inl ⟨by rfl, ?_⟩) ?_ ?_
                    rotate_left
                    · intro w'
                      go_simp
                      with_reducible rfl
                    rotate_left
                    · simp only [Act.put, List.setIfInBounds_toArray, List.set_cons_zero, List.set_cons_succ, i64_w, i32_w]
                      rfl
                    refine pure_ (i := 17) (N := some 62) (v := ?_) (a' := ?_) #[true, true, true, true, true, true, true, true, true, true, true, true, true, true, true, true, true, true, false] rfl rfl (any_of HT_.out (by kernel_rfl)) (fun _ _ _ h => h) (Or.inl ⟨by rfl, ?_⟩) ?_ ?_
                    rotate_left
                    · intro w'
                      go_simp
                      with_reducible rfl
                    rotate_left
                    · simp only [Act.put, List.setIfInBounds_toArray, List.set_cons_zero, List.set_cons_succ, i64_w, i32_w]
                      rfl
                    refine pure_ (i := 18) (N := some 2) (v := ?_) (a' := ?_) #[true, true, true, true, true, true, true, true, true, true, true, true, true, true, true, true, true, true, true] rfl rfl (any_of HT_.out (by kernel_rfl)) (fun _ _ _ h => h) (Or.inl ⟨by rfl, ?_⟩) ?_ ?_
                    rotate_left
                    · intro w'
                      go_simp
                      with_reducible rfl
                    rotate_left
                    · simp only [Act.put, List.setIfInBounds_toArray, List.set_cons_zero, List.set_cons_succ, i64_w, i32_w]
                      rfl
                    refine done_ (done_of HT_.out (by kernel_rfl)) ?_
                    try go_wp2
                    go_ret
                    exact ⟨by first | rfl | (simp [errW_none, errW_some] <;> rfl) | (simp [*, errW_none, errW_some] <;> rfl), by repeat (first | (with_reducible first | exact HB.out | apply below_alloc | apply pw_below_drewN | apply below_drew1 | refine below_set ?_ GE169.out) | exact HB.out)⟩
                  · rw [if_neg c35] at H
                    exact absurd H (by simp)
                · rw [if_neg c34] at H
                  exact absurd H (by simp)
              · rw [if_neg c33] at H
                exact absurd H (by simp)
            · rw [if_neg c31] at H
              exact absurd H (by simp)
          · rw [if_neg c29] at H
            exact absurd H (by simp)
        · rw [if_neg c27] at H
          have c27b0 : (a0_0 == 2) = false := beq_eq_false_iff_ne.mpr c27
          have c27b1 : (a0_0 != 2) = true := bne_iff_ne.mpr c27
          have HC48 := Aside0.mk H
          clear H
          go_enter Try.func15, Try.ntmps15
          try go_wp2_with (first | ((with_reducible refine gate_dst (N := 1) rfl ?_); refine box_event ?hg (N := 1) ?hd (cs := #[.int .i64 a0_0, .int .i64 a0_1, .int .i64 a0_2, .int .i64 a0_3, .int .i64 a0_4, .int .i64 a0_5, .int .i64 a0_6, .string a0_7, .string a0_8, .slice A0_9 l0_9.length c0_9, .slice A0_10 l0_10.length c0_10]) (t := 25) ?hr ?_; (case hd => rfl); (case hg => rfl); (case hr => first | (go_simp; done) | (go_simp; rfl)); intro gb169 hg w49 hbox hb; have n0_ := Aside0.mk (below_step (by repeat (first | (with_reducible first | exact HB.out | apply below_alloc | apply pw_below_drewN | apply below_drew1) | exact HB.out)) hb); have n1_ := Aside0.mk (hbox); have n2_ := Aside0.mk ((by rw [hg]; exact (below_size (by repeat (first | (with_reducible first | exact HB.out | apply below_alloc | apply pw_below_drewN | apply below_drew1) | exact HB.out))) : w.heap.size ≤ gb169)); have n3_ := Aside0.mk ((by rw [hg]; exact (below_size (by repeat (first | (with_reducible first | exact HB.out | apply below_alloc | apply pw_below_drewN | apply below_drew1) | exact HB.out))) : w.heap.size ≤ gb169)); clear HB; have HB := n0_; have BK169 := n1_; have GW169 := n2_; have GE169 := n3_; clear n0_ n1_ n2_ n3_; clear hb hbox hg; have hcz50_0 : w49.cell? ⟨gb169, 0, none⟩ = some (.int .i64 a0_0) := (blk_cell BK169.out 0).trans rfl; have hcz50_1 : w49.cell? ⟨gb169, 1, none⟩ = some (.int .i64 a0_1) := (blk_cell BK169.out 1).trans rfl; have hcz50_2 : w49.cell? ⟨gb169, 2, none⟩ = some (.int .i64 a0_2) := (blk_cell BK169.out 2).trans rfl; have hcz50_3 : w49.cell? ⟨gb169, 3, none⟩ = some (.int .i64 a0_3) := (blk_cell BK169.out 3).trans rfl; have hcz50_4 : w49.cell? ⟨gb169, 4, none⟩ = some (.int .i64 a0_4) := (blk_cell BK169.out 4).trans rfl; have hcz50_5 : w49.cell? ⟨gb169, 5, none⟩ = some (.int .i64 a0_5) := (blk_cell BK169.out 5).trans rfl; have hcz50_6 : w49.cell? ⟨gb169, 6, none⟩ = some (.int .i64 a0_6) := (blk_cell BK169.out 6).trans rfl; have hcz50_7 : w49.cell? ⟨gb169, 7, none⟩ = some (.string a0_7) := (blk_cell BK169.out 7).trans rfl; have hcz50_8 : w49.cell? ⟨gb169, 8, none⟩ = some (.string a0_8) := (blk_cell BK169.out 8).trans rfl; have hcz50_9 : w49.cell? ⟨gb169, 9, none⟩ = some (.slice A0_9 l0_9.length c0_9) := (blk_cell BK169.out 9).trans rfl; have hcz50_10 : w49.cell? ⟨gb169, 10, none⟩ = some (.slice A0_10 l0_10.length c0_10) := (blk_cell BK169.out 10).trans rfl; have hfz50_0 := blk_frozen BK169.out 0; have hfz50_1 := blk_frozen BK169.out 1; have hfz50_2 := blk_frozen BK169.out 2; have hfz50_3 := blk_frozen BK169.out 3; have hfz50_4 := blk_frozen BK169.out 4; have hfz50_5 := blk_frozen BK169.out 5; have hfz50_6 := blk_frozen BK169.out 6; have hfz50_7 := blk_frozen BK169.out 7; have hfz50_8 := blk_frozen BK169.out 8; have hfz50_9 := blk_frozen BK169.out 9; have hfz50_10 := blk_frozen BK169.out 10) | ((with_reducible refine gate_callee (f := 29) rfl ?_); refine goesL_ (some 9) rfl rfl Try.func29 (by kernel_rfl) rfl #[.int .i64 a0_0] rfl (by (try simp only [List.map_toArray, List.map_cons, List.map_nil]); first | done | rfl | (simp only [List.length_drop, List.length_take]; rfl)) ?_; (with_reducible refine (careenref04_small.calls a0_0 t170 _ A2.out).mono ?_); rintro e w51 ⟨rfl, hb⟩; refine ⟨_, rfl, ?_⟩; have n0_ := Aside0.mk (blk_below (g := gb169) (o := .cells #[.int .i64 a0_0, .int .i64 a0_1, .int .i64 a0_2, .int .i64 a0_3, .int .i64 a0_4, .int .i64 a0_5, .int .i64 a0_6, .string a0_7, .string a0_8, .slice A0_9 l0_9.length c0_9, .slice A0_10 l0_10.length c0_10] 25 (0, 0)) (by (with_reducible repeat (first | refine blk_drewN ?_ _ | refine blk_drew ?_ | refine blk_alloc ?_ _)); exact BK169.out) hb); have n1_ := Aside0.mk (below_step (by repeat (first | (with_reducible first | exact HB.out | apply below_alloc | apply pw_below_drewN | apply below_drew1 | refine below_set ?_ GE169.out) | exact HB.out)) hb); clear BK169; clear HB; have BK169 := n0_; have HB := n1_; clear n0_ n1_; (try clear hb); (try clear hb2); (try clear hk); (try clear hi)))
          have n0_ := Aside0.mk (blk_drew BK169.out)
          have n1_ := Aside0.mk (below_drew1 HB.out)
          clear BK169
          clear HB
          have BK169 := n0_
          have HB := n1_
          clear n0_ n1_
          refine start_ (n := 13) (S := fun w' => w'.cell? ⟨gb169, 0, none⟩ = some (.int .i64 a0_0) ∧ w'.cell? ⟨gb169, 1, none⟩ = some (.int .i64 a0_1) ∧ w'.cell? ⟨gb169, 2, none⟩ = some (.int .i64 a0_2) ∧ w'.cell? ⟨gb169, 3, none⟩ = some (.int .i64 a0_3) ∧ w'.cell? ⟨gb169, 4, none⟩ = some (.int .i64 a0_4) ∧ w'.cell? ⟨gb169, 5, none⟩ = some (.int .i64 a0_5) ∧ w'.cell? ⟨gb169, 6, none⟩ = some (.int .i64 a0_6) ∧ w'.cell? ⟨gb169, 7, none⟩ = some (.string a0_7) ∧ w'.cell? ⟨gb169, 8, none⟩ = some (.string a0_8) ∧ w'.cell? ⟨gb169, 9, none⟩ = some (.slice A0_9 l0_9.length c0_9) ∧ w'.cell? ⟨gb169, 10, none⟩ = some (.slice A0_10 l0_10.length c0_10)) (ds := []) #[false, false, false, false, false, false, false, false, false, false, false, false, false] (by kernel_rfl) rfl rfl ⟨(blk_cell BK169.out 0).trans rfl, (blk_cell BK169.out 1).trans rfl, (blk_cell BK169.out 2).trans rfl, (blk_cell BK169.out 3).trans rfl, (blk_cell BK169.out 4).trans rfl, (blk_cell BK169.out 5).trans rfl, (blk_cell BK169.out 6).trans rfl, (blk_cell BK169.out 7).trans rfl, (blk_cell BK169.out 8).trans rfl, (blk_cell BK169.out 9).trans rfl, (blk_cell BK169.out 10).trans rfl⟩ (fun hHeld => ?_); refine with_tabW careenref04_Print.tab2 careenref04_Print.bits2 (fun HT_ HW_ => ?_)
          generalize w51.drew = w52 at BK169 HB hHeld ⊢
          refine pure_ (i := 0) (N := some 10) (v := ?_) (a' := ?_) #[true, false, false, false, false, false, false, false, false, false, false, false, false] rfl rfl (any_of HT_.out (by kernel_rfl)) (fun _ _ _ h => h) (Or.inl ⟨by rfl, ?_⟩) ?_ ?_
          rotate_left
          · intro w'
            go_simp
            with_reducible rfl
          rotate_left
          · simp only [Act.put, List.setIfInBounds_toArray, List.set_cons_zero, List.set_cons_succ, i64_w, i32_w]
            rfl
          refine pure_ (i := 3) (N := some 13) (v := ?_) (a' := ?_) #[true, false, false, true, false, false, false, false, false, false, false, false, false] rfl rfl (any_of HT_.out (by kernel_rfl)) (fun _ _ _ h => h) (Or.inl ⟨by rfl, ?_⟩) ?_ ?_
          rotate_left
          · intro w'
            go_simp
            with_reducible rfl
          rotate_left
          · simp only [Act.put, List.setIfInBounds_toArray, List.set_cons_zero, List.set_cons_succ, i64_w, i32_w]
            rfl
          refine pure_ (i := 7) (N := some 17) (v := ?_) (a' := ?_) #[true, false, false, true, false, false, false, true, false, false, false, false, false] rfl rfl (any_of HT_.out (by kernel_rfl)) (fun _ _ _ h => h) (Or.inl ⟨by rfl, ?_⟩) ?_ ?_
          rotate_left
          · intro w'
            go_simp
            with_reducible rfl
          rotate_left
          · simp only [Act.put, List.setIfInBounds_toArray, List.set_cons_zero, List.set_cons_succ, i64_w, i32_w]
            rfl
          refine take_ (i := 1) (N := some 11) (v := ?_) (a' := ?_) #[true, true, false, true, false, false, false, true, false, false, false, false, false] rfl rfl (take_ofW HT_.out HW_.out (by kernel_rfl)) (fun _ _ _ h => h) (Or.inl ⟨by rfl, ?_⟩) hHeld ?_ ?_
          rotate_left
          · rintro w' ⟨s0, s1, s2, s3, s4, s5, s6, s7, s8, s9, s10⟩
            go_simp
            with_reducible rfl
          rotate_left
          · simp only [Act.put, List.setIfInBounds_toArray, List.set_cons_zero, List.set_cons_succ, i64_w, i32_w]
            rfl
          refine take_ (i := 4) (N := some 14) (v := ?_) (a' := ?_) #[true, true, false, true, true, false, false, true, false, false, false, false, false] rfl rfl (take_ofW HT_.out HW_.out (by kernel_rfl)) (fun _ _ _ h => h) (Or.inl ⟨by rfl, ?_⟩) hHeld ?_ ?_
          rotate_left
          · rintro w' ⟨s0, s1, s2, s3, s4, s5, s6, s7, s8, s9, s10⟩
            go_simp
            with_reducible rfl
          rotate_left
          · simp only [Act.put, List.setIfInBounds_toArray, List.set_cons_zero, List.set_cons_succ, i64_w, i32_w]
            rfl
          refine take_ (i := 8) (N := some 18) (v := ?_) (a' := ?_) #[true, true, false, true, true, false, false, true, true, false, false, false, false] rfl rfl (take_ofW HT_.out HW_.out (by kernel_rfl)) (fun _ _ _ h => h) (Or.inl ⟨by rfl, ?_⟩) hHeld ?_ ?_
          rotate_left
          · rintro w' ⟨s0, s1, s2, s3, s4, s5, s6, s7, s8, s9, s10⟩
            go_simp
            with_reducible rfl
          rotate_left
          · simp only [Act.put, List.setIfInBounds_toArray, List.set_cons_zero, List.set_cons_succ, i64_w, i32_w]
            rfl
          refine pure_ (i := 9) (N := some 19) (v := ?_) (a' := ?_) #[true, true, false, true, true, false, false, true, true, true, false, false, false] rfl rfl (any_of HT_.out (by kernel_rfl)) (fun _ _ _ h => h) (Or.inl ⟨by rfl, ?_⟩) ?_ ?_
          rotate_left
          · intro w'
            go_simp
            with_reducible rfl
          rotate_left
          · simp only [Act.put, List.setIfInBounds_toArray, List.set_cons_zero, List.set_cons_succ, i64_w, i32_w]
            rfl
          refine one_ (i := 2) (N := some 12) #[true, true, true, true, true, false, false, true, true, true, false, false, false] rfl rfl (one_of HT_.out (by kernel_rfl)) (by decide) (fun K hK => ?_)
          refine goes_ Try.func29 (by kernel_rfl) rfl #[.int .i64 a0_2] (by rfl) rfl rfl (by (try simp only [List.map_toArray, List.map_cons, List.map_nil]); first | done | rfl | (simp only [List.length_drop, List.length_take]; rfl)) ?_
          with_reducible refine (careenref04_small.calls a0_2 t171 _ A3.out).mono ?_
          rintro e w53 ⟨rfl, hb⟩
          refine ⟨_, rfl, ?_⟩
          have n0_ := Aside0.mk (blk_below (g := gb169) (o := .cells #[.int .i64 a0_0, .int .i64 a0_1, .int .i64 a0_2, .int .i64 a0_3, .int .i64 a0_4, .int .i64 a0_5, .int .i64 a0_6, .string a0_7, .string a0_8, .slice A0_9 l0_9.length c0_9, .slice A0_10 l0_10.length c0_10] 25 (0, 0)) (by (with_reducible repeat (first | refine blk_drewN ?_ _ | refine blk_drew ?_ | refine blk_alloc ?_ _)); exact BK169.out) hb)
          have n1_ := Aside0.mk (below_step (by repeat (first | (with_reducible first | exact HB.out | apply below_alloc | apply pw_below_drewN | apply below_drew1 | refine below_set ?_ GE169.out) | exact HB.out)) hb)
          clear BK169
          clear HB
          have BK169 := n0_
          have HB := n1_
          clear n0_ n1_
          (try clear hb)
          (try clear hb2)
          (try clear hk)
          (try clear hi)
          refine hK.out _ _ ⟨(blk_cell BK169.out 0).trans rfl, (blk_cell BK169.out 1).trans rfl, (blk_cell BK169.out 2).trans rfl, (blk_cell BK169.out 3).trans rfl, (blk_cell BK169.out 4).trans rfl, (blk_cell BK169.out 5).trans rfl, (blk_cell BK169.out 6).trans rfl, (blk_cell BK169.out 7).trans rfl, (blk_cell BK169.out 8).trans rfl, (blk_cell BK169.out 9).trans rfl, (blk_cell BK169.out 10).trans rfl⟩ (fun hHeld => ?_)
          clear hK K
          refine norm_ (a' := ?_) ?_ ?_
          rotate_left
          · show Act.put _ (some 12) _ = _
            simp only [Act.put, List.setIfInBounds_toArray, List.set_cons_zero, List.set_cons_succ, i64_w, i32_w]
            rfl
          refine one_ (i := 5) (N := some 15) #[true, true, true, true, true, true, false, true, true, true, false, false, false] rfl rfl (one_of HT_.out (by kernel_rfl)) (by decide) (fun K hK => ?_)
          refine goes_ Try.func29 (by kernel_rfl) rfl #[.int .i64 a0_3] (by rfl) rfl rfl (by (try simp only [List.map_toArray, List.map_cons, List.map_nil]); first | done | rfl | (simp only [List.length_drop, List.length_take]; rfl)) ?_
          with_reducible refine (careenref04_small.calls a0_3 t172 _ A4.out).mono ?_
          rintro e w54 ⟨rfl, hb⟩
          refine ⟨_, rfl, ?_⟩
          have n0_ := Aside0.mk (blk_below (g := gb169) (o := .cells #[.int .i64 a0_0, .int .i64 a0_1, .int .i64 a0_2, .int .i64 a0_3, .int .i64 a0_4, .int .i64 a0_5, .int .i64 a0_6, .string a0_7, .string a0_8, .slice A0_9 l0_9.length c0_9, .slice A0_10 l0_10.length c0_10] 25 (0, 0)) (by (with_reducible repeat (first | refine blk_drewN ?_ _ | refine blk_drew ?_ | refine blk_alloc ?_ _)); exact BK169.out) hb)
          have n1_ := Aside0.mk (below_step (by repeat (first | (with_reducible first | exact HB.out | apply below_alloc | apply pw_below_drewN | apply below_drew1 | refine below_set ?_ GE169.out) | exact HB.out)) hb)
          clear BK169
          clear HB
          have BK169 := n0_
          have HB := n1_
          clear n0_ n1_
          (try clear hb)
          (try clear hb2)
          (try clear hk)
          (try clear hi)
          refine hK.out _ _ ⟨(blk_cell BK169.out 0).trans rfl, (blk_cell BK169.out 1).trans rfl, (blk_cell BK169.out 2).trans rfl, (blk_cell BK169.out 3).trans rfl, (blk_cell BK169.out 4).trans rfl, (blk_cell BK169.out 5).trans rfl, (blk_cell BK169.out 6).trans rfl, (blk_cell BK169.out 7).trans rfl, (blk_cell BK169.out 8).trans rfl, (blk_cell BK169.out 9).trans rfl, (blk_cell BK169.out 10).trans rfl⟩ (fun hHeld => ?_)
          clear hK K
          refine norm_ (a' := ?_) ?_ ?_
          rotate_left
          · show Act.put _ (some 15) _ = _
            simp only [Act.put, List.setIfInBounds_toArray, List.set_cons_zero, List.set_cons_succ, i64_w, i32_w]
            rfl
          refine pure_ (i := 6) (N := some 16) (v := ?_) (a' := ?_) #[true, true, true, true, true, true, true, true, true, true, false, false, false] rfl rfl (any_of HT_.out (by kernel_rfl)) (fun _ _ _ h => h) (Or.inl ⟨by rfl, ?_⟩) ?_ ?_
          rotate_left
          · intro w'
            go_simp
            with_reducible rfl
          rotate_left
          · simp only [Act.put, List.setIfInBounds_toArray, List.set_cons_zero, List.set_cons_succ, i64_w, i32_w]
            rfl
          refine one_ (i := 10) (N := some 20) #[true, true, true, true, true, true, true, true, true, true, true, false, false] rfl rfl (one_of HT_.out (by kernel_rfl)) (by decide) (fun K hK => ?_)
          refine goes_ Try.func29 (by kernel_rfl) rfl #[.int .i64 (a0_8.size : Int)] (by rfl) rfl rfl (by (try simp only [List.map_toArray, List.map_cons, List.map_nil]); first | done | rfl | (simp only [List.length_drop, List.length_take]; rfl)) ?_
          with_reducible refine (careenref04_small.calls (a0_8.size : Int) t173 _ A6.out).mono ?_
          rintro e w55 ⟨rfl, hb⟩
          refine ⟨_, rfl, ?_⟩
          have n0_ := Aside0.mk (blk_below (g := gb169) (o := .cells #[.int .i64 a0_0, .int .i64 a0_1, .int .i64 a0_2, .int .i64 a0_3, .int .i64 a0_4, .int .i64 a0_5, .int .i64 a0_6, .string a0_7, .string a0_8, .slice A0_9 l0_9.length c0_9, .slice A0_10 l0_10.length c0_10] 25 (0, 0)) (by (with_reducible repeat (first | refine blk_drewN ?_ _ | refine blk_drew ?_ | refine blk_alloc ?_ _)); exact BK169.out) hb)
          have n1_ := Aside0.mk (below_step (by repeat (first | (with_reducible first | exact HB.out | apply below_alloc | apply pw_below_drewN | apply below_drew1 | refine below_set ?_ GE169.out) | exact HB.out)) hb)
          clear BK169
          clear HB
          have BK169 := n0_
          have HB := n1_
          clear n0_ n1_
          (try clear hb)
          (try clear hb2)
          (try clear hk)
          (try clear hi)
          refine hK.out _ _ ⟨(blk_cell BK169.out 0).trans rfl, (blk_cell BK169.out 1).trans rfl, (blk_cell BK169.out 2).trans rfl, (blk_cell BK169.out 3).trans rfl, (blk_cell BK169.out 4).trans rfl, (blk_cell BK169.out 5).trans rfl, (blk_cell BK169.out 6).trans rfl, (blk_cell BK169.out 7).trans rfl, (blk_cell BK169.out 8).trans rfl, (blk_cell BK169.out 9).trans rfl, (blk_cell BK169.out 10).trans rfl⟩ (fun hHeld => ?_)
          clear hK K
          refine norm_ (a' := ?_) ?_ ?_
          rotate_left
          · show Act.put _ (some 20) _ = _
            simp only [Act.put, List.setIfInBounds_toArray, List.set_cons_zero, List.set_cons_succ, i64_w, i32_w]
            rfl
          refine pure_ (i := 11) (N := some 21) (v := ?_) (a' := ?_) #[true, true, true, true, true, true, true, true, true, true, true, true, false] rfl rfl (any_of HT_.out (by kernel_rfl)) (fun _ _ _ h => h) (Or.inl ⟨by rfl, ?_⟩) ?_ ?_
          rotate_left
          · intro w'
            go_simp
            with_reducible rfl
          rotate_left
          · simp only [Act.put, List.setIfInBounds_toArray, List.set_cons_zero, List.set_cons_succ, i64_w, i32_w]
            rfl
          refine pure_ (i := 12) (N := some 4) (v := ?_) (a' := ?_) #[true, true, true, true, true, true, true, true, true, true, true, true, true] rfl rfl (any_of HT_.out (by kernel_rfl)) (fun _ _ _ h => h) (Or.inl ⟨by rfl, ?_⟩) ?_ ?_
          rotate_left
          · intro w'
            go_simp
            with_reducible rfl
          rotate_left
          · simp only [Act.put, List.setIfInBounds_toArray, List.set_cons_zero, List.set_cons_succ, i64_w, i32_w]
            rfl
          refine done_ (done_of HT_.out (by kernel_rfl)) ?_
          have hcz56_0 : w55.cell? ⟨gb169, 0, none⟩ = some (.int .i64 a0_0) := (blk_cell BK169.out 0).trans rfl
          have hcz56_1 : w55.cell? ⟨gb169, 1, none⟩ = some (.int .i64 a0_1) := (blk_cell BK169.out 1).trans rfl
          have hcz56_2 : w55.cell? ⟨gb169, 2, none⟩ = some (.int .i64 a0_2) := (blk_cell BK169.out 2).trans rfl
          have hcz56_3 : w55.cell? ⟨gb169, 3, none⟩ = some (.int .i64 a0_3) := (blk_cell BK169.out 3).trans rfl
          have hcz56_4 : w55.cell? ⟨gb169, 4, none⟩ = some (.int .i64 a0_4) := (blk_cell BK169.out 4).trans rfl
          have hcz56_5 : w55.cell? ⟨gb169, 5, none⟩ = some (.int .i64 a0_5) := (blk_cell BK169.out 5).trans rfl
          have hcz56_6 : w55.cell? ⟨gb169, 6, none⟩ = some (.int .i64 a0_6) := (blk_cell BK169.out 6).trans rfl
          have hcz56_7 : w55.cell? ⟨gb169, 7, none⟩ = some (.string a0_7) := (blk_cell BK169.out 7).trans rfl
          have hcz56_8 : w55.cell? ⟨gb169, 8, none⟩ = some (.string a0_8) := (blk_cell BK169.out 8).trans rfl
          have hcz56_9 : w55.cell? ⟨gb169, 9, none⟩ = some (.slice A0_9 l0_9.length c0_9) := (blk_cell BK169.out 9).trans rfl
          have hcz56_10 : w55.cell? ⟨gb169, 10, none⟩ = some (.slice A0_10 l0_10.length c0_10) := (blk_cell BK169.out 10).trans rfl
          have hfz56_0 := blk_frozen BK169.out 0
          have hfz56_1 := blk_frozen BK169.out 1
          have hfz56_2 := blk_frozen BK169.out 2
          have hfz56_3 := blk_frozen BK169.out 3
          have hfz56_4 := blk_frozen BK169.out 4
          have hfz56_5 := blk_frozen BK169.out 5
          have hfz56_6 := blk_frozen BK169.out 6
          have hfz56_7 := blk_frozen BK169.out 7
          have hfz56_8 := blk_frozen BK169.out 8
          have hfz56_9 := blk_frozen BK169.out 9
          have hfz56_10 := blk_frozen BK169.out 10
          go_upto_if 63 with (fail)
          go_cut [63] (fun v63 wc => ∃ (kq : Nat) (x63_47 : Bool), v63 = .bool x63_47 ∧ Aside0 (careenref04_Print.j0 kq t170 a0_0 x63_47 a0_0 a0_1 a0_2 a0_3 a0_4 a0_5 a0_6 a0_7 a0_8 l0_9 l0_10 = some r) ∧ Aside0 (kq ≤ k) ∧ Aside0 (wc.heap[gb169]? = some (.cells #[.int .i64 a0_0, .int .i64 a0_1, .int .i64 a0_2, .int .i64 a0_3, .int .i64 a0_4, .int .i64 a0_5, .int .i64 a0_6, .string a0_7, .string a0_8, (.slice A0_9 l0_9.length c0_9), (.slice A0_10 l0_10.length c0_10)] 25 (0, 0))) ∧ Aside0 (Below w.heap.size w wc))
          case first =>
            have H := HC48.out
            clear HC48
            by_cases c57 : a0_0 = 3
            · rw [if_pos c57] at H
              have c57b0 : (a0_0 == 3) = true := beq_iff_eq.mpr c57
              have c57b1 : (a0_0 != 3) = false := bne_eq_false_iff_eq.mpr c57
              clear c57
              (first | rw [c57b0] | (simp only [i64_w, i32_w]; rw [c57b0]) | skip)
              have H' := Aside0.mk H
              clear H
              go_wp2
              go_meet
              case rel => exact ⟨_, ((a0_0 == 3)), (by first | rfl | (simp; done) | (simp [*]; done)), H', ⟨by first | omega | exact Nat.le_refl _⟩, ⟨by (with_reducible repeat (first | refine blk_drewN ?_ _ | refine blk_drew ?_ | refine blk_alloc ?_ _)); exact BK169.out⟩, ⟨by repeat (first | (with_reducible first | exact HB.out | apply below_alloc | apply pw_below_drewN | apply below_drew1 | refine below_set ?_ GE169.out) | exact HB.out)⟩⟩
            · rw [if_neg c57] at H
              have c57b0 : (a0_0 == 3) = false := beq_eq_false_iff_ne.mpr c57
              have c57b1 : (a0_0 != 3) = true := bne_iff_ne.mpr c57
              (first | rw [c57b0] | (simp only [i64_w, i32_w]; rw [c57b0]) | skip)
              have H' := Aside0.mk H
              clear H
              go_wp2
              go_meet
              case rel => exact ⟨_, ((a0_0 == 4)), (by first | rfl | (simp; done) | (simp [*]; done)), H', ⟨by first | omega | exact Nat.le_refl _⟩, ⟨by (with_reducible repeat (first | refine blk_drewN ?_ _ | refine blk_drew ?_ | refine blk_alloc ?_ _)); exact BK169.out⟩, ⟨by repeat (first | (with_reducible first | exact HB.out | apply below_alloc | apply pw_below_drewN | apply below_drew1 | refine below_set ?_ GE169.out) | exact HB.out)⟩⟩
          case rest =>
            clear HC48
            try clear c1
            try clear c2
            try clear p2
            try clear c3
            try clear c5
            try clear c15
            try clear c27
            try clear c27b0
            try clear c27b1
            try clear c29
            try clear c30
            try clear c31
            try clear c33
            try clear c34
            try clear c35
            try clear c57
            try clear c57b0
            try clear c57b1
            try clear hcz43_0
            try clear hcz43_1
            try clear hcz43_10
            try clear hcz43_2
            try clear hcz43_3
            try clear hcz43_4
            try clear hcz43_5
            try clear hcz43_6
            try clear hcz43_7
            try clear hcz43_8
            try clear hcz43_9
            try clear hcz50_0
            try clear hcz50_1
            try clear hcz50_10
            try clear hcz50_2
            try clear hcz50_3
            try clear hcz50_4
            try clear hcz50_5
            try clear hcz50_6
            try clear hcz50_7
            try clear hcz50_8
            try clear hcz50_9
            try clear hcz56_0
            try clear hcz56_1
            try clear hcz56_10
            try clear hcz56_2
            try clear hcz56_3
            try clear hcz56_4
            try clear hcz56_5
            try clear hcz56_6
            try clear hcz56_7
            try clear hcz56_8
            try clear hcz56_9
            try clear hfz43_0
            try clear hfz43_1
            try clear hfz43_10
            try clear hfz43_2
            try clear hfz43_3
            try clear hfz43_4
            try clear hfz43_5
            try clear hfz43_6
            try clear hfz43_7
            try clear hfz43_8
            try clear hfz43_9
            try clear hfz50_0
            try clear hfz50_1
            try clear hfz50_10
            try clear hfz50_2
            try clear hfz50_3
            try clear hfz50_4
            try clear hfz50_5
            try clear hfz50_6
            try clear hfz50_7
            try clear hfz50_8
            try clear hfz50_9
            try clear hfz56_0
            try clear hfz56_1
            try clear hfz56_10
            try clear hfz56_2
            try clear hfz56_3
            try clear hfz56_4
            try clear hfz56_5
            try clear hfz56_6
            try clear hfz56_7
            try clear hfz56_8
            try clear hfz56_9
            obtain ⟨kq, x63_47, rfl, HA, HJ47, BK169, HB⟩ := hcut
            cases kq with
            | zero => exact nomatch (show none = some _ from HA.out)
            | succ kj47 =>
              have H := HA.out
              clear HA
              simp only [careenref04_Print.j0] at H
              by_cases c58 : x63_47 = true
              · subst c58
                have H1 : ((careenref04_four.f a0_1).bind fun t179 => (if t170.size + t179.size ≤ 9223372036854775807 then ((careenref04_four.f a0_4).bind fun t180 => (if (t170 ++ t179).size + t180.size ≤ 9223372036854775807 then (some ((t170 ++ t179) ++ t180)) else (none))) else (none))) = some r := by rw [if_pos rfl] at H; exact H
                clear H
                have H := H1
                clear H1
                replace H := Option.bind_eq_some_iff.mp H
                obtain ⟨t179, A590, H⟩ := H
                replace H : (if t170.size + t179.size ≤ 9223372036854775807 then ((careenref04_four.f a0_4).bind fun t180 => (if (t170 ++ t179).size + t180.size ≤ 9223372036854775807 then (some ((t170 ++ t179) ++ t180)) else (none))) else (none)) = some r := H
                have A59 := Aside0.mk A590
                clear A590
                by_cases c60 : t170.size + t179.size ≤ 9223372036854775807
                · rw [if_pos c60] at H
                  have c60b0 := eq_true c60
                  have c60b1 : decide (t170.size + t179.size ≤ 9223372036854775807) = true := decide_eq_true c60
                  try have c60b2 : (9223372036854775807 < t170.size + t179.size) = False := eq_false (Nat.not_lt.2 c60)
                  replace H := Option.bind_eq_some_iff.mp H
                  obtain ⟨t180, A610, H⟩ := H
                  replace H : (if (t170 ++ t179).size + t180.size ≤ 9223372036854775807 then (some ((t170 ++ t179) ++ t180)) else (none)) = some r := H
                  have A61 := Aside0.mk A610
                  clear A610
                  by_cases c62 : (t170 ++ t179).size + t180.size ≤ 9223372036854775807
                  · rw [if_pos c62] at H
                    have c62b0 := eq_true c62
                    have c62b1 : decide ((t170 ++ t179).size + t180.size ≤ 9223372036854775807) = true := decide_eq_true c62
                    try have c62b2 : (9223372036854775807 < (t170 ++ t179).size + t180.size) = False := eq_false (Nat.not_lt.2 c62)
                    try have c62b3 := c62b2
                    try simp only [ByteArray.size_append] at c62b3
                    obtain rfl := Option.some.inj H
                    try go_wp2
                    have n0_ := Aside0.mk (blk_drew BK169.out)
                    have n1_ := Aside0.mk (below_drew1 HB.out)
                    clear BK169
                    clear HB
                    have BK169 := n0_
                    have HB := n1_
                    clear n0_ n1_
                    refine start_ (n := 10) (S := fun w' => w'.cell? ⟨gb169, 0, none⟩ = some (.int .i64 a0_0) ∧ w'.cell? ⟨gb169, 1, none⟩ = some (.int .i64 a0_1) ∧ w'.cell? ⟨gb169, 2, none⟩ = some (.int .i64 a0_2) ∧ w'.cell? ⟨gb169, 3, none⟩ = some (.int .i64 a0_3) ∧ w'.cell? ⟨gb169, 4, none⟩ = some (.int .i64 a0_4) ∧ w'.cell? ⟨gb169, 5, none⟩ = some (.int .i64 a0_5) ∧ w'.cell? ⟨gb169, 6, none⟩ = some (.int .i64 a0_6) ∧ w'.cell? ⟨gb169, 7, none⟩ = some (.string a0_7) ∧ w'.cell? ⟨gb169, 8, none⟩ = some (.string a0_8) ∧ w'.cell? ⟨gb169, 9, none⟩ = some (.slice A0_9 l0_9.length c0_9) ∧ w'.cell? ⟨gb169, 10, none⟩ = some (.slice A0_10 l0_10.length c0_10)) (ds := []) #[false, false, false, false, false, false, false, false, false, false] (by kernel_rfl) rfl rfl ⟨(blk_cell BK169.out 0).trans rfl, (blk_cell BK169.out 1).trans rfl, (blk_cell BK169.out 2).trans rfl, (blk_cell BK169.out 3).trans rfl, (blk_cell BK169.out 4).trans rfl, (blk_cell BK169.out 5).trans rfl, (blk_cell BK169.out 6).trans rfl, (blk_cell BK169.out 7).trans rfl, (blk_cell BK169.out 8).trans rfl, (blk_cell BK169.out 9).trans rfl, (blk_cell BK169.out 10).trans rfl⟩ (fun hHeld => ?_); refine with_tabW careenref04_Print.tab10 careenref04_Print.bits10 (fun HT_ HW_ => ?_)
                    generalize wc.drew = w63 at BK169 HB hHeld ⊢
                    refine pure_ (i := 0) (N := some 66) (v := ?_) (a' := ?_) #[true, false, false, false, false, false, false, false, false, false] rfl rfl (any_of HT_.out (by kernel_rfl)) (fun _ _ _ h => h) (Or.inl ⟨by rfl, ?_⟩) ?_ ?_
                    rotate_left
                    · intro w'
                      go_simp
                      with_reducible rfl
                    rotate_left
                    · simp only [Act.put, List.setIfInBounds_toArray, List.set_cons_zero, List.set_cons_succ, i64_w, i32_w]
                      rfl
                    refine pure_ (i := 1) (N := some 67) (v := ?_) (a' := ?_) #[true, true, false, false, false, false, false, false, false, false] rfl rfl (any_of HT_.out (by kernel_rfl)) (fun _ _ _ h => h) (Or.inl ⟨by rfl, ?_⟩) ?_ ?_
                    rotate_left
                    · intro w'
                      go_simp
                      with_reducible rfl
                    rotate_left
                    · simp only [Act.put, List.setIfInBounds_toArray, List.set_cons_zero, List.set_cons_succ, i64_w, i32_w]
                      rfl
                    refine pure_ (i := 5) (N := some 71) (v := ?_) (a' := ?_) #[true, true, false, false, false, true, false, false, false, false] rfl rfl (any_of HT_.out (by kernel_rfl)) (fun _ _ _ h => h) (Or.inl ⟨by rfl, ?_⟩) ?_ ?_
                    rotate_left
                    · intro w'
                      go_simp
                      with_reducible rfl
                    rotate_left
                    · simp only [Act.put, List.setIfInBounds_toArray, List.set_cons_zero, List.set_cons_succ, i64_w, i32_w]
                      rfl
                    refine take_ (i := 2) (N := some 68) (v := ?_) (a' := ?_) #[true, true, true, false, false, true, false, false, false, false] rfl rfl (take_ofW HT_.out HW_.out (by kernel_rfl)) (fun _ _ _ h => h) (Or.inl ⟨by rfl, ?_⟩) hHeld ?_ ?_
                    rotate_left
                    · rintro w' ⟨s0, s1, s2, s3, s4, s5, s6, s7, s8, s9, s10⟩
                      go_simp
                      with_reducible rfl
                    rotate_left
                    · simp only [Act.put, List.setIfInBounds_toArray, List.set_cons_zero, List.set_cons_succ, i64_w, i32_w]
                      rfl
                    refine take_ (i := 6) (N := some 72) (v := ?_) (a' := ?_) #[true, true, true, false, false, true, true, false, false, false] rfl rfl (take_ofW HT_.out HW_.out (by kernel_rfl)) (fun _ _ _ h => h) (Or.inl ⟨by rfl, ?_⟩) hHeld ?_ ?_
                    rotate_left
                    · rintro w' ⟨s0, s1, s2, s3, s4, s5, s6, s7, s8, s9, s10⟩
                      go_simp
                      with_reducible rfl
                    rotate_left
                    · simp only [Act.put, List.setIfInBounds_toArray, List.set_cons_zero, List.set_cons_succ, i64_w, i32_w]
                      rfl
                    refine one_ (i := 3) (N := some 69) #[true, true, true, true, false, true, true, false, false, false] rfl rfl (one_of HT_.out (by kernel_rfl)) (by decide) (fun K hK => ?_)
                    refine goes_ Try.func30 (by kernel_rfl) rfl #[.int .i64 a0_1] (by rfl) rfl rfl (by (try simp only [List.map_toArray, List.map_cons, List.map_nil]); first | done | rfl | (simp only [List.length_drop, List.length_take]; rfl)) ?_
                    with_reducible refine (careenref04_four.calls a0_1 t179 _ A59.out).mono ?_
                    rintro e w64 ⟨rfl, hb⟩
                    refine ⟨_, rfl, ?_⟩
                    have n0_ := Aside0.mk (blk_below (g := gb169) (o := .cells #[.int .i64 a0_0, .int .i64 a0_1, .int .i64 a0_2, .int .i64 a0_3, .int .i64 a0_4, .int .i64 a0_5, .int .i64 a0_6, .string a0_7, .string a0_8, .slice A0_9 l0_9.length c0_9, .slice A0_10 l0_10.length c0_10] 25 (0, 0)) (by (with_reducible repeat (first | refine blk_drewN ?_ _ | refine blk_drew ?_ | refine blk_alloc ?_ _)); exact BK169.out) hb)
                    have n1_ := Aside0.mk (below_step (by repeat (first | (with_reducible first | exact HB.out | apply below_alloc | apply pw_below_drewN | apply below_drew1 | refine below_set ?_ GE169.out) | exact HB.out)) hb)
                    clear BK169
                    clear HB
                    have BK169 := n0_
                    have HB := n1_
                    clear n0_ n1_
                    (try clear hb)
                    (try clear hb2)
                    (try clear hk)
                    (try clear hi)
                    refine hK.out _ _ ⟨(blk_cell BK169.out 0).trans rfl, (blk_cell BK169.out 1).trans rfl, (blk_cell BK169.out 2).trans rfl, (blk_cell BK169.out 3).trans rfl, (blk_cell BK169.out 4).trans rfl, (blk_cell BK169.out 5).trans rfl, (blk_cell BK169.out 6).trans rfl, (blk_cell BK169.out 7).trans rfl, (blk_cell BK169.out 8).trans rfl, (blk_cell BK169.out 9).trans rfl, (blk_cell BK169.out 10).trans rfl⟩ (fun hHeld => ?_)
                    clear hK K
                    refine norm_ (a' := ?_) ?_ ?_
                    rotate_left
                    · show Act.put _ (some 69) _ = _
                      simp only [Act.put, List.setIfInBounds_toArray, List.set_cons_zero, List.set_cons_succ, i64_w, i32_w]
                      rfl
                    refine pure_ (i := 4) (N := some 70) (v := ?_) (a' := ?_) #[true, true, true, true, true, true, true, false, false, false] rfl rfl (any_of HT_.out (by kernel_rfl)) (fun _ _ _ h => h) (Or.inl ⟨by rfl, ?_⟩) ?_ ?_
                    rotate_left
                    · intro w'
                      go_simp
                      with_reducible rfl
                    rotate_left
                    · simp only [Act.put, List.setIfInBounds_toArray, List.set_cons_zero, List.set_cons_succ, i64_w, i32_w]
                      rfl
                    refine one_ (i := 7) (N := some 73) #[true, true, true, true, true, true, true, true, false, false] rfl rfl (one_of HT_.out (by kernel_rfl)) (by decide) (fun K hK => ?_)
                    refine goes_ Try.func30 (by kernel_rfl) rfl #[.int .i64 a0_4] (by rfl) rfl rfl (by (try simp only [List.map_toArray, List.map_cons, List.map_nil]); first | done | rfl | (simp only [List.length_drop, List.length_take]; rfl)) ?_
                    with_reducible refine (careenref04_four.calls a0_4 t180 _ A61.out).mono ?_
                    rintro e w65 ⟨rfl, hb⟩
                    refine ⟨_, rfl, ?_⟩
                    have n0_ := Aside0.mk (blk_below (g := gb169) (o := .cells #[.int .i64 a0_0, .int .i64 a0_1, .int .i64 a0_2, .int .i64 a0_3, .int .i64 a0_4, .int .i64 a0_5, .int .i64 a0_6, .string a0_7, .string a0_8, .slice A0_9 l0_9.length c0_9, .slice A0_10 l0_10.length c0_10] 25 (0, 0)) (by (with_reducible repeat (first | refine blk_drewN ?_ _ | refine blk_drew ?_ | refine blk_alloc ?_ _)); exact BK169.out) hb)
                    have n1_ := Aside0.mk (below_step (by repeat (first | (with_reducible first | exact HB.out | apply below_alloc | apply pw_below_drewN | apply below_drew1 | refine below_set ?_ GE169.out) | exact HB.out)) hb)
                    clear BK169
                    clear HB
                    have BK169 := n0_
                    have HB := n1_
                    clear n0_ n1_
                    (try clear hb)
                    (try clear hb2)
                    (try clear hk)
                    (try clear hi)
                    refine hK.out _ _ ⟨(blk_cell BK169.out 0).trans rfl, (blk_cell BK169.out 1).trans rfl, (blk_cell BK169.out 2).trans rfl, (blk_cell BK169.out 3).trans rfl, (blk_cell BK169.out 4).trans rfl, (blk_cell BK169.out 5).trans rfl, (blk_cell BK169.out 6).trans rfl, (blk_cell BK169.out 7).trans rfl, (blk_cell BK169.out 8).trans rfl, (blk_cell BK169.out 9).trans rfl, (blk_cell BK169.out 10).trans rfl⟩ (fun hHeld => ?_)
                    clear hK K
                    refine norm_ (a' := ?_) ?_ ?_
                    rotate_left
                    · show Act.put _ (some 73) _ = _
                      simp only [Act.put, List.setIfInBounds_toArray, List.set_cons_zero, List.set_cons_succ, i64_w, i32_w]
                      rfl
                    refine pure_ (i := 8) (N := some 74) (v := ?_) (a' := ?_) #[true, true, true, true, true, true, true, true, true, false] rfl rfl (any_of HT_.out (by kernel_rfl)) (fun _ _ _ h => h) (Or.inl ⟨by rfl, ?_⟩) ?_ ?_
                    rotate_left
                    · intro w'
                      go_simp
                      with_reducible rfl
                    rotate_left
                    · simp only [Act.put, List.setIfInBounds_toArray, List.set_cons_zero, List.set_cons_succ, i64_w, i32_w]
                      rfl
                    refine pure_ (i := 9) (N := some 2) (v := ?_) (a' := ?_) #[true, true, true, true, true, true, true, true, true, true] rfl rfl (any_of HT_.out (by kernel_rfl)) (fun _ _ _ h => h) (Or.inl ⟨by rfl, ?_⟩) ?_ ?_
                    rotate_left
                    · intro w'
                      go_simp
                      with_reducible rfl
                    rotate_left
                    · simp only [Act.put, List.setIfInBounds_toArray, List.set_cons_zero, List.set_cons_succ, i64_w, i32_w]
                      rfl
                    refine done_ (done_of HT_.out (by kernel_rfl)) ?_
                    try go_wp2
                    go_ret
                    exact ⟨by first | rfl | (simp [errW_none, errW_some] <;> rfl) | (simp [*, errW_none, errW_some] <;> rfl), by repeat (first | (with_reducible first | exact HB.out | apply below_alloc | apply pw_below_drewN | apply below_drew1 | refine below_set ?_ GE169.out) | exact HB.out)⟩
                  · rw [if_neg c62] at H
                    exact absurd H (by simp)
                · rw [if_neg c60] at H
                  exact absurd H (by simp)
              · replace c58 := Bool.eq_false_iff.mpr c58
                subst c58
                have H1 : (if a0_0 = 6 then ((careenref04_four.f a0_6).bind fun t181 => ((careenref04_small.f (l0_9.length : Int)).bind fun t182 => (if t181.size + t182.size ≤ 9223372036854775807 then (if t170.size + (t181 ++ t182).size ≤ 9223372036854775807 then (careenref04_Print.l0 kj47 (t170 ++ (t181 ++ t182)) 0 a0_0 a0_1 a0_2 a0_3 a0_4 a0_5 a0_6 a0_7 a0_8 l0_9 l0_10) else (none)) else (none)))) else (some t170)) = some r := by rw [if_neg (show ¬ (false = true) by decide)] at H; exact H
                clear H
                have H := H1
                clear H1
                by_cases c66 : a0_0 = 6
                · rw [if_pos c66] at H
                  have c66b0 : (a0_0 == 6) = true := beq_iff_eq.mpr c66
                  have c66b1 : (a0_0 != 6) = false := bne_eq_false_iff_eq.mpr c66
                  clear c66
                  replace H := Option.bind_eq_some_iff.mp H
                  obtain ⟨t181, A670, H⟩ := H
                  replace H : ((careenref04_small.f (l0_9.length : Int)).bind fun t182 => (if t181.size + t182.size ≤ 9223372036854775807 then (if t170.size + (t181 ++ t182).size ≤ 9223372036854775807 then (careenref04_Print.l0 kj47 (t170 ++ (t181 ++ t182)) 0 a0_0 a0_1 a0_2 a0_3 a0_4 a0_5 a0_6 a0_7 a0_8 l0_9 l0_10) else (none)) else (none))) = some r := H
                  have A67 := Aside0.mk A670
                  clear A670
                  replace H := Option.bind_eq_some_iff.mp H
                  obtain ⟨t182, A680, H⟩ := H
                  replace H : (if t181.size + t182.size ≤ 9223372036854775807 then (if t170.size + (t181 ++ t182).size ≤ 9223372036854775807 then (careenref04_Print.l0 kj47 (t170 ++ (t181 ++ t182)) 0 a0_0 a0_1 a0_2 a0_3 a0_4 a0_5 a0_6 a0_7 a0_8 l0_9 l0_10) else (none)) else (none)) = some r := H
                  have A68 := Aside0.mk A680
                  clear A680
                  by_cases c69 : t181.size + t182.size ≤ 9223372036854775807
                  · rw [if_pos c69] at H
                    have c69b0 := eq_true c69
                    have c69b1 : decide (t181.size + t182.size ≤ 9223372036854775807) = true := decide_eq_true c69
                    try have c69b2 : (9223372036854775807 < t181.size + t182.size) = False := eq_false (Nat.not_lt.2 c69)
                    by_cases c70 : t170.size + (t181 ++ t182).size ≤ 9223372036854775807
                    · rw [if_pos c70] at H
                      have c70b0 := eq_true c70
                      have c70b1 : decide (t170.size + (t181 ++ t182).size ≤ 9223372036854775807) = true := decide_eq_true c70
                      try have c70b2 : (9223372036854775807 < t170.size + (t181 ++ t182).size) = False := eq_false (Nat.not_lt.2 c70)
                      try have c70b3 := c70b2
                      try simp only [ByteArray.size_append] at c70b3
                      have H' := Aside0.mk H
                      clear H
                      try go_wp2
                      have n0_ := Aside0.mk (blk_drew BK169.out)
                      have n1_ := Aside0.mk (below_drew1 HB.out)
                      clear BK169
                      clear HB
                      have BK169 := n0_
                      have HB := n1_
                      clear n0_ n1_
                      refine start_ (n := 11) (S := fun w' => w'.cell? ⟨gb169, 0, none⟩ = some (.int .i64 a0_0) ∧ w'.cell? ⟨gb169, 1, none⟩ = some (.int .i64 a0_1) ∧ w'.cell? ⟨gb169, 2, none⟩ = some (.int .i64 a0_2) ∧ w'.cell? ⟨gb169, 3, none⟩ = some (.int .i64 a0_3) ∧ w'.cell? ⟨gb169, 4, none⟩ = some (.int .i64 a0_4) ∧ w'.cell? ⟨gb169, 5, none⟩ = some (.int .i64 a0_5) ∧ w'.cell? ⟨gb169, 6, none⟩ = some (.int .i64 a0_6) ∧ w'.cell? ⟨gb169, 7, none⟩ = some (.string a0_7) ∧ w'.cell? ⟨gb169, 8, none⟩ = some (.string a0_8) ∧ w'.cell? ⟨gb169, 9, none⟩ = some (.slice A0_9 l0_9.length c0_9) ∧ w'.cell? ⟨gb169, 10, none⟩ = some (.slice A0_10 l0_10.length c0_10)) (ds := []) #[false, false, false, false, false, false, false, false, false, false, false] (by kernel_rfl) rfl rfl ⟨(blk_cell BK169.out 0).trans rfl, (blk_cell BK169.out 1).trans rfl, (blk_cell BK169.out 2).trans rfl, (blk_cell BK169.out 3).trans rfl, (blk_cell BK169.out 4).trans rfl, (blk_cell BK169.out 5).trans rfl, (blk_cell BK169.out 6).trans rfl, (blk_cell BK169.out 7).trans rfl, (blk_cell BK169.out 8).trans rfl, (blk_cell BK169.out 9).trans rfl, (blk_cell BK169.out 10).trans rfl⟩ (fun hHeld => ?_); refine with_tabW careenref04_Print.tab12 careenref04_Print.bits12 (fun HT_ HW_ => ?_)
                      generalize wc.drew = w71 at BK169 HB hHeld ⊢
                      refine pure_ (i := 0) (N := some 77) (v := ?_) (a' := ?_) #[true, false, false, false, false, false, false, false, false, false, false] rfl rfl (any_of HT_.out (by kernel_rfl)) (fun _ _ _ h => h) (Or.inl ⟨by rfl, ?_⟩) ?_ ?_
                      rotate_left
                      · intro w'
                        go_simp
                        with_reducible rfl
                      rotate_left
                      · simp only [Act.put, List.setIfInBounds_toArray, List.set_cons_zero, List.set_cons_succ, i64_w, i32_w]
                        rfl
                      refine pure_ (i := 1) (N := some 78) (v := ?_) (a' := ?_) #[true, true, false, false, false, false, false, false, false, false, false] rfl rfl (any_of HT_.out (by kernel_rfl)) (fun _ _ _ h => h) (Or.inl ⟨by rfl, ?_⟩) ?_ ?_
                      rotate_left
                      · intro w'
                        go_simp
                        with_reducible rfl
                      rotate_left
                      · simp only [Act.put, List.setIfInBounds_toArray, List.set_cons_zero, List.set_cons_succ, i64_w, i32_w]
                        rfl
                      refine pure_ (i := 4) (N := some 81) (v := ?_) (a' := ?_) #[true, true, false, false, true, false, false, false, false, false, false] rfl rfl (any_of HT_.out (by kernel_rfl)) (fun _ _ _ h => h) (Or.inl ⟨by rfl, ?_⟩) ?_ ?_
                      rotate_left
                      · intro w'
                        go_simp
                        with_reducible rfl
                      rotate_left
                      · simp only [Act.put, List.setIfInBounds_toArray, List.set_cons_zero, List.set_cons_succ, i64_w, i32_w]
                        rfl
                      refine take_ (i := 2) (N := some 79) (v := ?_) (a' := ?_) #[true, true, true, false, true, false, false, false, false, false, false] rfl rfl (take_ofW HT_.out HW_.out (by kernel_rfl)) (fun _ _ _ h => h) (Or.inl ⟨by rfl, ?_⟩) hHeld ?_ ?_
                      rotate_left
                      · rintro w' ⟨s0, s1, s2, s3, s4, s5, s6, s7, s8, s9, s10⟩
                        go_simp
                        with_reducible rfl
                      rotate_left
                      · simp only [Act.put, List.setIfInBounds_toArray, List.set_cons_zero, List.set_cons_succ, i64_w, i32_w]
                        rfl
                      refine take_ (i := 5) (N := some 82) (v := ?_) (a' := ?_) #[true, true, true, false, true, true, false, false, false, false, false] rfl rfl (take_ofW HT_.out HW_.out (by kernel_rfl)) (fun _ _ _ h => h) (Or.inl ⟨by rfl, ?_⟩) hHeld ?_ ?_
                      rotate_left
                      · rintro w' ⟨s0, s1, s2, s3, s4, s5, s6, s7, s8, s9, s10⟩
                        go_simp
                        with_reducible rfl
                      rotate_left
                      · simp only [Act.put, List.setIfInBounds_toArray, List.set_cons_zero, List.set_cons_succ, i64_w, i32_w]
                        rfl
                      refine pure_ (i := 6) (N := some 83) (v := ?_) (a' := ?_) #[true, true, true, false, true, true, true, false, false, false, false] rfl rfl (any_of HT_.out (by kernel_rfl)) (fun _ _ _ h => h) (Or.inl ⟨by rfl, ?_⟩) ?_ ?_
                      rotate_left
                      · intro w'
                        go_simp
                        with_reducible rfl
                      rotate_left
                      · simp only [Act.put, List.setIfInBounds_toArray, List.set_cons_zero, List.set_cons_succ, i64_w, i32_w]
                        rfl
                      refine one_ (i := 3) (N := some 80) #[true, true, true, true, true, true, true, false, false, false, false] rfl rfl (one_of HT_.out (by kernel_rfl)) (by decide) (fun K hK => ?_)
                      refine goes_ Try.func30 (by kernel_rfl) rfl #[.int .i64 a0_6] (by rfl) rfl rfl (by (try simp only [List.map_toArray, List.map_cons, List.map_nil]); first | done | rfl | (simp only [List.length_drop, List.length_take]; rfl)) ?_
                      with_reducible refine (careenref04_four.calls a0_6 t181 _ A67.out).mono ?_
                      rintro e w72 ⟨rfl, hb⟩
                      refine ⟨_, rfl, ?_⟩
                      have n0_ := Aside0.mk (blk_below (g := gb169) (o := .cells #[.int .i64 a0_0, .int .i64 a0_1, .int .i64 a0_2, .int .i64 a0_3, .int .i64 a0_4, .int .i64 a0_5, .int .i64 a0_6, .string a0_7, .string a0_8, .slice A0_9 l0_9.length c0_9, .slice A0_10 l0_10.length c0_10] 25 (0, 0)) (by (with_reducible repeat (first | refine blk_drewN ?_ _ | refine blk_drew ?_ | refine blk_alloc ?_ _)); exact BK169.out) hb)
                      have n1_ := Aside0.mk (below_step (by repeat (first | (with_reducible first | exact HB.out | apply below_alloc | apply pw_below_drewN | apply below_drew1 | refine below_set ?_ GE169.out) | exact HB.out)) hb)
                      clear BK169
                      clear HB
                      have BK169 := n0_
                      have HB := n1_
                      clear n0_ n1_
                      (try clear hb)
                      (try clear hb2)
                      (try clear hk)
                      (try clear hi)
                      refine hK.out _ _ ⟨(blk_cell BK169.out 0).trans rfl, (blk_cell BK169.out 1).trans rfl, (blk_cell BK169.out 2).trans rfl, (blk_cell BK169.out 3).trans rfl, (blk_cell BK169.out 4).trans rfl, (blk_cell BK169.out 5).trans rfl, (blk_cell BK169.out 6).trans rfl, (blk_cell BK169.out 7).trans rfl, (blk_cell BK169.out 8).trans rfl, (blk_cell BK169.out 9).trans rfl, (blk_cell BK169.out 10).trans rfl⟩ (fun hHeld => ?_)
                      clear hK K
                      refine norm_ (a' := ?_) ?_ ?_
                      rotate_left
                      · show Act.put _ (some 80) _ = _
                        simp only [Act.put, List.setIfInBounds_toArray, List.set_cons_zero, List.set_cons_succ, i64_w, i32_w]
                        rfl
                      refine one_ (i := 7) (N := some 84) #[true, true, true, true, true, true, true, true, false, false, false] rfl rfl (one_of HT_.out (by kernel_rfl)) (by decide) (fun K hK => ?_)
                      refine goes_ Try.func29 (by kernel_rfl) rfl #[.int .i64 (l0_9.length : Int)] (by rfl) rfl rfl (by (try simp only [List.map_toArray, List.map_cons, List.map_nil]); first | done | rfl | (simp only [List.length_drop, List.length_take]; rfl)) ?_
                      with_reducible refine (careenref04_small.calls (l0_9.length : Int) t182 _ A68.out).mono ?_
                      rintro e w73 ⟨rfl, hb⟩
                      refine ⟨_, rfl, ?_⟩
                      have n0_ := Aside0.mk (blk_below (g := gb169) (o := .cells #[.int .i64 a0_0, .int .i64 a0_1, .int .i64 a0_2, .int .i64 a0_3, .int .i64 a0_4, .int .i64 a0_5, .int .i64 a0_6, .string a0_7, .string a0_8, .slice A0_9 l0_9.length c0_9, .slice A0_10 l0_10.length c0_10] 25 (0, 0)) (by (with_reducible repeat (first | refine blk_drewN ?_ _ | refine blk_drew ?_ | refine blk_alloc ?_ _)); exact BK169.out) hb)
                      have n1_ := Aside0.mk (below_step (by repeat (first | (with_reducible first | exact HB.out | apply below_alloc | apply pw_below_drewN | apply below_drew1 | refine below_set ?_ GE169.out) | exact HB.out)) hb)
                      clear BK169
                      clear HB
                      have BK169 := n0_
                      have HB := n1_
                      clear n0_ n1_
                      (try clear hb)
                      (try clear hb2)
                      (try clear hk)
                      (try clear hi)
                      refine hK.out _ _ ⟨(blk_cell BK169.out 0).trans rfl, (blk_cell BK169.out 1).trans rfl, (blk_cell BK169.out 2).trans rfl, (blk_cell BK169.out 3).trans rfl, (blk_cell BK169.out 4).trans rfl, (blk_cell BK169.out 5).trans rfl, (blk_cell BK169.out 6).trans rfl, (blk_cell BK169.out 7).trans rfl, (blk_cell BK169.out 8).trans rfl, (blk_cell BK169.out 9).trans rfl, (blk_cell BK169.out 10).trans rfl⟩ (fun hHeld => ?_)
                      clear hK K
                      refine norm_ (a' := ?_) ?_ ?_
                      rotate_left
                      · show Act.put _ (some 84) _ = _
                        simp only [Act.put, List.setIfInBounds_toArray, List.set_cons_zero, List.set_cons_succ, i64_w, i32_w]
                        rfl
                      refine pure_ (i := 8) (N := some 85) (v := ?_) (a' := ?_) #[true, true, true, true, true, true, true, true, true, false, false] rfl rfl (any_of HT_.out (by kernel_rfl)) (fun _ _ _ h => h) (Or.inl ⟨by rfl, ?_⟩) ?_ ?_
                      rotate_left
                      · intro w'
                        go_simp
                        with_reducible rfl
                      rotate_left
                      · simp only [Act.put, List.setIfInBounds_toArray, List.set_cons_zero, List.set_cons_succ, i64_w, i32_w]
                        rfl
                      refine pure_ (i := 9) (N := some 86) (v := ?_) (a' := ?_) #[true, true, true, true, true, true, true, true, true, true, false] rfl rfl (any_of HT_.out (by kernel_rfl)) (fun _ _ _ h => h) (Or.inl ⟨by rfl, ?_⟩) ?_ ?_
                      rotate_left
                      · intro w'
                        go_simp
                        with_reducible rfl
                      rotate_left
                      · simp only [Act.put, List.setIfInBounds_toArray, List.set_cons_zero, List.set_cons_succ, i64_w, i32_w]
                        rfl
                      refine pure_ (i := 10) (N := some 3) (v := ?_) (a' := ?_) #[true, true, true, true, true, true, true, true, true, true, true] rfl rfl (any_of HT_.out (by kernel_rfl)) (fun _ _ _ h => h) (Or.inl ⟨by rfl, ?_⟩) ?_ ?_
                      rotate_left
                      · intro w'
                        go_simp
                        with_reducible rfl
                      rotate_left
                      · simp only [Act.put, List.setIfInBounds_toArray, List.set_cons_zero, List.set_cons_succ, i64_w, i32_w]
                        rfl
                      refine done_ (done_of HT_.out (by kernel_rfl)) ?_
                      try go_wp2
                      go_loopg [3, 5] kj47 (fun kq v3 v5 w' => ∃ (x3_2 : ByteArray) (x5_2 : Int), v3 = .string x3_2 ∧ v5 = .int .i64 x5_2 ∧ Aside0 (careenref04_Print.l0 kq x3_2 x5_2 a0_0 a0_1 a0_2 a0_3 a0_4 a0_5 a0_6 a0_7 a0_8 l0_9 l0_10 = some r) ∧ Aside0 (kq ≤ kj47) ∧ Aside0 (w'.heap[gb169]? = some (.cells #[.int .i64 a0_0, .int .i64 a0_1, .int .i64 a0_2, .int .i64 a0_3, .int .i64 a0_4, .int .i64 a0_5, .int .i64 a0_6, .string a0_7, .string a0_8, (.slice A0_9 l0_9.length c0_9), (.slice A0_10 l0_10.length c0_10)] 25 (0, 0))) ∧ Aside0 (Below w.heap.size w w'))
                      case atStart => exact ⟨(t170 ++ (t181 ++ t182)), (0), (by first | rfl | (simp; done) | (simp [*]; done)), (by first | rfl | (simp; done) | (simp [*]; done)), H', ⟨Nat.le_refl _⟩, ⟨by (with_reducible repeat (first | refine blk_drewN ?_ _ | refine blk_drew ?_ | refine blk_alloc ?_ _)); exact BK169.out⟩, ⟨by repeat (first | (with_reducible first | exact HB.out | apply below_alloc | apply pw_below_drewN | apply below_drew1 | refine below_set ?_ GE169.out) | exact HB.out)⟩⟩
                      case round =>
                        clear H'
                        try clear c1
                        try clear c2
                        try clear p2
                        try clear c3
                        try clear c5
                        try clear c6
                        try clear c7
                        try clear c15
                        try clear c27
                        try clear c27b0
                        try clear c27b1
                        try clear c29
                        try clear c30
                        try clear c31
                        try clear c33
                        try clear c34
                        try clear c35
                        try clear c57
                        try clear c57b0
                        try clear c57b1
                        try clear c58
                        try clear c60
                        try clear c60b0
                        try clear c60b1
                        try clear c60b2
                        try clear c62
                        try clear c62b0
                        try clear c62b1
                        try clear c62b2
                        try clear c66
                        try clear c66b0
                        try clear c66b1
                        try clear c69
                        try clear c69b0
                        try clear c69b1
                        try clear c69b2
                        try clear c70
                        try clear c70b0
                        try clear c70b1
                        try clear c70b2
                        try clear hcz43_0
                        try clear hcz43_1
                        try clear hcz43_10
                        try clear hcz43_2
                        try clear hcz43_3
                        try clear hcz43_4
                        try clear hcz43_5
                        try clear hcz43_6
                        try clear hcz43_7
                        try clear hcz43_8
                        try clear hcz43_9
                        try clear hcz50_0
                        try clear hcz50_1
                        try clear hcz50_10
                        try clear hcz50_2
                        try clear hcz50_3
                        try clear hcz50_4
                        try clear hcz50_5
                        try clear hcz50_6
                        try clear hcz50_7
                        try clear hcz50_8
                        try clear hcz50_9
                        try clear hcz56_0
                        try clear hcz56_1
                        try clear hcz56_10
                        try clear hcz56_2
                        try clear hcz56_3
                        try clear hcz56_4
                        try clear hcz56_5
                        try clear hcz56_6
                        try clear hcz56_7
                        try clear hcz56_8
                        try clear hcz56_9
                        try clear hfz43_0
                        try clear hfz43_1
                        try clear hfz43_10
                        try clear hfz43_2
                        try clear hfz43_3
                        try clear hfz43_4
                        try clear hfz43_5
                        try clear hfz43_6
                        try clear hfz43_7
                        try clear hfz43_8
                        try clear hfz43_9
                        try clear hfz50_0
                        try clear hfz50_1
                        try clear hfz50_10
                        try clear hfz50_2
                        try clear hfz50_3
                        try clear hfz50_4
                        try clear hfz50_5
                        try clear hfz50_6
                        try clear hfz50_7
                        try clear hfz50_8
                        try clear hfz50_9
                        try clear hfz56_0
                        try clear hfz56_1
                        try clear hfz56_10
                        try clear hfz56_2
                        try clear hfz56_3
                        try clear hfz56_4
                        try clear hfz56_5
                        try clear hfz56_6
                        try clear hfz56_7
                        try clear hfz56_8
                        try clear hfz56_9
                        try clear p2
                        obtain ⟨x3_2, x5_2, rfl, rfl, HA, HK2, BK169, HB⟩ := hrel
                        cases gk with
                        | zero => exact nomatch (show none = some _ from HA.out)
                        | succ k2 =>
                          have H := HA.out
                          clear HA
                          simp only [careenref04_Print.l0] at H
                          by_cases c74 : x5_2 < (l0_9.length : Int)
                          · rw [if_pos c74] at H
                            have c74b0 : decide (x5_2 < (l0_9.length : Int)) = true := decide_eq_true c74
                            clear c74
                            by_cases c75 : 0 ≤ x5_2
                            · rw [if_pos c75] at H
                              have c75b0 : decide (0 ≤ x5_2) = true := decide_eq_true c75
                              clear c75
                              replace H := Option.bind_eq_some_iff.mp H
                              obtain ⟨t184, A760, H⟩ := H
                              replace H : ((careenref04_four.f ((rd_T66 l0_9 x5_2).f1)).bind fun t186 => (if t184.size + t186.size ≤ 9223372036854775807 then ((careenref04_four.f ((rd_T66 l0_9 x5_2).f2)).bind fun t188 => (if (t184 ++ t186).size + t188.size ≤ 9223372036854775807 then (if x3_2.size + ((t184 ++ t186) ++ t188).size ≤ 9223372036854775807 then (careenref04_Print.l0 k2 (x3_2 ++ ((t184 ++ t186) ++ t188)) (wrap64 (x5_2 + 1)) a0_0 a0_1 a0_2 a0_3 a0_4 a0_5 a0_6 a0_7 a0_8 l0_9 l0_10) else (none)) else (none))) else (none))) = some r := H
                              have A76 := Aside0.mk A760
                              clear A760
                              replace H := Option.bind_eq_some_iff.mp H
                              obtain ⟨t186, A770, H⟩ := H
                              replace H : (if t184.size + t186.size ≤ 9223372036854775807 then ((careenref04_four.f ((rd_T66 l0_9 x5_2).f2)).bind fun t188 => (if (t184 ++ t186).size + t188.size ≤ 9223372036854775807 then (if x3_2.size + ((t184 ++ t186) ++ t188).size ≤ 9223372036854775807 then (careenref04_Print.l0 k2 (x3_2 ++ ((t184 ++ t186) ++ t188)) (wrap64 (x5_2 + 1)) a0_0 a0_1 a0_2 a0_3 a0_4 a0_5 a0_6 a0_7 a0_8 l0_9 l0_10) else (none)) else (none))) else (none)) = some r := H
                              have A77 := Aside0.mk A770
                              clear A770
                              by_cases c78 : t184.size + t186.size ≤ 9223372036854775807
                              · rw [if_pos c78] at H
                                have c78b0 := eq_true c78
                                have c78b1 : decide (t184.size + t186.size ≤ 9223372036854775807) = true := decide_eq_true c78
                                try have c78b2 : (9223372036854775807 < t184.size + t186.size) = False := eq_false (Nat.not_lt.2 c78)
                                replace H := Option.bind_eq_some_iff.mp H
                                obtain ⟨t188, A790, H⟩ := H
                                replace H : (if (t184 ++ t186).size + t188.size ≤ 9223372036854775807 then (if x3_2.size + ((t184 ++ t186) ++ t188).size ≤ 9223372036854775807 then (careenref04_Print.l0 k2 (x3_2 ++ ((t184 ++ t186) ++ t188)) (wrap64 (x5_2 + 1)) a0_0 a0_1 a0_2 a0_3 a0_4 a0_5 a0_6 a0_7 a0_8 l0_9 l0_10) else (none)) else (none)) = some r := H
                                have A79 := Aside0.mk A790
                                clear A790
                                by_cases c80 : (t184 ++ t186).size + t188.size ≤ 9223372036854775807
                                · rw [if_pos c80] at H
                                  have c80b0 := eq_true c80
                                  have c80b1 : decide ((t184 ++ t186).size + t188.size ≤ 9223372036854775807) = true := decide_eq_true c80
                                  try have c80b2 : (9223372036854775807 < (t184 ++ t186).size + t188.size) = False := eq_false (Nat.not_lt.2 c80)
                                  try have c80b3 := c80b2
                                  try simp only [ByteArray.size_append] at c80b3
                                  by_cases c81 : x3_2.size + ((t184 ++ t186) ++ t188).size ≤ 9223372036854775807
                                  · rw [if_pos c81] at H
                                    have c81b0 := eq_true c81
                                    have c81b1 : decide (x3_2.size + ((t184 ++ t186) ++ t188).size ≤ 9223372036854775807) = true := decide_eq_true c81
                                    try have c81b2 : (9223372036854775807 < x3_2.size + ((t184 ++ t186) ++ t188).size) = False := eq_false (Nat.not_lt.2 c81)
                                    try have c81b3 := c81b2
                                    try simp only [ByteArray.size_append] at c81b3
                                    have H' := Aside0.mk H
                                    clear H
                                    have hcz82_0 : wr.cell? ⟨gb169, 0, none⟩ = some (.int .i64 a0_0) := (blk_cell BK169.out 0).trans rfl
                                    have hcz82_1 : wr.cell? ⟨gb169, 1, none⟩ = some (.int .i64 a0_1) := (blk_cell BK169.out 1).trans rfl
                                    have hcz82_2 : wr.cell? ⟨gb169, 2, none⟩ = some (.int .i64 a0_2) := (blk_cell BK169.out 2).trans rfl
                                    have hcz82_3 : wr.cell? ⟨gb169, 3, none⟩ = some (.int .i64 a0_3) := (blk_cell BK169.out 3).trans rfl
                                    have hcz82_4 : wr.cell? ⟨gb169, 4, none⟩ = some (.int .i64 a0_4) := (blk_cell BK169.out 4).trans rfl
                                    have hcz82_5 : wr.cell? ⟨gb169, 5, none⟩ = some (.int .i64 a0_5) := (blk_cell BK169.out 5).trans rfl
                                    have hcz82_6 : wr.cell? ⟨gb169, 6, none⟩ = some (.int .i64 a0_6) := (blk_cell BK169.out 6).trans rfl
                                    have hcz82_7 : wr.cell? ⟨gb169, 7, none⟩ = some (.string a0_7) := (blk_cell BK169.out 7).trans rfl
                                    have hcz82_8 : wr.cell? ⟨gb169, 8, none⟩ = some (.string a0_8) := (blk_cell BK169.out 8).trans rfl
                                    have hcz82_9 : wr.cell? ⟨gb169, 9, none⟩ = some (.slice A0_9 l0_9.length c0_9) := (blk_cell BK169.out 9).trans rfl
                                    have hcz82_10 : wr.cell? ⟨gb169, 10, none⟩ = some (.slice A0_10 l0_10.length c0_10) := (blk_cell BK169.out 10).trans rfl
                                    have hfz82_0 := blk_frozen BK169.out 0
                                    have hfz82_1 := blk_frozen BK169.out 1
                                    have hfz82_2 := blk_frozen BK169.out 2
                                    have hfz82_3 := blk_frozen BK169.out 3
                                    have hfz82_4 := blk_frozen BK169.out 4
                                    have hfz82_5 := blk_frozen BK169.out 5
                                    have hfz82_6 := blk_frozen BK169.out 6
                                    have hfz82_7 := blk_frozen BK169.out 7
                                    have hfz82_8 := blk_frozen BK169.out 8
                                    have hfz82_9 := blk_frozen BK169.out 9
                                    have hfz82_10 := blk_frozen BK169.out 10
                                    try go_wp2
                                    have n0_ := Aside0.mk (blk_drew BK169.out)
                                    have n1_ := Aside0.mk (below_drew1 HB.out)
                                    clear BK169
                                    clear HB
                                    have BK169 := n0_
                                    have HB := n1_
                                    clear n0_ n1_
                                    have p183 : 0 ≤ (x5_2 : Int) := of_decide_eq_true (by first | (with_reducible assumption) | assumption)
                                    have q183 : x5_2 < (l0_9.length : Int) := of_decide_eq_true (by first | (with_reducible assumption) | assumption)
                                    obtain ⟨ad183, e183, hx183_0, hx183_1, hx183_2⟩ := at_T66 HR0_9.out x5_2 p183 q183
                                    have hw183_2 := hx183_2
                                    have hw183_1 := hx183_1
                                    have hw183_0 := hx183_0
                                    cases e183
                                    replace hx183_0 := (HB.out.cell (World.block_lt_of_cell? w _ hx183_0)).trans hx183_0
                                    replace hx183_1 := (HB.out.cell (World.block_lt_of_cell? w _ hx183_1)).trans hx183_1
                                    replace hx183_2 := (HB.out.cell (World.block_lt_of_cell? w _ hx183_2)).trans hx183_2
                                    replace p183 := eq_true p183
                                    replace q183 := eq_true q183
                                    have p185 : 0 ≤ (x5_2 : Int) := of_decide_eq_true (by first | (with_reducible assumption) | assumption)
                                    have q185 : x5_2 < (l0_9.length : Int) := of_decide_eq_true (by first | (with_reducible assumption) | assumption)
                                    obtain ⟨ad185, e185, hx185_0, hx185_1, hx185_2⟩ := at_T66 HR0_9.out x5_2 p185 q185
                                    have hw185_2 := hx185_2
                                    have hw185_1 := hx185_1
                                    have hw185_0 := hx185_0
                                    obtain rfl : ad183 = ad185 := (by injection e185)
                                    replace hx185_0 := (HB.out.cell (World.block_lt_of_cell? w _ hx185_0)).trans hx185_0
                                    replace hx185_1 := (HB.out.cell (World.block_lt_of_cell? w _ hx185_1)).trans hx185_1
                                    replace hx185_2 := (HB.out.cell (World.block_lt_of_cell? w _ hx185_2)).trans hx185_2
                                    replace p185 := eq_true p185
                                    replace q185 := eq_true q185
                                    have p187 : 0 ≤ (x5_2 : Int) := of_decide_eq_true (by first | (with_reducible assumption) | assumption)
                                    have q187 : x5_2 < (l0_9.length : Int) := of_decide_eq_true (by first | (with_reducible assumption) | assumption)
                                    obtain ⟨ad187, e187, hx187_0, hx187_1, hx187_2⟩ := at_T66 HR0_9.out x5_2 p187 q187
                                    have hw187_2 := hx187_2
                                    have hw187_1 := hx187_1
                                    have hw187_0 := hx187_0
                                    obtain rfl : ad183 = ad187 := (by injection e187)
                                    replace hx187_0 := (HB.out.cell (World.block_lt_of_cell? w _ hx187_0)).trans hx187_0
                                    replace hx187_1 := (HB.out.cell (World.block_lt_of_cell? w _ hx187_1)).trans hx187_1
                                    replace hx187_2 := (HB.out.cell (World.block_lt_of_cell? w _ hx187_2)).trans hx187_2
                                    replace p187 := eq_true p187
                                    replace q187 := eq_true q187
                                    refine start_ (n := 26) (S := fun w' => w'.cell? ⟨gb169, 0, none⟩ = some (.int .i64 a0_0) ∧ w'.cell? ⟨gb169, 1, none⟩ = some (.int .i64 a0_1) ∧ w'.cell? ⟨gb169, 2, none⟩ = some (.int .i64 a0_2) ∧ w'.cell? ⟨gb169, 3, none⟩ = some (.int .i64 a0_3) ∧ w'.cell? ⟨gb169, 4, none⟩ = some (.int .i64 a0_4) ∧ w'.cell? ⟨gb169, 5, none⟩ = some (.int .i64 a0_5) ∧ w'.cell? ⟨gb169, 6, none⟩ = some (.int .i64 a0_6) ∧ w'.cell? ⟨gb169, 7, none⟩ = some (.string a0_7) ∧ w'.cell? ⟨gb169, 8, none⟩ = some (.string a0_8) ∧ w'.cell? ⟨gb169, 9, none⟩ = some (.slice (some ad183) l0_9.length c0_9) ∧ w'.cell? ⟨gb169, 10, none⟩ = some (.slice A0_10 l0_10.length c0_10) ∧ w'.cell? (ad183.add ((x5_2).toNat * 3)) = some (.int .i64 ((rd_T66 l0_9 x5_2).f0)) ∧ w'.cell? ⟨(ad183.add ((x5_2).toNat * 3)).block, (ad183.add ((x5_2).toNat * 3)).off + 1, none⟩ = some (.int .i64 ((rd_T66 l0_9 x5_2).f1)) ∧ w'.cell? ⟨(ad183.add ((x5_2).toNat * 3)).block, (ad183.add ((x5_2).toNat * 3)).off + 2, none⟩ = some (.int .i64 ((rd_T66 l0_9 x5_2).f2)) ∧ w'.cell? (ad183.add ((x5_2).toNat * 3)) = some (.int .i64 ((rd_T66 l0_9 x5_2).f0)) ∧ w'.cell? ⟨(ad183.add ((x5_2).toNat * 3)).block, (ad183.add ((x5_2).toNat * 3)).off + 1, none⟩ = some (.int .i64 ((rd_T66 l0_9 x5_2).f1)) ∧ w'.cell? ⟨(ad183.add ((x5_2).toNat * 3)).block, (ad183.add ((x5_2).toNat * 3)).off + 2, none⟩ = some (.int .i64 ((rd_T66 l0_9 x5_2).f2)) ∧ w'.cell? (ad183.add ((x5_2).toNat * 3)) = some (.int .i64 ((rd_T66 l0_9 x5_2).f0)) ∧ w'.cell? ⟨(ad183.add ((x5_2).toNat * 3)).block, (ad183.add ((x5_2).toNat * 3)).off + 1, none⟩ = some (.int .i64 ((rd_T66 l0_9 x5_2).f1)) ∧ w'.cell? ⟨(ad183.add ((x5_2).toNat * 3)).block, (ad183.add ((x5_2).toNat * 3)).off + 2, none⟩ = some (.int .i64 ((rd_T66 l0_9 x5_2).f2))) (ds := []) #[false, false, false, false, false, false, false, false, false, false, false, false, false, false, false, false, false, false, false, false, false, false, false, false, false, false] (by kernel_rfl) rfl rfl ⟨(blk_cell BK169.out 0).trans rfl, (blk_cell BK169.out 1).trans rfl, (blk_cell BK169.out 2).trans rfl, (blk_cell BK169.out 3).trans rfl, (blk_cell BK169.out 4).trans rfl, (blk_cell BK169.out 5).trans rfl, (blk_cell BK169.out 6).trans rfl, (blk_cell BK169.out 7).trans rfl, (blk_cell BK169.out 8).trans rfl, (blk_cell BK169.out 9).trans rfl, (blk_cell BK169.out 10).trans rfl, ((HB.out.cell (World.block_lt_of_cell? w _ hw183_0)).trans hw183_0), ((HB.out.cell (World.block_lt_of_cell? w _ hw183_1)).trans hw183_1), ((HB.out.cell (World.block_lt_of_cell? w _ hw183_2)).trans hw183_2), ((HB.out.cell (World.block_lt_of_cell? w _ hw185_0)).trans hw185_0), ((HB.out.cell (World.block_lt_of_cell? w _ hw185_1)).trans hw185_1), ((HB.out.cell (World.block_lt_of_cell? w _ hw185_2)).trans hw185_2), ((HB.out.cell (World.block_lt_of_cell? w _ hw187_0)).trans hw187_0), ((HB.out.cell (World.block_lt_of_cell? w _ hw187_1)).trans hw187_1), ((HB.out.cell (World.block_lt_of_cell? w _ hw187_2)).trans hw187_2)⟩ (fun hHeld => ?_); refine with_tabW careenref04_Print.tab16 careenref04_Print.bits16 (fun HT_ HW_ => ?_)
                                    generalize wr.drew = w83 at BK169 HB hx183_0 hx183_1 hx183_2 hx185_0 hx185_1 hx185_2 hx187_0 hx187_1 hx187_2 hHeld ⊢
                                    refine pure_ (i := 0) (N := some 94) (v := ?_) (a' := ?_) #[true, false, false, false, false, false, false, false, false, false, false, false, false, false, false, false, false, false, false, false, false, false, false, false, false, false] rfl rfl (any_of HT_.out (by kernel_rfl)) (fun _ _ _ h => h) (Or.inl ⟨by rfl, ?_⟩) ?_ ?_
                                    rotate_left
                                    · intro w'
                                      go_simp
                                      with_reducible rfl
                                    rotate_left
                                    · simp only [Act.put, List.setIfInBounds_toArray, List.set_cons_zero, List.set_cons_succ, i64_w, i32_w]
                                      rfl
                                    refine pure_ (i := 1) (N := some 95) (v := ?_) (a' := ?_) #[true, true, false, false, false, false, false, false, false, false, false, false, false, false, false, false, false, false, false, false, false, false, false, false, false, false] rfl rfl (any_of HT_.out (by kernel_rfl)) (fun _ _ _ h => h) (Or.inl ⟨by rfl, ?_⟩) ?_ ?_
                                    rotate_left
                                    · intro w'
                                      go_simp
                                      with_reducible rfl
                                    rotate_left
                                    · simp only [Act.put, List.setIfInBounds_toArray, List.set_cons_zero, List.set_cons_succ, i64_w, i32_w]
                                      rfl
                                    refine pure_ (i := 3) (N := some 97) (v := ?_) (a' := ?_) #[true, true, false, true, false, false, false, false, false, false, false, false, false, false, false, false, false, false, false, false, false, false, false, false, false, false] rfl rfl (any_of HT_.out (by kernel_rfl)) (fun _ _ _ h => h) (Or.inl ⟨by rfl, ?_⟩) ?_ ?_
                                    rotate_left
                                    · intro w'
                                      go_simp
                                      with_reducible rfl
                                    rotate_left
                                    · simp only [Act.put, List.setIfInBounds_toArray, List.set_cons_zero, List.set_cons_succ, i64_w, i32_w]
                                      rfl
                                    refine pure_ (i := 8) (N := some 102) (v := ?_) (a' := ?_) #[true, true, false, true, false, false, false, false, true, false, false, false, false, false, false, false, false, false, false, false, false, false, false, false, false, false] rfl rfl (any_of HT_.out (by kernel_rfl)) (fun _ _ _ h => h) (Or.inl ⟨by rfl, ?_⟩) ?_ ?_
                                    rotate_left
                                    · intro w'
                                      go_simp
                                      with_reducible rfl
                                    rotate_left
                                    · simp only [Act.put, List.setIfInBounds_toArray, List.set_cons_zero, List.set_cons_succ, i64_w, i32_w]
                                      rfl
                                    refine pure_ (i := 10) (N := some 104) (v := ?_) (a' := ?_) #[true, true, false, true, false, false, false, false, true, false, true, false, false, false, false, false, false, false, false, false, false, false, false, false, false, false] rfl rfl (any_of HT_.out (by kernel_rfl)) (fun _ _ _ h => h) (Or.inl ⟨by rfl, ?_⟩) ?_ ?_
                                    rotate_left
                                    · intro w'
                                      go_simp
                                      with_reducible rfl
                                    rotate_left
                                    · simp only [Act.put, List.setIfInBounds_toArray, List.set_cons_zero, List.set_cons_succ, i64_w, i32_w]
                                      rfl
                                    refine pure_ (i := 16) (N := some 110) (v := ?_) (a' := ?_) #[true, true, false, true, false, false, false, false, true, false, true, false, false, false, false, false, true, false, false, false, false, false, false, false, false, false] rfl rfl (any_of HT_.out (by kernel_rfl)) (fun _ _ _ h => h) (Or.inl ⟨by rfl, ?_⟩) ?_ ?_
                                    rotate_left
                                    · intro w'
                                      go_simp
                                      with_reducible rfl
                                    rotate_left
                                    · simp only [Act.put, List.setIfInBounds_toArray, List.set_cons_zero, List.set_cons_succ, i64_w, i32_w]
                                      rfl
                                    refine pure_ (i := 18) (N := some 112) (v := ?_) (a' := ?_) #[true, true, false, true, false, false, false, false, true, false, true, false, false, false, false, false, true, false, true, false, false, false, false, false, false, false] rfl rfl (any_of HT_.out (by kernel_rfl)) (fun _ _ _ h => h) (Or.inl ⟨by rfl, ?_⟩) ?_ ?_
                                    rotate_left
                                    · intro w'
                                      go_simp
                                      with_reducible rfl
                                    rotate_left
                                    · simp only [Act.put, List.setIfInBounds_toArray, List.set_cons_zero, List.set_cons_succ, i64_w, i32_w]
                                      rfl
                                    refine take_ (i := 2) (N := some 96) (v := ?_) (a' := ?_) #[true, true, true, true, false, false, false, false, true, false, true, false, false, false, false, false, true, false, true, false, false, false, false, false, false, false] rfl rfl (take_ofW HT_.out HW_.out (by kernel_rfl)) (fun _ _ _ h => h) (Or.inl ⟨by rfl, ?_⟩) hHeld ?_ ?_
                                    rotate_left
                                    · rintro w' ⟨s0, s1, s2, s3, s4, s5, s6, s7, s8, s9, s10, s11, s12, s13, s14, s15, s16, s17, s18, s19⟩
                                      go_simp
                                      with_reducible rfl
                                    rotate_left
                                    · simp only [Act.put, List.setIfInBounds_toArray, List.set_cons_zero, List.set_cons_succ, i64_w, i32_w]
                                      rfl
                                    refine pure_ (i := 4) (N := some 98) (v := ?_) (a' := ?_) #[true, true, true, true, true, false, false, false, true, false, true, false, false, false, false, false, true, false, true, false, false, false, false, false, false, false] rfl rfl (any_of HT_.out (by kernel_rfl)) (fun _ _ _ h => h) (Or.inl ⟨by rfl, ?_⟩) ?_ ?_
                                    rotate_left
                                    · intro w'
                                      go_simp
                                      with_reducible rfl
                                    rotate_left
                                    · simp only [Act.put, List.setIfInBounds_toArray, List.set_cons_zero, List.set_cons_succ, i64_w, i32_w]
                                      rfl
                                    refine pure_ (i := 5) (N := some 99) (v := ?_) (a' := ?_) #[true, true, true, true, true, true, false, false, true, false, true, false, false, false, false, false, true, false, true, false, false, false, false, false, false, false] rfl rfl (any_of HT_.out (by kernel_rfl)) (fun _ _ _ h => h) (Or.inl ⟨by rfl, ?_⟩) ?_ ?_
                                    rotate_left
                                    · intro w'
                                      go_simp
                                      with_reducible rfl
                                    rotate_left
                                    · simp only [Act.put, List.setIfInBounds_toArray, List.set_cons_zero, List.set_cons_succ, i64_w, i32_w]
                                      rfl
                                    refine take_ (i := 6) (N := some 100) (v := ?_) (a' := ?_) #[true, true, true, true, true, true, true, false, true, false, true, false, false, false, false, false, true, false, true, false, false, false, false, false, false, false] rfl rfl (take_ofW HT_.out HW_.out (by kernel_rfl)) (fun _ _ _ h => h) (Or.inl ⟨by rfl, ?_⟩) hHeld ?_ ?_
                                    rotate_left
                                    · rintro w' ⟨s0, s1, s2, s3, s4, s5, s6, s7, s8, s9, s10, s11, s12, s13, s14, s15, s16, s17, s18, s19⟩
                                      go_simp
                                      with_reducible rfl
                                    rotate_left
                                    · simp only [Act.put, List.setIfInBounds_toArray, List.set_cons_zero, List.set_cons_succ, i64_w, i32_w]
                                      rfl
                                    refine take_ (i := 9) (N := some 103) (v := ?_) (a' := ?_) #[true, true, true, true, true, true, true, false, true, true, true, false, false, false, false, false, true, false, true, false, false, false, false, false, false, false] rfl rfl (take_ofW HT_.out HW_.out (by kernel_rfl)) (fun _ _ _ h => h) (Or.inl ⟨by rfl, ?_⟩) hHeld ?_ ?_
                                    rotate_left
                                    · rintro w' ⟨s0, s1, s2, s3, s4, s5, s6, s7, s8, s9, s10, s11, s12, s13, s14, s15, s16, s17, s18, s19⟩
                                      go_simp
                                      with_reducible rfl
                                    rotate_left
                                    · simp only [Act.put, List.setIfInBounds_toArray, List.set_cons_zero, List.set_cons_succ, i64_w, i32_w]
                                      rfl
                                    refine pure_ (i := 11) (N := some 105) (v := ?_) (a' := ?_) #[true, true, true, true, true, true, true, false, true, true, true, true, false, false, false, false, true, false, true, false, false, false, false, false, false, false] rfl rfl (any_of HT_.out (by kernel_rfl)) (fun _ _ _ h => h) (Or.inl ⟨by rfl, ?_⟩) ?_ ?_
                                    rotate_left
                                    · intro w'
                                      go_simp
                                      with_reducible rfl
                                    rotate_left
                                    · simp only [Act.put, List.setIfInBounds_toArray, List.set_cons_zero, List.set_cons_succ, i64_w, i32_w]
                                      rfl
                                    refine pure_ (i := 12) (N := some 106) (v := ?_) (a' := ?_) #[true, true, true, true, true, true, true, false, true, true, true, true, true, false, false, false, true, false, true, false, false, false, false, false, false, false] rfl rfl (any_of HT_.out (by kernel_rfl)) (fun _ _ _ h => h) (Or.inl ⟨by rfl, ?_⟩) ?_ ?_
                                    rotate_left
                                    · intro w'
                                      go_simp
                                      with_reducible rfl
                                    rotate_left
                                    · simp only [Act.put, List.setIfInBounds_toArray, List.set_cons_zero, List.set_cons_succ, i64_w, i32_w]
                                      rfl
                                    refine take_ (i := 13) (N := some 107) (v := ?_) (a' := ?_) #[true, true, true, true, true, true, true, false, true, true, true, true, true, true, false, false, true, false, true, false, false, false, false, false, false, false] rfl rfl (take_ofW HT_.out HW_.out (by kernel_rfl)) (fun _ _ _ h => h) (Or.inl ⟨by rfl, ?_⟩) hHeld ?_ ?_
                                    rotate_left
                                    · rintro w' ⟨s0, s1, s2, s3, s4, s5, s6, s7, s8, s9, s10, s11, s12, s13, s14, s15, s16, s17, s18, s19⟩
                                      go_simp
                                      with_reducible rfl
                                    rotate_left
                                    · simp only [Act.put, List.setIfInBounds_toArray, List.set_cons_zero, List.set_cons_succ, i64_w, i32_w]
                                      rfl
                                    refine take_ (i := 17) (N := some 111) (v := ?_) (a' := ?_) #[true, true, true, true, true, true, true, false, true, true, true, true, true, true, false, false, true, true, true, false, false, false, false, false, false, false] rfl rfl (take_ofW HT_.out HW_.out (by kernel_rfl)) (fun _ _ _ h => h) (Or.inl ⟨by rfl, ?_⟩) hHeld ?_ ?_
                                    rotate_left
                                    · rintro w' ⟨s0, s1, s2, s3, s4, s5, s6, s7, s8, s9, s10, s11, s12, s13, s14, s15, s16, s17, s18, s19⟩
                                      go_simp
                                      with_reducible rfl
                                    rotate_left
                                    · simp only [Act.put, List.setIfInBounds_toArray, List.set_cons_zero, List.set_cons_succ, i64_w, i32_w]
                                      rfl
                                    refine pure_ (i := 19) (N := some 113) (v := ?_) (a' := ?_) #[true, true, true, true, true, true, true, false, true, true, true, true, true, true, false, false, true, true, true, true, false, false, false, false, false, false] rfl rfl (any_of HT_.out (by kernel_rfl)) (fun _ _ _ h => h) (Or.inl ⟨by rfl, ?_⟩) ?_ ?_
                                    rotate_left
                                    · intro w'
                                      go_simp
                                      with_reducible rfl
                                    rotate_left
                                    · simp only [Act.put, List.setIfInBounds_toArray, List.set_cons_zero, List.set_cons_succ, i64_w, i32_w]
                                      rfl
                                    refine pure_ (i := 20) (N := some 114) (v := ?_) (a' := ?_) #[true, true, true, true, true, true, true, false, true, true, true, true, true, true, false, false, true, true, true, true, true, false, false, false, false, false] rfl rfl (any_of HT_.out (by kernel_rfl)) (fun _ _ _ h => h) (Or.inl ⟨by rfl, ?_⟩) ?_ ?_
                                    rotate_left
                                    · intro w'
                                      go_simp
                                      with_reducible rfl
                                    rotate_left
                                    · simp only [Act.put, List.setIfInBounds_toArray, List.set_cons_zero, List.set_cons_succ, i64_w, i32_w]
                                      rfl
                                    refine take_ (i := 21) (N := some 115) (v := ?_) (a' := ?_) #[true, true, true, true, true, true, true, false, true, true, true, true, true, true, false, false, true, true, true, true, true, true, false, false, false, false] rfl rfl (take_ofW HT_.out HW_.out (by kernel_rfl)) (fun _ _ _ h => h) (Or.inl ⟨by rfl, ?_⟩) hHeld ?_ ?_
                                    rotate_left
                                    · rintro w' ⟨s0, s1, s2, s3, s4, s5, s6, s7, s8, s9, s10, s11, s12, s13, s14, s15, s16, s17, s18, s19⟩
                                      go_simp
                                      with_reducible rfl
                                    rotate_left
                                    · simp only [Act.put, List.setIfInBounds_toArray, List.set_cons_zero, List.set_cons_succ, i64_w, i32_w]
                                      rfl
                                    refine one_ (i := 7) (N := some 101) #[true, true, true, true, true, true, true, true, true, true, true, true, true, true, false, false, true, true, true, true, true, true, false, false, false, false] rfl rfl (one_of HT_.out (by kernel_rfl)) (by decide) (fun K hK => ?_)
                                    refine goes_ Try.func30 (by kernel_rfl) rfl #[.int .i64 ((rd_T66 l0_9 x5_2).f0)] (by rfl) rfl rfl (by (try simp only [List.map_toArray, List.map_cons, List.map_nil]); first | done | rfl | (simp only [List.length_drop, List.length_take]; rfl)) ?_
                                    with_reducible refine (careenref04_four.calls ((rd_T66 l0_9 x5_2).f0) t184 _ A76.out).mono ?_
                                    rintro e w84 ⟨rfl, hb⟩
                                    refine ⟨_, rfl, ?_⟩
                                    have n0_ := Aside0.mk (blk_below (g := gb169) (o := .cells #[.int .i64 a0_0, .int .i64 a0_1, .int .i64 a0_2, .int .i64 a0_3, .int .i64 a0_4, .int .i64 a0_5, .int .i64 a0_6, .string a0_7, .string a0_8, .slice (some ad183) l0_9.length c0_9, .slice A0_10 l0_10.length c0_10] 25 (0, 0)) (by (with_reducible repeat (first | refine blk_drewN ?_ _ | refine blk_drew ?_ | refine blk_alloc ?_ _)); exact BK169.out) hb)
                                    have n1_ := Aside0.mk (below_step (by repeat (first | (with_reducible first | exact HB.out | apply below_alloc | apply pw_below_drewN | apply below_drew1 | refine below_set ?_ GE169.out) | exact HB.out)) hb)
                                    clear BK169
                                    clear HB
                                    have BK169 := n0_
                                    have HB := n1_
                                    clear n0_ n1_
                                    (try clear hb)
                                    (try clear hb2)
                                    (try clear hk)
                                    (try clear hi)
                                    refine hK.out _ _ ⟨(blk_cell BK169.out 0).trans rfl, (blk_cell BK169.out 1).trans rfl, (blk_cell BK169.out 2).trans rfl, (blk_cell BK169.out 3).trans rfl, (blk_cell BK169.out 4).trans rfl, (blk_cell BK169.out 5).trans rfl, (blk_cell BK169.out 6).trans rfl, (blk_cell BK169.out 7).trans rfl, (blk_cell BK169.out 8).trans rfl, (blk_cell BK169.out 9).trans rfl, (blk_cell BK169.out 10).trans rfl, ((HB.out.cell (World.block_lt_of_cell? w _ hw183_0)).trans hw183_0), ((HB.out.cell (World.block_lt_of_cell? w _ hw183_1)).trans hw183_1), ((HB.out.cell (World.block_lt_of_cell? w _ hw183_2)).trans hw183_2), ((HB.out.cell (World.block_lt_of_cell? w _ hw185_0)).trans hw185_0), ((HB.out.cell (World.block_lt_of_cell? w _ hw185_1)).trans hw185_1), ((HB.out.cell (World.block_lt_of_cell? w _ hw185_2)).trans hw185_2), ((HB.out.cell (World.block_lt_of_cell? w _ hw187_0)).trans hw187_0), ((HB.out.cell (World.block_lt_of_cell? w _ hw187_1)).trans hw187_1), ((HB.out.cell (World.block_lt_of_cell? w _ hw187_2)).trans hw187_2)⟩ (fun hHeld => ?_)
                                    clear hK K
                                    refine norm_ (a' := ?_) ?_ ?_
                                    rotate_left
                                    · show Act.put _ (some 101) _ = _
                                      simp only [Act.put, List.setIfInBounds_toArray, List.set_cons_zero, List.set_cons_succ, i64_w, i32_w]
                                      rfl
                                    refine one_ (i := 14) (N := some 108) #[true, true, true, true, true, true, true, true, true, true, true, true, true, true, true, false, true, true, true, true, true, true, false, false, false, false] rfl rfl (one_of HT_.out (by kernel_rfl)) (by decide) (fun K hK => ?_)
                                    refine goes_ Try.func30 (by kernel_rfl) rfl #[.int .i64 ((rd_T66 l0_9 x5_2).f1)] (by rfl) rfl rfl (by (try simp only [List.map_toArray, List.map_cons, List.map_nil]); first | done | rfl | (simp only [List.length_drop, List.length_take]; rfl)) ?_
                                    with_reducible refine (careenref04_four.calls ((rd_T66 l0_9 x5_2).f1) t186 _ A77.out).mono ?_
                                    rintro e w85 ⟨rfl, hb⟩
                                    refine ⟨_, rfl, ?_⟩
                                    have n0_ := Aside0.mk (blk_below (g := gb169) (o := .cells #[.int .i64 a0_0, .int .i64 a0_1, .int .i64 a0_2, .int .i64 a0_3, .int .i64 a0_4, .int .i64 a0_5, .int .i64 a0_6, .string a0_7, .string a0_8, .slice (some ad183) l0_9.length c0_9, .slice A0_10 l0_10.length c0_10] 25 (0, 0)) (by (with_reducible repeat (first | refine blk_drewN ?_ _ | refine blk_drew ?_ | refine blk_alloc ?_ _)); exact BK169.out) hb)
                                    have n1_ := Aside0.mk (below_step (by repeat (first | (with_reducible first | exact HB.out | apply below_alloc | apply pw_below_drewN | apply below_drew1 | refine below_set ?_ GE169.out) | exact HB.out)) hb)
                                    clear BK169
                                    clear HB
                                    have BK169 := n0_
                                    have HB := n1_
                                    clear n0_ n1_
                                    (try clear hb)
                                    (try clear hb2)
                                    (try clear hk)
                                    (try clear hi)
                                    refine hK.out _ _ ⟨(blk_cell BK169.out 0).trans rfl, (blk_cell BK169.out 1).trans rfl, (blk_cell BK169.out 2).trans rfl, (blk_cell BK169.out 3).trans rfl, (blk_cell BK169.out 4).trans rfl, (blk_cell BK169.out 5).trans rfl, (blk_cell BK169.out 6).trans rfl, (blk_cell BK169.out 7).trans rfl, (blk_cell BK169.out 8).trans rfl, (blk_cell BK169.out 9).trans rfl, (blk_cell BK169.out 10).trans rfl, ((HB.out.cell (World.block_lt_of_cell? w _ hw183_0)).trans hw183_0), ((HB.out.cell (World.block_lt_of_cell? w _ hw183_1)).trans hw183_1), ((HB.out.cell (World.block_lt_of_cell? w _ hw183_2)).trans hw183_2), ((HB.out.cell (World.block_lt_of_cell? w _ hw185_0)).trans hw185_0), ((HB.out.cell (World.block_lt_of_cell? w _ hw185_1)).trans hw185_1), ((HB.out.cell (World.block_lt_of_cell? w _ hw185_2)).trans hw185_2), ((HB.out.cell (World.block_lt_of_cell? w _ hw187_0)).trans hw187_0), ((HB.out.cell (World.block_lt_of_cell? w _ hw187_1)).trans hw187_1), ((HB.out.cell (World.block_lt_of_cell? w _ hw187_2)).trans hw187_2)⟩ (fun hHeld => ?_)
                                    clear hK K
                                    refine norm_ (a' := ?_) ?_ ?_
                                    rotate_left
                                    · show Act.put _ (some 108) _ = _
                                      simp only [Act.put, List.setIfInBounds_toArray, List.set_cons_zero, List.set_cons_succ, i64_w, i32_w]
                                      rfl
                                    refine pure_ (i := 15) (N := some 109) (v := ?_) (a' := ?_) #[true, true, true, true, true, true, true, true, true, true, true, true, true, true, true, true, true, true, true, true, true, true, false, false, false, false] rfl rfl (any_of HT_.out (by kernel_rfl)) (fun _ _ _ h => h) (Or.inl ⟨by rfl, ?_⟩) ?_ ?_
                                    rotate_left
                                    · intro w'
                                      go_simp
                                      with_reducible rfl
                                    rotate_left
                                    · simp only [Act.put, List.setIfInBounds_toArray, List.set_cons_zero, List.set_cons_succ, i64_w, i32_w]
                                      rfl
                                    refine one_ (i := 22) (N := some 116) #[true, true, true, true, true, true, true, true, true, true, true, true, true, true, true, true, true, true, true, true, true, true, true, false, false, false] rfl rfl (one_of HT_.out (by kernel_rfl)) (by decide) (fun K hK => ?_)
                                    refine goes_ Try.func30 (by kernel_rfl) rfl #[.int .i64 ((rd_T66 l0_9 x5_2).f2)] (by rfl) rfl rfl (by (try simp only [List.map_toArray, List.map_cons, List.map_nil]); first | done | rfl | (simp only [List.length_drop, List.length_take]; rfl)) ?_
                                    with_reducible refine (careenref04_four.calls ((rd_T66 l0_9 x5_2).f2) t188 _ A79.out).mono ?_
                                    rintro e w86 ⟨rfl, hb⟩
                                    refine ⟨_, rfl, ?_⟩
                                    have n0_ := Aside0.mk (blk_below (g := gb169) (o := .cells #[.int .i64 a0_0, .int .i64 a0_1, .int .i64 a0_2, .int .i64 a0_3, .int .i64 a0_4, .int .i64 a0_5, .int .i64 a0_6, .string a0_7, .string a0_8, .slice (some ad183) l0_9.length c0_9, .slice A0_10 l0_10.length c0_10] 25 (0, 0)) (by (with_reducible repeat (first | refine blk_drewN ?_ _ | refine blk_drew ?_ | refine blk_alloc ?_ _)); exact BK169.out) hb)
                                    have n1_ := Aside0.mk (below_step (by repeat (first | (with_reducible first | exact HB.out | apply below_alloc | apply pw_below_drewN | apply below_drew1 | refine below_set ?_ GE169.out) | exact HB.out)) hb)
                                    clear BK169
                                    clear HB
                                    have BK169 := n0_
                                    have HB := n1_
                                    clear n0_ n1_
                                    (try clear hb)
                                    (try clear hb2)
                                    (try clear hk)
                                    (try clear hi)
                                    refine hK.out _ _ ⟨(blk_cell BK169.out 0).trans rfl, (blk_cell BK169.out 1).trans rfl, (blk_cell BK169.out 2).trans rfl, (blk_cell BK169.out 3).trans rfl, (blk_cell BK169.out 4).trans rfl, (blk_cell BK169.out 5).trans rfl, (blk_cell BK169.out 6).trans rfl, (blk_cell BK169.out 7).trans rfl, (blk_cell BK169.out 8).trans rfl, (blk_cell BK169.out 9).trans rfl, (blk_cell BK169.out 10).trans rfl, ((HB.out.cell (World.block_lt_of_cell? w _ hw183_0)).trans hw183_0), ((HB.out.cell (World.block_lt_of_cell? w _ hw183_1)).trans hw183_1), ((HB.out.cell (World.block_lt_of_cell? w _ hw183_2)).trans hw183_2), ((HB.out.cell (World.block_lt_of_cell? w _ hw185_0)).trans hw185_0), ((HB.out.cell (World.block_lt_of_cell? w _ hw185_1)).trans hw185_1), ((HB.out.cell (World.block_lt_of_cell? w _ hw185_2)).trans hw185_2), ((HB.out.cell (World.block_lt_of_cell? w _ hw187_0)).trans hw187_0), ((HB.out.cell (World.block_lt_of_cell? w _ hw187_1)).trans hw187_1), ((HB.out.cell (World.block_lt_of_cell? w _ hw187_2)).trans hw187_2)⟩ (fun hHeld => ?_)
                                    clear hK K
                                    refine norm_ (a' := ?_) ?_ ?_
                                    rotate_left
                                    · show Act.put _ (some 116) _ = _
                                      simp only [Act.put, List.setIfInBounds_toArray, List.set_cons_zero, List.set_cons_succ, i64_w, i32_w]
                                      rfl
                                    refine pure_ (i := 23) (N := some 117) (v := ?_) (a' := ?_) #[true, true, true, true, true, true, true, true, true, true, true, true, true, true, true, true, true, true, true, true, true, true, true, true, false, false] rfl rfl (any_of HT_.out (by kernel_rfl)) (fun _ _ _ h => h) (Or.inl ⟨by rfl, ?_⟩) ?_ ?_
                                    rotate_left
                                    · intro w'
                                      go_simp
                                      with_reducible rfl
                                    rotate_left
                                    · simp only [Act.put, List.setIfInBounds_toArray, List.set_cons_zero, List.set_cons_succ, i64_w, i32_w]
                                      rfl
                                    refine pure_ (i := 24) (N := some 118) (v := ?_) (a' := ?_) #[true, true, true, true, true, true, true, true, true, true, true, true, true, true, true, true, true, true, true, true, true, true, true, true, true, false] rfl rfl (any_of HT_.out (by kernel_rfl)) (fun _ _ _ h => h) (Or.inl ⟨by rfl, ?_⟩) ?_ ?_
                                    rotate_left
                                    · intro w'
                                      go_simp
                                      with_reducible rfl
                                    rotate_left
                                    · simp only [Act.put, List.setIfInBounds_toArray, List.set_cons_zero, List.set_cons_succ, i64_w, i32_w]
                                      rfl
                                    refine pure_ (i := 25) (N := some 3) (v := ?_) (a' := ?_) #[true, true, true, true, true, true, true, true, true, true, true, true, true, true, true, true, true, true, true, true, true, true, true, true, true, true] rfl rfl (any_of HT_.out (by kernel_rfl)) (fun _ _ _ h => h) (Or.inl ⟨by rfl, ?_⟩) ?_ ?_
                                    rotate_left
                                    · intro w'
                                      go_simp
                                      with_reducible rfl
                                    rotate_left
                                    · simp only [Act.put, List.setIfInBounds_toArray, List.set_cons_zero, List.set_cons_succ, i64_w, i32_w]
                                      rfl
                                    refine done_ (done_of HT_.out (by kernel_rfl)) ?_
                                    try go_wp2
                                    go_roundg k2
                                    case measure => have := HJ47.out; have := HK2.out; omega
                                    case rel => exact ⟨(x3_2 ++ ((t184 ++ t186) ++ t188)), (wrap64 (x5_2 + 1)), (by first | rfl | (simp; done) | (simp [*]; done)), (by first | rfl | (simp; done) | (simp [*]; done)), H', ⟨by have := HJ47.out; have := HK2.out; omega⟩, ⟨by (with_reducible repeat (first | refine blk_drewN ?_ _ | refine blk_drew ?_ | refine blk_alloc ?_ _)); exact BK169.out⟩, ⟨by repeat (first | (with_reducible first | exact HB.out | apply below_alloc | apply pw_below_drewN | apply below_drew1 | refine below_set ?_ GE169.out) | exact HB.out)⟩⟩
                                  · rw [if_neg c81] at H
                                    exact absurd H (by simp)
                                · rw [if_neg c80] at H
                                  exact absurd H (by simp)
                              · rw [if_neg c78] at H
                                exact absurd H (by simp)
                            · rw [if_neg c75] at H
                              exact absurd H (by simp)
                          · rw [if_neg c74] at H
                            have c74b0 : decide (x5_2 < (l0_9.length : Int)) = false := decide_eq_false c74
                            clear c74
                            replace H := Option.bind_eq_some_iff.mp H
                            obtain ⟨t189, A870, H⟩ := H
                            replace H : (if x3_2.size + t189.size ≤ 9223372036854775807 then (careenref04_Print.l1 k2 (x3_2 ++ t189) 0 a0_0 a0_1 a0_2 a0_3 a0_4 a0_5 a0_6 a0_7 a0_8 l0_9 l0_10) else (none)) = some r := H
                            have A87 := Aside0.mk A870
                            clear A870
                            by_cases c88 : x3_2.size + t189.size ≤ 9223372036854775807
                            · rw [if_pos c88] at H
                              have c88b0 := eq_true c88
                              have c88b1 : decide (x3_2.size + t189.size ≤ 9223372036854775807) = true := decide_eq_true c88
                              try have c88b2 : (9223372036854775807 < x3_2.size + t189.size) = False := eq_false (Nat.not_lt.2 c88)
                              have H' := Aside0.mk H
                              clear H
                              have hcz89_0 : wr.cell? ⟨gb169, 0, none⟩ = some (.int .i64 a0_0) := (blk_cell BK169.out 0).trans rfl
                              have hcz89_1 : wr.cell? ⟨gb169, 1, none⟩ = some (.int .i64 a0_1) := (blk_cell BK169.out 1).trans rfl
                              have hcz89_2 : wr.cell? ⟨gb169, 2, none⟩ = some (.int .i64 a0_2) := (blk_cell BK169.out 2).trans rfl
                              have hcz89_3 : wr.cell? ⟨gb169, 3, none⟩ = some (.int .i64 a0_3) := (blk_cell BK169.out 3).trans rfl
                              have hcz89_4 : wr.cell? ⟨gb169, 4, none⟩ = some (.int .i64 a0_4) := (blk_cell BK169.out 4).trans rfl
                              have hcz89_5 : wr.cell? ⟨gb169, 5, none⟩ = some (.int .i64 a0_5) := (blk_cell BK169.out 5).trans rfl
                              have hcz89_6 : wr.cell? ⟨gb169, 6, none⟩ = some (.int .i64 a0_6) := (blk_cell BK169.out 6).trans rfl
                              have hcz89_7 : wr.cell? ⟨gb169, 7, none⟩ = some (.string a0_7) := (blk_cell BK169.out 7).trans rfl
                              have hcz89_8 : wr.cell? ⟨gb169, 8, none⟩ = some (.string a0_8) := (blk_cell BK169.out 8).trans rfl
                              have hcz89_9 : wr.cell? ⟨gb169, 9, none⟩ = some (.slice A0_9 l0_9.length c0_9) := (blk_cell BK169.out 9).trans rfl
                              have hcz89_10 : wr.cell? ⟨gb169, 10, none⟩ = some (.slice A0_10 l0_10.length c0_10) := (blk_cell BK169.out 10).trans rfl
                              have hfz89_0 := blk_frozen BK169.out 0
                              have hfz89_1 := blk_frozen BK169.out 1
                              have hfz89_2 := blk_frozen BK169.out 2
                              have hfz89_3 := blk_frozen BK169.out 3
                              have hfz89_4 := blk_frozen BK169.out 4
                              have hfz89_5 := blk_frozen BK169.out 5
                              have hfz89_6 := blk_frozen BK169.out 6
                              have hfz89_7 := blk_frozen BK169.out 7
                              have hfz89_8 := blk_frozen BK169.out 8
                              have hfz89_9 := blk_frozen BK169.out 9
                              have hfz89_10 := blk_frozen BK169.out 10
                              go_wp2_with (first | ((with_reducible refine gate_callee (f := 29) rfl ?_); refine goesL_ (some 123) rfl rfl Try.func29 (by kernel_rfl) rfl #[.int .i64 (l0_10.length : Int)] rfl (by (try simp only [List.map_toArray, List.map_cons, List.map_nil]); first | done | rfl | (simp only [List.length_drop, List.length_take]; rfl)) ?_; (with_reducible refine (careenref04_small.calls (l0_10.length : Int) t189 _ A87.out).mono ?_); rintro e w90 ⟨rfl, hb⟩; refine ⟨_, rfl, ?_⟩; have n0_ := Aside0.mk (blk_below (g := gb169) (o := .cells #[.int .i64 a0_0, .int .i64 a0_1, .int .i64 a0_2, .int .i64 a0_3, .int .i64 a0_4, .int .i64 a0_5, .int .i64 a0_6, .string a0_7, .string a0_8, .slice A0_9 l0_9.length c0_9, .slice A0_10 l0_10.length c0_10] 25 (0, 0)) (by (with_reducible repeat (first | refine blk_drewN ?_ _ | refine blk_drew ?_ | refine blk_alloc ?_ _)); exact BK169.out) hb); have n1_ := Aside0.mk (below_step (by repeat (first | (with_reducible first | exact HB.out | apply below_alloc | apply pw_below_drewN | apply below_drew1 | refine below_set ?_ GE169.out) | exact HB.out)) hb); clear BK169; clear HB; have BK169 := n0_; have HB := n1_; clear n0_ n1_; (try clear hb); (try clear hb2); (try clear hk); (try clear hi)))
                              go_loopg [3, 6] k2 (fun kq v3 v6 w' => ∃ (x3_3 : ByteArray) (x6_3 : Int), v3 = .string x3_3 ∧ v6 = .int .i64 x6_3 ∧ Aside0 (careenref04_Print.l1 kq x3_3 x6_3 a0_0 a0_1 a0_2 a0_3 a0_4 a0_5 a0_6 a0_7 a0_8 l0_9 l0_10 = some r) ∧ Aside0 (kq ≤ k2) ∧ Aside0 (w'.heap[gb169]? = some (.cells #[.int .i64 a0_0, .int .i64 a0_1, .int .i64 a0_2, .int .i64 a0_3, .int .i64 a0_4, .int .i64 a0_5, .int .i64 a0_6, .string a0_7, .string a0_8, (.slice A0_9 l0_9.length c0_9), (.slice A0_10 l0_10.length c0_10)] 25 (0, 0))) ∧ Aside0 (Below w.heap.size w w'))
                              case atStart => exact ⟨(x3_2 ++ t189), (0), (by first | rfl | (simp; done) | (simp [*]; done)), (by first | rfl | (simp; done) | (simp [*]; done)), H', ⟨Nat.le_refl _⟩, ⟨by (with_reducible repeat (first | refine blk_drewN ?_ _ | refine blk_drew ?_ | refine blk_alloc ?_ _)); exact BK169.out⟩, ⟨by repeat (first | (with_reducible first | exact HB.out | apply below_alloc | apply pw_below_drewN | apply below_drew1 | refine below_set ?_ GE169.out) | exact HB.out)⟩⟩
                              case round =>
                                clear H'
                                try clear c1
                                try clear p1
                                try clear q1
                                try clear hx1
                                try clear c2
                                try clear p2
                                try clear c3
                                try clear c5
                                try clear c6
                                try clear p6
                                try clear c7
                                try clear c8
                                try clear c15
                                try clear p18
                                try clear q18
                                try clear hx18
                                try clear c27
                                try clear c27b0
                                try clear c27b1
                                try clear c29
                                try clear c30
                                try clear c31
                                try clear c33
                                try clear c34
                                try clear c35
                                try clear c57
                                try clear c57b0
                                try clear c57b1
                                try clear c58
                                try clear c60
                                try clear c60b0
                                try clear c60b1
                                try clear c60b2
                                try clear c62
                                try clear c62b0
                                try clear c62b1
                                try clear c62b2
                                try clear p64
                                try clear c66
                                try clear c66b0
                                try clear c66b1
                                try clear c69
                                try clear c69b0
                                try clear c69b1
                                try clear c69b2
                                try clear c70
                                try clear c70b0
                                try clear c70b1
                                try clear c70b2
                                try clear c74
                                try clear c74b0
                                try clear c75
                                try clear c75b0
                                try clear c78
                                try clear c78b0
                                try clear c78b1
                                try clear c78b2
                                try clear c80
                                try clear c80b0
                                try clear c80b1
                                try clear c80b2
                                try clear c81
                                try clear c81b0
                                try clear c81b1
                                try clear c81b2
                                try clear c88
                                try clear c88b0
                                try clear c88b1
                                try clear c88b2
                                try clear hcz43_0
                                try clear hcz43_1
                                try clear hcz43_10
                                try clear hcz43_2
                                try clear hcz43_3
                                try clear hcz43_4
                                try clear hcz43_5
                                try clear hcz43_6
                                try clear hcz43_7
                                try clear hcz43_8
                                try clear hcz43_9
                                try clear hcz50_0
                                try clear hcz50_1
                                try clear hcz50_10
                                try clear hcz50_2
                                try clear hcz50_3
                                try clear hcz50_4
                                try clear hcz50_5
                                try clear hcz50_6
                                try clear hcz50_7
                                try clear hcz50_8
                                try clear hcz50_9
                                try clear hcz56_0
                                try clear hcz56_1
                                try clear hcz56_10
                                try clear hcz56_2
                                try clear hcz56_3
                                try clear hcz56_4
                                try clear hcz56_5
                                try clear hcz56_6
                                try clear hcz56_7
                                try clear hcz56_8
                                try clear hcz56_9
                                try clear hcz82_0
                                try clear hcz82_1
                                try clear hcz82_10
                                try clear hcz82_2
                                try clear hcz82_3
                                try clear hcz82_4
                                try clear hcz82_5
                                try clear hcz82_6
                                try clear hcz82_7
                                try clear hcz82_8
                                try clear hcz82_9
                                try clear hcz89_0
                                try clear hcz89_1
                                try clear hcz89_10
                                try clear hcz89_2
                                try clear hcz89_3
                                try clear hcz89_4
                                try clear hcz89_5
                                try clear hcz89_6
                                try clear hcz89_7
                                try clear hcz89_8
                                try clear hcz89_9
                                try clear hfz43_0
                                try clear hfz43_1
                                try clear hfz43_10
                                try clear hfz43_2
                                try clear hfz43_3
                                try clear hfz43_4
                                try clear hfz43_5
                                try clear hfz43_6
                                try clear hfz43_7
                                try clear hfz43_8
                                try clear hfz43_9
                                try clear hfz50_0
                                try clear hfz50_1
                                try clear hfz50_10
                                try clear hfz50_2
                                try clear hfz50_3
                                try clear hfz50_4
                                try clear hfz50_5
                                try clear hfz50_6
                                try clear hfz50_7
                                try clear hfz50_8
                                try clear hfz50_9
                                try clear hfz56_0
                                try clear hfz56_1
                                try clear hfz56_10
                                try clear hfz56_2
                                try clear hfz56_3
                                try clear hfz56_4
                                try clear hfz56_5
                                try clear hfz56_6
                                try clear hfz56_7
                                try clear hfz56_8
                                try clear hfz56_9
                                try clear hfz82_0
                                try clear hfz82_1
                                try clear hfz82_10
                                try clear hfz82_2
                                try clear hfz82_3
                                try clear hfz82_4
                                try clear hfz82_5
                                try clear hfz82_6
                                try clear hfz82_7
                                try clear hfz82_8
                                try clear hfz82_9
                                try clear hfz89_0
                                try clear hfz89_1
                                try clear hfz89_10
                                try clear hfz89_2
                                try clear hfz89_3
                                try clear hfz89_4
                                try clear hfz89_5
                                try clear hfz89_6
                                try clear hfz89_7
                                try clear hfz89_8
                                try clear hfz89_9
                                try clear hx183_0
                                try clear hx183_1
                                try clear hx183_2
                                try clear hx185_0
                                try clear hx185_1
                                try clear hx185_2
                                try clear hx187_0
                                try clear hx187_1
                                try clear hx187_2
                                try clear p183
                                try clear p185
                                try clear p187
                                try clear p2
                                try clear q183
                                try clear q185
                                try clear q187
                                obtain ⟨x3_3, x6_3, rfl, rfl, HA, HK3, BK169, HB⟩ := hrel
                                cases gk with
                                | zero => exact nomatch (show none = some _ from HA.out)
                                | succ k3 =>
                                  have H := HA.out
                                  clear HA
                                  simp only [careenref04_Print.l1] at H
                                  by_cases c91 : x6_3 < (l0_10.length : Int)
                                  · rw [if_pos c91] at H
                                    have c91b0 : decide (x6_3 < (l0_10.length : Int)) = true := decide_eq_true c91
                                    clear c91
                                    by_cases c92 : 0 ≤ x6_3
                                    · rw [if_pos c92] at H
                                      have c92b0 : decide (0 ≤ x6_3) = true := decide_eq_true c92
                                      clear c92
                                      replace H := Option.bind_eq_some_iff.mp H
                                      obtain ⟨t191, A930, H⟩ := H
                                      replace H : ((careenref04_four.f ((rd_T68 l0_10 x6_3).f1)).bind fun t193 => (if t191.size + t193.size ≤ 9223372036854775807 then (if x3_3.size + (t191 ++ t193).size ≤ 9223372036854775807 then (careenref04_Print.l1 k3 (x3_3 ++ (t191 ++ t193)) (wrap64 (x6_3 + 1)) a0_0 a0_1 a0_2 a0_3 a0_4 a0_5 a0_6 a0_7 a0_8 l0_9 l0_10) else (none)) else (none))) = some r := H
                                      have A93 := Aside0.mk A930
                                      clear A930
                                      replace H := Option.bind_eq_some_iff.mp H
                                      obtain ⟨t193, A940, H⟩ := H
                                      replace H : (if t191.size + t193.size ≤ 9223372036854775807 then (if x3_3.size + (t191 ++ t193).size ≤ 9223372036854775807 then (careenref04_Print.l1 k3 (x3_3 ++ (t191 ++ t193)) (wrap64 (x6_3 + 1)) a0_0 a0_1 a0_2 a0_3 a0_4 a0_5 a0_6 a0_7 a0_8 l0_9 l0_10) else (none)) else (none)) = some r := H
                                      have A94 := Aside0.mk A940
                                      clear A940
                                      by_cases c95 : t191.size + t193.size ≤ 9223372036854775807
                                      · rw [if_pos c95] at H
                                        have c95b0 := eq_true c95
                                        have c95b1 : decide (t191.size + t193.size ≤ 9223372036854775807) = true := decide_eq_true c95
                                        try have c95b2 : (9223372036854775807 < t191.size + t193.size) = False := eq_false (Nat.not_lt.2 c95)
                                        by_cases c96 : x3_3.size + (t191 ++ t193).size ≤ 9223372036854775807
                                        · rw [if_pos c96] at H
                                          have c96b0 := eq_true c96
                                          have c96b1 : decide (x3_3.size + (t191 ++ t193).size ≤ 9223372036854775807) = true := decide_eq_true c96
                                          try have c96b2 : (9223372036854775807 < x3_3.size + (t191 ++ t193).size) = False := eq_false (Nat.not_lt.2 c96)
                                          try have c96b3 := c96b2
                                          try simp only [ByteArray.size_append] at c96b3
                                          have H' := Aside0.mk H
                                          clear H
                                          have hcz97_0 : wr.cell? ⟨gb169, 0, none⟩ = some (.int .i64 a0_0) := (blk_cell BK169.out 0).trans rfl
                                          have hcz97_1 : wr.cell? ⟨gb169, 1, none⟩ = some (.int .i64 a0_1) := (blk_cell BK169.out 1).trans rfl
                                          have hcz97_2 : wr.cell? ⟨gb169, 2, none⟩ = some (.int .i64 a0_2) := (blk_cell BK169.out 2).trans rfl
                                          have hcz97_3 : wr.cell? ⟨gb169, 3, none⟩ = some (.int .i64 a0_3) := (blk_cell BK169.out 3).trans rfl
                                          have hcz97_4 : wr.cell? ⟨gb169, 4, none⟩ = some (.int .i64 a0_4) := (blk_cell BK169.out 4).trans rfl
                                          have hcz97_5 : wr.cell? ⟨gb169, 5, none⟩ = some (.int .i64 a0_5) := (blk_cell BK169.out 5).trans rfl
                                          have hcz97_6 : wr.cell? ⟨gb169, 6, none⟩ = some (.int .i64 a0_6) := (blk_cell BK169.out 6).trans rfl
                                          have hcz97_7 : wr.cell? ⟨gb169, 7, none⟩ = some (.string a0_7) := (blk_cell BK169.out 7).trans rfl
                                          have hcz97_8 : wr.cell? ⟨gb169, 8, none⟩ = some (.string a0_8) := (blk_cell BK169.out 8).trans rfl
                                          have hcz97_9 : wr.cell? ⟨gb169, 9, none⟩ = some (.slice A0_9 l0_9.length c0_9) := (blk_cell BK169.out 9).trans rfl
                                          have hcz97_10 : wr.cell? ⟨gb169, 10, none⟩ = some (.slice A0_10 l0_10.length c0_10) := (blk_cell BK169.out 10).trans rfl
                                          have hfz97_0 := blk_frozen BK169.out 0
                                          have hfz97_1 := blk_frozen BK169.out 1
                                          have hfz97_2 := blk_frozen BK169.out 2
                                          have hfz97_3 := blk_frozen BK169.out 3
                                          have hfz97_4 := blk_frozen BK169.out 4
                                          have hfz97_5 := blk_frozen BK169.out 5
                                          have hfz97_6 := blk_frozen BK169.out 6
                                          have hfz97_7 := blk_frozen BK169.out 7
                                          have hfz97_8 := blk_frozen BK169.out 8
                                          have hfz97_9 := blk_frozen BK169.out 9
                                          have hfz97_10 := blk_frozen BK169.out 10
                                          try go_wp2
                                          have n0_ := Aside0.mk (blk_drew BK169.out)
                                          have n1_ := Aside0.mk (below_drew1 HB.out)
                                          clear BK169
                                          clear HB
                                          have BK169 := n0_
                                          have HB := n1_
                                          clear n0_ n1_
                                          have p190 : 0 ≤ (x6_3 : Int) := of_decide_eq_true (by first | (with_reducible assumption) | assumption)
                                          have q190 : x6_3 < (l0_10.length : Int) := of_decide_eq_true (by first | (with_reducible assumption) | assumption)
                                          obtain ⟨ad190, e190, hx190_0, hx190_1⟩ := at_T68 HR0_10.out x6_3 p190 q190
                                          have hw190_1 := hx190_1
                                          have hw190_0 := hx190_0
                                          cases e190
                                          replace hx190_0 := (HB.out.cell (World.block_lt_of_cell? w _ hx190_0)).trans hx190_0
                                          replace hx190_1 := (HB.out.cell (World.block_lt_of_cell? w _ hx190_1)).trans hx190_1
                                          replace p190 := eq_true p190
                                          replace q190 := eq_true q190
                                          have p192 : 0 ≤ (x6_3 : Int) := of_decide_eq_true (by first | (with_reducible assumption) | assumption)
                                          have q192 : x6_3 < (l0_10.length : Int) := of_decide_eq_true (by first | (with_reducible assumption) | assumption)
                                          obtain ⟨ad192, e192, hx192_0, hx192_1⟩ := at_T68 HR0_10.out x6_3 p192 q192
                                          have hw192_1 := hx192_1
                                          have hw192_0 := hx192_0
                                          obtain rfl : ad190 = ad192 := (by injection e192)
                                          replace hx192_0 := (HB.out.cell (World.block_lt_of_cell? w _ hx192_0)).trans hx192_0
                                          replace hx192_1 := (HB.out.cell (World.block_lt_of_cell? w _ hx192_1)).trans hx192_1
                                          replace p192 := eq_true p192
                                          replace q192 := eq_true q192
                                          refine start_ (n := 18) (S := fun w' => w'.cell? ⟨gb169, 0, none⟩ = some (.int .i64 a0_0) ∧ w'.cell? ⟨gb169, 1, none⟩ = some (.int .i64 a0_1) ∧ w'.cell? ⟨gb169, 2, none⟩ = some (.int .i64 a0_2) ∧ w'.cell? ⟨gb169, 3, none⟩ = some (.int .i64 a0_3) ∧ w'.cell? ⟨gb169, 4, none⟩ = some (.int .i64 a0_4) ∧ w'.cell? ⟨gb169, 5, none⟩ = some (.int .i64 a0_5) ∧ w'.cell? ⟨gb169, 6, none⟩ = some (.int .i64 a0_6) ∧ w'.cell? ⟨gb169, 7, none⟩ = some (.string a0_7) ∧ w'.cell? ⟨gb169, 8, none⟩ = some (.string a0_8) ∧ w'.cell? ⟨gb169, 9, none⟩ = some (.slice A0_9 l0_9.length c0_9) ∧ w'.cell? ⟨gb169, 10, none⟩ = some (.slice (some ad190) l0_10.length c0_10) ∧ w'.cell? (ad190.add ((x6_3).toNat * 2)) = some (.int .i64 ((rd_T68 l0_10 x6_3).f0)) ∧ w'.cell? ⟨(ad190.add ((x6_3).toNat * 2)).block, (ad190.add ((x6_3).toNat * 2)).off + 1, none⟩ = some (.int .i64 ((rd_T68 l0_10 x6_3).f1)) ∧ w'.cell? (ad190.add ((x6_3).toNat * 2)) = some (.int .i64 ((rd_T68 l0_10 x6_3).f0)) ∧ w'.cell? ⟨(ad190.add ((x6_3).toNat * 2)).block, (ad190.add ((x6_3).toNat * 2)).off + 1, none⟩ = some (.int .i64 ((rd_T68 l0_10 x6_3).f1))) (ds := []) #[false, false, false, false, false, false, false, false, false, false, false, false, false, false, false, false, false, false] (by kernel_rfl) rfl rfl ⟨(blk_cell BK169.out 0).trans rfl, (blk_cell BK169.out 1).trans rfl, (blk_cell BK169.out 2).trans rfl, (blk_cell BK169.out 3).trans rfl, (blk_cell BK169.out 4).trans rfl, (blk_cell BK169.out 5).trans rfl, (blk_cell BK169.out 6).trans rfl, (blk_cell BK169.out 7).trans rfl, (blk_cell BK169.out 8).trans rfl, (blk_cell BK169.out 9).trans rfl, (blk_cell BK169.out 10).trans rfl, ((HB.out.cell (World.block_lt_of_cell? w _ hw190_0)).trans hw190_0), ((HB.out.cell (World.block_lt_of_cell? w _ hw190_1)).trans hw190_1), ((HB.out.cell (World.block_lt_of_cell? w _ hw192_0)).trans hw192_0), ((HB.out.cell (World.block_lt_of_cell? w _ hw192_1)).trans hw192_1)⟩ (fun hHeld => ?_); refine with_tabW careenref04_Print.tab21 careenref04_Print.bits21 (fun HT_ HW_ => ?_)
                                          generalize wr.drew = w98 at BK169 HB hx190_0 hx190_1 hx192_0 hx192_1 hHeld ⊢
                                          refine pure_ (i := 0) (N := some 132) (v := ?_) (a' := ?_) #[true, false, false, false, false, false, false, false, false, false, false, false, false, false, false, false, false, false] rfl rfl (any_of HT_.out (by kernel_rfl)) (fun _ _ _ h => h) (Or.inl ⟨by rfl, ?_⟩) ?_ ?_
                                          rotate_left
                                          · intro w'
                                            go_simp
                                            with_reducible rfl
                                          rotate_left
                                          · simp only [Act.put, List.setIfInBounds_toArray, List.set_cons_zero, List.set_cons_succ, i64_w, i32_w]
                                            rfl
                                          refine pure_ (i := 1) (N := some 133) (v := ?_) (a' := ?_) #[true, true, false, false, false, false, false, false, false, false, false, false, false, false, false, false, false, false] rfl rfl (any_of HT_.out (by kernel_rfl)) (fun _ _ _ h => h) (Or.inl ⟨by rfl, ?_⟩) ?_ ?_
                                          rotate_left
                                          · intro w'
                                            go_simp
                                            with_reducible rfl
                                          rotate_left
                                          · simp only [Act.put, List.setIfInBounds_toArray, List.set_cons_zero, List.set_cons_succ, i64_w, i32_w]
                                            rfl
                                          refine pure_ (i := 3) (N := some 135) (v := ?_) (a' := ?_) #[true, true, false, true, false, false, false, false, false, false, false, false, false, false, false, false, false, false] rfl rfl (any_of HT_.out (by kernel_rfl)) (fun _ _ _ h => h) (Or.inl ⟨by rfl, ?_⟩) ?_ ?_
                                          rotate_left
                                          · intro w'
                                            go_simp
                                            with_reducible rfl
                                          rotate_left
                                          · simp only [Act.put, List.setIfInBounds_toArray, List.set_cons_zero, List.set_cons_succ, i64_w, i32_w]
                                            rfl
                                          refine pure_ (i := 8) (N := some 140) (v := ?_) (a' := ?_) #[true, true, false, true, false, false, false, false, true, false, false, false, false, false, false, false, false, false] rfl rfl (any_of HT_.out (by kernel_rfl)) (fun _ _ _ h => h) (Or.inl ⟨by rfl, ?_⟩) ?_ ?_
                                          rotate_left
                                          · intro w'
                                            go_simp
                                            with_reducible rfl
                                          rotate_left
                                          · simp only [Act.put, List.setIfInBounds_toArray, List.set_cons_zero, List.set_cons_succ, i64_w, i32_w]
                                            rfl
                                          refine pure_ (i := 10) (N := some 142) (v := ?_) (a' := ?_) #[true, true, false, true, false, false, false, false, true, false, true, false, false, false, false, false, false, false] rfl rfl (any_of HT_.out (by kernel_rfl)) (fun _ _ _ h => h) (Or.inl ⟨by rfl, ?_⟩) ?_ ?_
                                          rotate_left
                                          · intro w'
                                            go_simp
                                            with_reducible rfl
                                          rotate_left
                                          · simp only [Act.put, List.setIfInBounds_toArray, List.set_cons_zero, List.set_cons_succ, i64_w, i32_w]
                                            rfl
                                          refine take_ (i := 2) (N := some 134) (v := ?_) (a' := ?_) #[true, true, true, true, false, false, false, false, true, false, true, false, false, false, false, false, false, false] rfl rfl (take_ofW HT_.out HW_.out (by kernel_rfl)) (fun _ _ _ h => h) (Or.inl ⟨by rfl, ?_⟩) hHeld ?_ ?_
                                          rotate_left
                                          · rintro w' ⟨s0, s1, s2, s3, s4, s5, s6, s7, s8, s9, s10, s11, s12, s13, s14⟩
                                            go_simp
                                            with_reducible rfl
                                          rotate_left
                                          · simp only [Act.put, List.setIfInBounds_toArray, List.set_cons_zero, List.set_cons_succ, i64_w, i32_w]
                                            rfl
                                          refine pure_ (i := 4) (N := some 136) (v := ?_) (a' := ?_) #[true, true, true, true, true, false, false, false, true, false, true, false, false, false, false, false, false, false] rfl rfl (any_of HT_.out (by kernel_rfl)) (fun _ _ _ h => h) (Or.inl ⟨by rfl, ?_⟩) ?_ ?_
                                          rotate_left
                                          · intro w'
                                            go_simp
                                            with_reducible rfl
                                          rotate_left
                                          · simp only [Act.put, List.setIfInBounds_toArray, List.set_cons_zero, List.set_cons_succ, i64_w, i32_w]
                                            rfl
                                          refine pure_ (i := 5) (N := some 137) (v := ?_) (a' := ?_) #[true, true, true, true, true, true, false, false, true, false, true, false, false, false, false, false, false, false] rfl rfl (any_of HT_.out (by kernel_rfl)) (fun _ _ _ h => h) (Or.inl ⟨by rfl, ?_⟩) ?_ ?_
                                          rotate_left
                                          · intro w'
                                            go_simp
                                            with_reducible rfl
                                          rotate_left
                                          · simp only [Act.put, List.setIfInBounds_toArray, List.set_cons_zero, List.set_cons_succ, i64_w, i32_w]
                                            rfl
                                          refine take_ (i := 6) (N := some 138) (v := ?_) (a' := ?_) #[true, true, true, true, true, true, true, false, true, false, true, false, false, false, false, false, false, false] rfl rfl (take_ofW HT_.out HW_.out (by kernel_rfl)) (fun _ _ _ h => h) (Or.inl ⟨by rfl, ?_⟩) hHeld ?_ ?_
                                          rotate_left
                                          · rintro w' ⟨s0, s1, s2, s3, s4, s5, s6, s7, s8, s9, s10, s11, s12, s13, s14⟩
                                            go_simp
                                            with_reducible rfl
                                          rotate_left
                                          · simp only [Act.put, List.setIfInBounds_toArray, List.set_cons_zero, List.set_cons_succ, i64_w, i32_w]
                                            rfl
                                          refine take_ (i := 9) (N := some 141) (v := ?_) (a' := ?_) #[true, true, true, true, true, true, true, false, true, true, true, false, false, false, false, false, false, false] rfl rfl (take_ofW HT_.out HW_.out (by kernel_rfl)) (fun _ _ _ h => h) (Or.inl ⟨by rfl, ?_⟩) hHeld ?_ ?_
                                          rotate_left
                                          · rintro w' ⟨s0, s1, s2, s3, s4, s5, s6, s7, s8, s9, s10, s11, s12, s13, s14⟩
                                            go_simp
                                            with_reducible rfl
                                          rotate_left
                                          · simp only [Act.put, List.setIfInBounds_toArray, List.set_cons_zero, List.set_cons_succ, i64_w, i32_w]
                                            rfl
                                          refine pure_ (i := 11) (N := some 143) (v := ?_) (a' := ?_) #[true, true, true, true, true, true, true, false, true, true, true, true, false, false, false, false, false, false] rfl rfl (any_of HT_.out (by kernel_rfl)) (fun _ _ _ h => h) (Or.inl ⟨by rfl, ?_⟩) ?_ ?_
                                          rotate_left
                                          · intro w'
                                            go_simp
                                            with_reducible rfl
                                          rotate_left
                                          · simp only [Act.put, List.setIfInBounds_toArray, List.set_cons_zero, List.set_cons_succ, i64_w, i32_w]
                                            rfl
                                          refine pure_ (i := 12) (N := some 144) (v := ?_) (a' := ?_) #[true, true, true, true, true, true, true, false, true, true, true, true, true, false, false, false, false, false] rfl rfl (any_of HT_.out (by kernel_rfl)) (fun _ _ _ h => h) (Or.inl ⟨by rfl, ?_⟩) ?_ ?_
                                          rotate_left
                                          · intro w'
                                            go_simp
                                            with_reducible rfl
                                          rotate_left
                                          · simp only [Act.put, List.setIfInBounds_toArray, List.set_cons_zero, List.set_cons_succ, i64_w, i32_w]
                                            rfl
                                          refine take_ (i := 13) (N := some 145) (v := ?_) (a' := ?_) #[true, true, true, true, true, true, true, false, true, true, true, true, true, true, false, false, false, false] rfl rfl (take_ofW HT_.out HW_.out (by kernel_rfl)) (fun _ _ _ h => h) (Or.inl ⟨by rfl, ?_⟩) hHeld ?_ ?_
                                          rotate_left
                                          · rintro w' ⟨s0, s1, s2, s3, s4, s5, s6, s7, s8, s9, s10, s11, s12, s13, s14⟩
                                            go_simp
                                            with_reducible rfl
                                          rotate_left
                                          · simp only [Act.put, List.setIfInBounds_toArray, List.set_cons_zero, List.set_cons_succ, i64_w, i32_w]
                                            rfl
                                          refine one_ (i := 7) (N := some 139) #[true, true, true, true, true, true, true, true, true, true, true, true, true, true, false, false, false, false] rfl rfl (one_of HT_.out (by kernel_rfl)) (by decide) (fun K hK => ?_)
                                          refine goes_ Try.func29 (by kernel_rfl) rfl #[.int .i64 ((rd_T68 l0_10 x6_3).f0)] (by rfl) rfl rfl (by (try simp only [List.map_toArray, List.map_cons, List.map_nil]); first | done | rfl | (simp only [List.length_drop, List.length_take]; rfl)) ?_
                                          with_reducible refine (careenref04_small.calls ((rd_T68 l0_10 x6_3).f0) t191 _ A93.out).mono ?_
                                          rintro e w99 ⟨rfl, hb⟩
                                          refine ⟨_, rfl, ?_⟩
                                          have n0_ := Aside0.mk (blk_below (g := gb169) (o := .cells #[.int .i64 a0_0, .int .i64 a0_1, .int .i64 a0_2, .int .i64 a0_3, .int .i64 a0_4, .int .i64 a0_5, .int .i64 a0_6, .string a0_7, .string a0_8, .slice A0_9 l0_9.length c0_9, .slice (some ad190) l0_10.length c0_10] 25 (0, 0)) (by (with_reducible repeat (first | refine blk_drewN ?_ _ | refine blk_drew ?_ | refine blk_alloc ?_ _)); exact BK169.out) hb)
                                          have n1_ := Aside0.mk (below_step (by repeat (first | (with_reducible first | exact HB.out | apply below_alloc | apply pw_below_drewN | apply below_drew1 | refine below_set ?_ GE169.out) | exact HB.out)) hb)
                                          clear BK169
                                          clear HB
                                          have BK169 := n0_
                                          have HB := n1_
                                          clear n0_ n1_
                                          (try clear hb)
                                          (try clear hb2)
                                          (try clear hk)
                                          (try clear hi)
                                          refine hK.out _ _ ⟨(blk_cell BK169.out 0).trans rfl, (blk_cell BK169.out 1).trans rfl, (blk_cell BK169.out 2).trans rfl, (blk_cell BK169.out 3).trans rfl, (blk_cell BK169.out 4).trans rfl, (blk_cell BK169.out 5).trans rfl, (blk_cell BK169.out 6).trans rfl, (blk_cell BK169.out 7).trans rfl, (blk_cell BK169.out 8).trans rfl, (blk_cell BK169.out 9).trans rfl, (blk_cell BK169.out 10).trans rfl, ((HB.out.cell (World.block_lt_of_cell? w _ hw190_0)).trans hw190_0), ((HB.out.cell (World.block_lt_of_cell? w _ hw190_1)).trans hw190_1), ((HB.out.cell (World.block_lt_of_cell? w _ hw192_0)).trans hw192_0), ((HB.out.cell (World.block_lt_of_cell? w _ hw192_1)).trans hw192_1)⟩ (fun hHeld => ?_)
                                          clear hK K
                                          refine norm_ (a' := ?_) ?_ ?_
                                          rotate_left
                                          · show Act.put _ (some 139) _ = _
                                            simp only [Act.put, List.setIfInBounds_toArray, List.set_cons_zero, List.set_cons_succ, i64_w, i32_w]
                                            rfl
                                          refine one_ (i := 14) (N := some 146) #[true, true, true, true, true, true, true, true, true, true, true, true, true, true, true, false, false, false] rfl rfl (one_of HT_.out (by kernel_rfl)) (by decide) (fun K hK => ?_)
                                          refine goes_ Try.func30 (by kernel_rfl) rfl #[.int .i64 ((rd_T68 l0_10 x6_3).f1)] (by rfl) rfl rfl (by (try simp only [List.map_toArray, List.map_cons, List.map_nil]); first | done | rfl | (simp only [List.length_drop, List.length_take]; rfl)) ?_
                                          with_reducible refine (careenref04_four.calls ((rd_T68 l0_10 x6_3).f1) t193 _ A94.out).mono ?_
                                          rintro e w100 ⟨rfl, hb⟩
                                          refine ⟨_, rfl, ?_⟩
                                          have n0_ := Aside0.mk (blk_below (g := gb169) (o := .cells #[.int .i64 a0_0, .int .i64 a0_1, .int .i64 a0_2, .int .i64 a0_3, .int .i64 a0_4, .int .i64 a0_5, .int .i64 a0_6, .string a0_7, .string a0_8, .slice A0_9 l0_9.length c0_9, .slice (some ad190) l0_10.length c0_10] 25 (0, 0)) (by (with_reducible repeat (first | refine blk_drewN ?_ _ | refine blk_drew ?_ | refine blk_alloc ?_ _)); exact BK169.out) hb)
                                          have n1_ := Aside0.mk (below_step (by repeat (first | (with_reducible first | exact HB.out | apply below_alloc | apply pw_below_drewN | apply below_drew1 | refine below_set ?_ GE169.out) | exact HB.out)) hb)
                                          clear BK169
                                          clear HB
                                          have BK169 := n0_
                                          have HB := n1_
                                          clear n0_ n1_
                                          (try clear hb)
                                          (try clear hb2)
                                          (try clear hk)
                                          (try clear hi)
                                          refine hK.out _ _ ⟨(blk_cell BK169.out 0).trans rfl, (blk_cell BK169.out 1).trans rfl, (blk_cell BK169.out 2).trans rfl, (blk_cell BK169.out 3).trans rfl, (blk_cell BK169.out 4).trans rfl, (blk_cell BK169.out 5).trans rfl, (blk_cell BK169.out 6).trans rfl, (blk_cell BK169.out 7).trans rfl, (blk_cell BK169.out 8).trans rfl, (blk_cell BK169.out 9).trans rfl, (blk_cell BK169.out 10).trans rfl, ((HB.out.cell (World.block_lt_of_cell? w _ hw190_0)).trans hw190_0), ((HB.out.cell (World.block_lt_of_cell? w _ hw190_1)).trans hw190_1), ((HB.out.cell (World.block_lt_of_cell? w _ hw192_0)).trans hw192_0), ((HB.out.cell (World.block_lt_of_cell? w _ hw192_1)).trans hw192_1)⟩ (fun hHeld => ?_)
                                          clear hK K
                                          refine norm_ (a' := ?_) ?_ ?_
                                          rotate_left
                                          · show Act.put _ (some 146) _ = _
                                            simp only [Act.put, List.setIfInBounds_toArray, List.set_cons_zero, List.set_cons_succ, i64_w, i32_w]
                                            rfl
                                          refine pure_ (i := 15) (N := some 147) (v := ?_) (a' := ?_) #[true, true, true, true, true, true, true, true, true, true, true, true, true, true, true, true, false, false] rfl rfl (any_of HT_.out (by kernel_rfl)) (fun _ _ _ h => h) (Or.inl ⟨by rfl, ?_⟩) ?_ ?_
                                          rotate_left
                                          · intro w'
                                            go_simp
                                            with_reducible rfl
                                          rotate_left
                                          · simp only [Act.put, List.setIfInBounds_toArray, List.set_cons_zero, List.set_cons_succ, i64_w, i32_w]
                                            rfl
                                          refine pure_ (i := 16) (N := some 148) (v := ?_) (a' := ?_) #[true, true, true, true, true, true, true, true, true, true, true, true, true, true, true, true, true, false] rfl rfl (any_of HT_.out (by kernel_rfl)) (fun _ _ _ h => h) (Or.inl ⟨by rfl, ?_⟩) ?_ ?_
                                          rotate_left
                                          · intro w'
                                            go_simp
                                            with_reducible rfl
                                          rotate_left
                                          · simp only [Act.put, List.setIfInBounds_toArray, List.set_cons_zero, List.set_cons_succ, i64_w, i32_w]
                                            rfl
                                          refine pure_ (i := 17) (N := some 3) (v := ?_) (a' := ?_) #[true, true, true, true, true, true, true, true, true, true, true, true, true, true, true, true, true, true] rfl rfl (any_of HT_.out (by kernel_rfl)) (fun _ _ _ h => h) (Or.inl ⟨by rfl, ?_⟩) ?_ ?_
                                          rotate_left
                                          · intro w'
                                            go_simp
                                            with_reducible rfl
                                          rotate_left
                                          · simp only [Act.put, List.setIfInBounds_toArray, List.set_cons_zero, List.set_cons_succ, i64_w, i32_w]
                                            rfl
                                          refine done_ (done_of HT_.out (by kernel_rfl)) ?_
                                          try go_wp2
                                          go_roundg k3
                                          case measure => have := HJ47.out; have := HK2.out; have := HK3.out; omega
                                          case rel => exact ⟨(x3_3 ++ (t191 ++ t193)), (wrap64 (x6_3 + 1)), (by first | rfl | (simp; done) | (simp [*]; done)), (by first | rfl | (simp; done) | (simp [*]; done)), H', ⟨by have := HJ47.out; have := HK2.out; have := HK3.out; omega⟩, ⟨by (with_reducible repeat (first | refine blk_drewN ?_ _ | refine blk_drew ?_ | refine blk_alloc ?_ _)); exact BK169.out⟩, ⟨by repeat (first | (with_reducible first | exact HB.out | apply below_alloc | apply pw_below_drewN | apply below_drew1 | refine below_set ?_ GE169.out) | exact HB.out)⟩⟩
                                        · rw [if_neg c96] at H
                                          exact absurd H (by simp)
                                      · rw [if_neg c95] at H
                                        exact absurd H (by simp)
                                    · rw [if_neg c92] at H
                                      exact absurd H (by simp)
                                  · rw [if_neg c91] at H
                                    have c91b0 : decide (x6_3 < (l0_10.length : Int)) = false := decide_eq_false c91
                                    clear c91
                                    obtain rfl := Option.some.inj H
                                    have hcz101_0 : wr.cell? ⟨gb169, 0, none⟩ = some (.int .i64 a0_0) := (blk_cell BK169.out 0).trans rfl
                                    have hcz101_1 : wr.cell? ⟨gb169, 1, none⟩ = some (.int .i64 a0_1) := (blk_cell BK169.out 1).trans rfl
                                    have hcz101_2 : wr.cell? ⟨gb169, 2, none⟩ = some (.int .i64 a0_2) := (blk_cell BK169.out 2).trans rfl
                                    have hcz101_3 : wr.cell? ⟨gb169, 3, none⟩ = some (.int .i64 a0_3) := (blk_cell BK169.out 3).trans rfl
                                    have hcz101_4 : wr.cell? ⟨gb169, 4, none⟩ = some (.int .i64 a0_4) := (blk_cell BK169.out 4).trans rfl
                                    have hcz101_5 : wr.cell? ⟨gb169, 5, none⟩ = some (.int .i64 a0_5) := (blk_cell BK169.out 5).trans rfl
                                    have hcz101_6 : wr.cell? ⟨gb169, 6, none⟩ = some (.int .i64 a0_6) := (blk_cell BK169.out 6).trans rfl
                                    have hcz101_7 : wr.cell? ⟨gb169, 7, none⟩ = some (.string a0_7) := (blk_cell BK169.out 7).trans rfl
                                    have hcz101_8 : wr.cell? ⟨gb169, 8, none⟩ = some (.string a0_8) := (blk_cell BK169.out 8).trans rfl
                                    have hcz101_9 : wr.cell? ⟨gb169, 9, none⟩ = some (.slice A0_9 l0_9.length c0_9) := (blk_cell BK169.out 9).trans rfl
                                    have hcz101_10 : wr.cell? ⟨gb169, 10, none⟩ = some (.slice A0_10 l0_10.length c0_10) := (blk_cell BK169.out 10).trans rfl
                                    have hfz101_0 := blk_frozen BK169.out 0
                                    have hfz101_1 := blk_frozen BK169.out 1
                                    have hfz101_2 := blk_frozen BK169.out 2
                                    have hfz101_3 := blk_frozen BK169.out 3
                                    have hfz101_4 := blk_frozen BK169.out 4
                                    have hfz101_5 := blk_frozen BK169.out 5
                                    have hfz101_6 := blk_frozen BK169.out 6
                                    have hfz101_7 := blk_frozen BK169.out 7
                                    have hfz101_8 := blk_frozen BK169.out 8
                                    have hfz101_9 := blk_frozen BK169.out 9
                                    have hfz101_10 := blk_frozen BK169.out 10
                                    go_wp2
                                    go_ret
                                    exact ⟨by first | rfl | (simp [errW_none, errW_some] <;> rfl) | (simp [*, errW_none, errW_some] <;> rfl), by repeat (first | (with_reducible first | exact HB.out | apply below_alloc | apply pw_below_drewN | apply below_drew1 | refine below_set ?_ GE169.out) | exact HB.out)⟩
                            · rw [if_neg c88] at H
                              exact absurd H (by simp)
                    · rw [if_neg c70] at H
                      exact absurd H (by simp)
                  · rw [if_neg c69] at H
                    exact absurd H (by simp)
                · rw [if_neg c66] at H
                  have c66b0 : (a0_0 == 6) = false := beq_eq_false_iff_ne.mpr c66
                  have c66b1 : (a0_0 != 6) = true := bne_iff_ne.mpr c66
                  obtain rfl := Option.some.inj H
                  go_wp2
                  go_ret
                  exact ⟨by first | rfl | (simp [errW_none, errW_some] <;> rfl) | (simp [*, errW_none, errW_some] <;> rfl), by repeat (first | (with_reducible first | exact HB.out | apply below_alloc | apply pw_below_drewN | apply below_drew1 | refine below_set ?_ GE169.out) | exact HB.out)⟩
    · rw [if_neg c7] at H
      exact absurd H (by simp)
  · rw [if_neg c5] at H
    exact absurd H (by simp)
end Go.Proofs.Ytcfknakmamcinaa.X4
