-- Written by mp.py, a program of this work (wip/tools), out of the translation; Lean checks it.
import Derived.Test.YtccjakjjaemmkaaPAExZ
import Derived.Test.YtccjakjjaemmkaaPAExroadbookref07Same
import Derived.Test.YtccjakjjaemmkaaBuild
import Derived.Test.YtccjakjjaemmkaaStore
import Derived.Test.YtccjakjjaemmkaaOst
namespace Go.Proofs.Ytccjakjjaemmkaa.PAE
open Go.RowKit Go.Proofs.YtccjakjjaemmkaaW.PrintWords Go.Proofs.YtccjakjjaemmkaaW.PrintLast Go.Proofs.YtccjakjjaemmkaaW.PrintMore
attribute [local go_sem] max2_int min2_int max_two min_two max_three min_three max_four min_four   -- for this text's walks alone
set_option linter.unusedVariables false
set_option linter.unusedSimpArgs false

/-! ### roadbookref07_Bare: function 56 -/
def roadbookref07_Bare.T9 : Bool × List (List Nat × List Nat) := (true, [([], []), ([0], [0]), ([], []), ([2], [2]), ([], []), ([4], [4]), ([], []), ([6], [6]), ([], []), ([8], [8]), ([], []), ([10], [10]), ([], []), ([12], [12]), ([0, 1], []), ([14, 1, 0, 1], [1, 14]), ([0, 1, 2, 3, 14, 15], []), ([16, 3, 15, 0, 1, 2, 3, 14, 15], [3, 16]), ([0, 1, 2, 3, 4, 5, 14, 15, 16, 17], []), ([18, 5, 17, 0, 1, 2, 3, 4, 5, 14, 15, 16, 17], [5, 18]), ([0, 1, 2, 3, 4, 5, 6, 7, 14, 15, 16, 17, 18, 19], []), ([20, 7, 19, 0, 1, 2, 3, 4, 5, 6, 7, 14, 15, 16, 17, 18, 19], [7, 20]), ([0, 1, 2, 3, 4, 5, 6, 7, 8, 9, 14, 15, 16, 17, 18, 19, 20, 21], []), ([22, 9, 21, 0, 1, 2, 3, 4, 5, 6, 7, 8, 9, 14, 15, 16, 17, 18, 19, 20, 21], [9, 22]), ([0, 1, 2, 3, 4, 5, 6, 7, 8, 9, 10, 11, 14, 15, 16, 17, 18, 19, 20, 21, 22, 23], []), ([24, 11, 23, 0, 1, 2, 3, 4, 5, 6, 7, 8, 9, 10, 11, 14, 15, 16, 17, 18, 19, 20, 21, 22, 23], [11, 24]), ([0, 1, 2, 3, 4, 5, 6, 7, 8, 9, 10, 11, 12, 13, 14, 15, 16, 17, 18, 19, 20, 21, 22, 23, 24, 25], []), ([26, 13, 25, 0, 1, 2, 3, 4, 5, 6, 7, 8, 9, 10, 11, 12, 13, 14, 15, 16, 17, 18, 19, 20, 21, 22, 23, 24, 25], [13, 26])])
def roadbookref07_Bare.B9 : List Nat := [0, 1, 0, 4, 0, 16, 0, 64, 0, 256, 0, 1024, 0, 4096, 3, 16387, 49167, 114703, 245823, 507967, 1032447, 2081023, 4178943, 8373247, 16764927, 33542143, 67108863, 134217727]
theorem roadbookref07_Bare.tab9 : rtab .any (opsOf Try.f56 9) = roadbookref07_Bare.T9 := by kernel_rfl
theorem roadbookref07_Bare.bits9 : waitsOk roadbookref07_Bare.T9.2 roadbookref07_Bare.B9 = true := by kernel_rfl
def roadbookref07_Bare.T11 : Bool × List (List Nat × List Nat) := (true, [([], []), ([0], [0]), ([], []), ([2], [2]), ([], []), ([4], [4]), ([], []), ([6], [6]), ([], []), ([8], [8]), ([], []), ([10], [10]), ([], []), ([12], [12]), ([0, 1], []), ([14, 1, 0, 1], [1, 14]), ([0, 1, 2, 3, 14, 15], []), ([16, 3, 15, 0, 1, 2, 3, 14, 15], [3, 16]), ([0, 1, 2, 3, 4, 5, 14, 15, 16, 17], []), ([18, 5, 17, 0, 1, 2, 3, 4, 5, 14, 15, 16, 17], [5, 18]), ([0, 1, 2, 3, 4, 5, 6, 7, 14, 15, 16, 17, 18, 19], []), ([20, 7, 19, 0, 1, 2, 3, 4, 5, 6, 7, 14, 15, 16, 17, 18, 19], [7, 20]), ([0, 1, 2, 3, 4, 5, 6, 7, 8, 9, 14, 15, 16, 17, 18, 19, 20, 21], []), ([22, 9, 21, 0, 1, 2, 3, 4, 5, 6, 7, 8, 9, 14, 15, 16, 17, 18, 19, 20, 21], [9, 22]), ([0, 1, 2, 3, 4, 5, 6, 7, 8, 9, 10, 11, 14, 15, 16, 17, 18, 19, 20, 21, 22, 23], []), ([24, 11, 23, 0, 1, 2, 3, 4, 5, 6, 7, 8, 9, 10, 11, 14, 15, 16, 17, 18, 19, 20, 21, 22, 23], [11, 24]), ([0, 1, 2, 3, 4, 5, 6, 7, 8, 9, 10, 11, 12, 13, 14, 15, 16, 17, 18, 19, 20, 21, 22, 23, 24, 25], []), ([26, 13, 25, 0, 1, 2, 3, 4, 5, 6, 7, 8, 9, 10, 11, 12, 13, 14, 15, 16, 17, 18, 19, 20, 21, 22, 23, 24, 25], [13, 26])])
def roadbookref07_Bare.B11 : List Nat := [0, 1, 0, 4, 0, 16, 0, 64, 0, 256, 0, 1024, 0, 4096, 3, 16387, 49167, 114703, 245823, 507967, 1032447, 2081023, 4178943, 8373247, 16764927, 33542143, 67108863, 134217727]
theorem roadbookref07_Bare.tab11 : rtab .any (opsOf Try.f56 11) = roadbookref07_Bare.T11 := by kernel_rfl
theorem roadbookref07_Bare.bits11 : waitsOk roadbookref07_Bare.T11.2 roadbookref07_Bare.B11 = true := by kernel_rfl
def roadbookref07_Bare.T13 : Bool × List (List Nat × List Nat) := (true, [([], []), ([0], [0]), ([], []), ([2], [2]), ([0, 1], []), ([4, 1, 0, 1], [1, 4]), ([0, 1, 2, 3, 4, 5], []), ([6, 3, 5, 0, 1, 2, 3, 4, 5], [3, 6])])
def roadbookref07_Bare.B13 : List Nat := [0, 1, 0, 4, 3, 19, 63, 127]
theorem roadbookref07_Bare.tab13 : rtab .any (opsOf Try.f56 13) = roadbookref07_Bare.T13 := by kernel_rfl
theorem roadbookref07_Bare.bits13 : waitsOk roadbookref07_Bare.T13.2 roadbookref07_Bare.B13 = true := by kernel_rfl
def roadbookref07_Bare.T16 : Bool × List (List Nat × List Nat) := (true, [([], []), ([0], [0]), ([], []), ([2], [2]), ([0, 1], []), ([4, 1, 0, 1], [1, 4]), ([0, 1, 2, 3, 4, 5], []), ([6, 3, 5, 0, 1, 2, 3, 4, 5], [3, 6])])
def roadbookref07_Bare.B16 : List Nat := [0, 1, 0, 4, 3, 19, 63, 127]
theorem roadbookref07_Bare.tab16 : rtab .any (opsOf Try.f56 16) = roadbookref07_Bare.T16 := by kernel_rfl
theorem roadbookref07_Bare.bits16 : waitsOk roadbookref07_Bare.T16.2 roadbookref07_Bare.B16 = true := by kernel_rfl
def roadbookref07_Bare.T20 : Bool × List (List Nat × List Nat) := (true, [([], []), ([0], [0]), ([], []), ([2], [2]), ([], []), ([4], [4]), ([0, 1], []), ([6, 1, 0, 1], [1, 6]), ([0, 1, 2, 3, 6, 7], []), ([8, 3, 7, 0, 1, 2, 3, 6, 7], [3, 8]), ([0, 1, 2, 3, 4, 5, 6, 7, 8, 9], []), ([10, 5, 9, 0, 1, 2, 3, 4, 5, 6, 7, 8, 9], [5, 10])])
def roadbookref07_Bare.B20 : List Nat := [0, 1, 0, 4, 0, 16, 3, 67, 207, 463, 1023, 2047]
theorem roadbookref07_Bare.tab20 : rtab .any (opsOf Try.f56 20) = roadbookref07_Bare.T20 := by kernel_rfl
theorem roadbookref07_Bare.bits20 : waitsOk roadbookref07_Bare.T20.2 roadbookref07_Bare.B20 = true := by kernel_rfl
def roadbookref07_Bare.T22 : Bool × List (List Nat × List Nat) := (true, [([], []), ([0], [0]), ([], []), ([2], [2]), ([], []), ([4], [4]), ([], []), ([6], [6]), ([0, 1], []), ([8, 1, 0, 1], [1, 8]), ([0, 1, 2, 3, 8, 9], []), ([10, 3, 9, 0, 1, 2, 3, 8, 9], [3, 10]), ([0, 1, 2, 3, 4, 5, 8, 9, 10, 11], []), ([12, 5, 11, 0, 1, 2, 3, 4, 5, 8, 9, 10, 11], [5, 12]), ([0, 1, 2, 3, 4, 5, 6, 7, 8, 9, 10, 11, 12, 13], []), ([14, 7, 13, 0, 1, 2, 3, 4, 5, 6, 7, 8, 9, 10, 11, 12, 13], [7, 14])])
def roadbookref07_Bare.B22 : List Nat := [0, 1, 0, 4, 0, 16, 0, 64, 3, 259, 783, 1807, 3903, 7999, 16383, 32767]
theorem roadbookref07_Bare.tab22 : rtab .any (opsOf Try.f56 22) = roadbookref07_Bare.T22 := by kernel_rfl
theorem roadbookref07_Bare.bits22 : waitsOk roadbookref07_Bare.T22.2 roadbookref07_Bare.B22 = true := by kernel_rfl
def roadbookref07_Bare.T24 : Bool × List (List Nat × List Nat) := (true, [([], []), ([0], [0]), ([], []), ([2], [2]), ([], []), ([4], [4]), ([], []), ([6], [6]), ([], []), ([8], [8]), ([], []), ([10], [10]), ([], []), ([12], [12]), ([], []), ([14], [14]), ([0, 1], []), ([16, 1, 0, 1], [1, 16]), ([0, 1, 2, 3, 16, 17], []), ([18, 3, 17, 0, 1, 2, 3, 16, 17], [3, 18]), ([0, 1, 2, 3, 4, 5, 16, 17, 18, 19], []), ([20, 5, 19, 0, 1, 2, 3, 4, 5, 16, 17, 18, 19], [5, 20]), ([0, 1, 2, 3, 4, 5, 6, 7, 16, 17, 18, 19, 20, 21], []), ([22, 7, 21, 0, 1, 2, 3, 4, 5, 6, 7, 16, 17, 18, 19, 20, 21], [7, 22]), ([0, 1, 2, 3, 4, 5, 6, 7, 8, 9, 16, 17, 18, 19, 20, 21, 22, 23], []), ([24, 9, 23, 0, 1, 2, 3, 4, 5, 6, 7, 8, 9, 16, 17, 18, 19, 20, 21, 22, 23], [9, 24]), ([0, 1, 2, 3, 4, 5, 6, 7, 8, 9, 10, 11, 16, 17, 18, 19, 20, 21, 22, 23, 24, 25], []), ([26, 11, 25, 0, 1, 2, 3, 4, 5, 6, 7, 8, 9, 10, 11, 16, 17, 18, 19, 20, 21, 22, 23, 24, 25], [11, 26]), ([0, 1, 2, 3, 4, 5, 6, 7, 8, 9, 10, 11, 12, 13, 16, 17, 18, 19, 20, 21, 22, 23, 24, 25, 26, 27], []), ([28, 13, 27, 0, 1, 2, 3, 4, 5, 6, 7, 8, 9, 10, 11, 12, 13, 16, 17, 18, 19, 20, 21, 22, 23, 24, 25, 26, 27], [13, 28]), ([0, 1, 2, 3, 4, 5, 6, 7, 8, 9, 10, 11, 12, 13, 14, 15, 16, 17, 18, 19, 20, 21, 22, 23, 24, 25, 26, 27, 28, 29], []), ([30, 15, 29, 0, 1, 2, 3, 4, 5, 6, 7, 8, 9, 10, 11, 12, 13, 14, 15, 16, 17, 18, 19, 20, 21, 22, 23, 24, 25, 26, 27, 28, 29], [15, 30])])
def roadbookref07_Bare.B24 : List Nat := [0, 1, 0, 4, 0, 16, 0, 64, 0, 256, 0, 1024, 0, 4096, 0, 16384, 3, 65539, 196623, 458767, 983103, 2031679, 4129023, 8323327, 16712703, 33489919, 67047423, 134156287, 268386303, 536821759, 1073741823, 2147483647]
theorem roadbookref07_Bare.tab24 : rtab .any (opsOf Try.f56 24) = roadbookref07_Bare.T24 := by kernel_rfl
theorem roadbookref07_Bare.bits24 : waitsOk roadbookref07_Bare.T24.2 roadbookref07_Bare.B24 = true := by kernel_rfl
def roadbookref07_Bare.T26 : Bool × List (List Nat × List Nat) := (true, [([], []), ([0], [0]), ([], []), ([2], [2]), ([], []), ([4], [4]), ([0, 1], []), ([6, 1, 0, 1], [1, 6]), ([0, 1, 2, 3, 6, 7], []), ([8, 3, 7, 0, 1, 2, 3, 6, 7], [3, 8]), ([0, 1, 2, 3, 4, 5, 6, 7, 8, 9], []), ([10, 5, 9, 0, 1, 2, 3, 4, 5, 6, 7, 8, 9], [5, 10])])
def roadbookref07_Bare.B26 : List Nat := [0, 1, 0, 4, 0, 16, 3, 67, 207, 463, 1023, 2047]
theorem roadbookref07_Bare.tab26 : rtab .any (opsOf Try.f56 26) = roadbookref07_Bare.T26 := by kernel_rfl
theorem roadbookref07_Bare.bits26 : waitsOk roadbookref07_Bare.T26.2 roadbookref07_Bare.B26 = true := by kernel_rfl
def roadbookref07_Bare.T28 : Bool × List (List Nat × List Nat) := (true, [([], []), ([0], [0]), ([], []), ([2], [2]), ([], []), ([4], [4]), ([], []), ([6], [6]), ([], []), ([8], [8]), ([], []), ([10], [10]), ([0, 1], []), ([12, 1, 0, 1], [1, 12]), ([0, 1, 2, 3, 12, 13], []), ([14, 3, 13, 0, 1, 2, 3, 12, 13], [3, 14]), ([0, 1, 2, 3, 4, 5, 12, 13, 14, 15], []), ([16, 5, 15, 0, 1, 2, 3, 4, 5, 12, 13, 14, 15], [5, 16]), ([0, 1, 2, 3, 4, 5, 6, 7, 12, 13, 14, 15, 16, 17], []), ([18, 7, 17, 0, 1, 2, 3, 4, 5, 6, 7, 12, 13, 14, 15, 16, 17], [7, 18]), ([0, 1, 2, 3, 4, 5, 6, 7, 8, 9, 12, 13, 14, 15, 16, 17, 18, 19], []), ([20, 9, 19, 0, 1, 2, 3, 4, 5, 6, 7, 8, 9, 12, 13, 14, 15, 16, 17, 18, 19], [9, 20]), ([0, 1, 2, 3, 4, 5, 6, 7, 8, 9, 10, 11, 12, 13, 14, 15, 16, 17, 18, 19, 20, 21], []), ([22, 11, 21, 0, 1, 2, 3, 4, 5, 6, 7, 8, 9, 10, 11, 12, 13, 14, 15, 16, 17, 18, 19, 20, 21], [11, 22])])
def roadbookref07_Bare.B28 : List Nat := [0, 1, 0, 4, 0, 16, 0, 64, 0, 256, 0, 1024, 3, 4099, 12303, 28687, 61503, 127039, 258303, 520447, 1045503, 2094079, 4194303, 8388607]
theorem roadbookref07_Bare.tab28 : rtab .any (opsOf Try.f56 28) = roadbookref07_Bare.T28 := by kernel_rfl
theorem roadbookref07_Bare.bits28 : waitsOk roadbookref07_Bare.T28.2 roadbookref07_Bare.B28 = true := by kernel_rfl
def roadbookref07_Bare.f (k : Nat) (aD : Int) (aw : Int) (ax : Int) (au : ByteArray) (aA : Int) (ay : Int) (av : ByteArray) (ar : Int) (aC : Int) (az : ByteArray) (ao : Int) (am : ByteArray) (ah : Int) (aj : Int) (ak : Int) (ae : Int) (ag : Int) (ai : Int) (an : Int) (aa : ByteArray) (ab : ByteArray) (ac : List S46) (ap : Int) (aq : ByteArray) (af : List S48) : Option Bool := if aD = 1 then roadbookref07_Same.f k 1 aw ax au aA 0 av ar aC az ao ⟨#[]⟩ 0 0 0 0 0 0 0 ⟨#[]⟩ ⟨#[]⟩ [] 0 ⟨#[]⟩ [] 1 aw ax au aA ay av ar aC az ao am ah aj ak ae ag ai an aa ab ac ap aq af else if aD = 2 then roadbookref07_Same.f k 2 aw 0 ⟨#[]⟩ 0 0 av ar aC az ao ⟨#[]⟩ 0 0 0 0 0 0 0 ⟨#[]⟩ ⟨#[]⟩ [] 0 ⟨#[]⟩ [] 2 aw ax au aA ay av ar aC az ao am ah aj ak ae ag ai an aa ab ac ap aq af else if aD = 3 then roadbookref07_Same.f k 3 0 0 ⟨#[]⟩ 0 0 ⟨#[]⟩ 0 0 ⟨#[]⟩ 0 ⟨#[]⟩ ah aj 0 ae ag ai 0 aa ab [] 0 ⟨#[]⟩ af 3 aw ax au aA ay av ar aC az ao am ah aj ak ae ag ai an aa ab ac ap aq af else if aD = 4 then roadbookref07_Same.f k 4 0 0 ⟨#[]⟩ 0 0 ⟨#[]⟩ ar 0 ⟨#[]⟩ 0 ⟨#[]⟩ ah 0 ak ae ag 0 0 aa ab [] 0 ⟨#[]⟩ af 4 aw ax au aA ay av ar aC az ao am ah aj ak ae ag ai an aa ab ac ap aq af else if aD = 5 then roadbookref07_Same.f k 5 0 0 ⟨#[]⟩ 0 0 ⟨#[]⟩ 0 0 ⟨#[]⟩ 0 ⟨#[]⟩ 0 0 0 ae 0 0 0 ⟨#[]⟩ ⟨#[]⟩ ac 0 ⟨#[]⟩ af 5 aw ax au aA ay av ar aC az ao am ah aj ak ae ag ai an aa ab ac ap aq af else if aD = 6 then roadbookref07_Same.f k 6 0 0 ⟨#[]⟩ 0 0 ⟨#[]⟩ 0 0 ⟨#[]⟩ 0 ⟨#[]⟩ 0 0 0 0 0 0 0 ⟨#[]⟩ ⟨#[]⟩ [] 0 ⟨#[]⟩ af 6 aw ax au aA ay av ar aC az ao am ah aj ak ae ag ai an aa ab ac ap aq af else if aD = 7 then roadbookref07_Same.f k 7 0 0 ⟨#[]⟩ 0 0 ⟨#[]⟩ 0 0 ⟨#[]⟩ 0 ⟨#[]⟩ 0 0 ak 0 0 ai 0 ⟨#[]⟩ ⟨#[]⟩ [] 0 ⟨#[]⟩ af 7 aw ax au aA ay av ar aC az ao am ah aj ak ae ag ai an aa ab ac ap aq af else if aD = 8 then roadbookref07_Same.f k 8 0 0 ⟨#[]⟩ 0 0 ⟨#[]⟩ 0 0 ⟨#[]⟩ 0 ⟨#[]⟩ 0 0 0 0 0 ai 0 ⟨#[]⟩ ⟨#[]⟩ [] 0 ⟨#[]⟩ af 8 aw ax au aA ay av ar aC az ao am ah aj ak ae ag ai an aa ab ac ap aq af else if aD = 9 then roadbookref07_Same.f k 9 0 0 ⟨#[]⟩ 0 0 ⟨#[]⟩ 0 0 ⟨#[]⟩ 0 ⟨#[]⟩ ah 0 ak ae 0 0 0 ⟨#[]⟩ ⟨#[]⟩ [] 0 ⟨#[]⟩ af 9 aw ax au aA ay av ar aC az ao am ah aj ak ae ag ai an aa ab ac ap aq af else if aD = 10 then roadbookref07_Same.f k 10 0 0 ⟨#[]⟩ 0 ay ⟨#[]⟩ 0 0 ⟨#[]⟩ 0 ⟨#[]⟩ 0 0 ak 0 0 0 an aa ⟨#[]⟩ [] 0 ⟨#[]⟩ af 10 aw ax au aA ay av ar aC az ao am ah aj ak ae ag ai an aa ab ac ap aq af else if aD = 11 then roadbookref07_Same.f k 11 0 0 ⟨#[]⟩ 0 ay av ar 0 az ao am ah 0 ak 0 0 0 0 ⟨#[]⟩ ⟨#[]⟩ [] 0 ⟨#[]⟩ af 11 aw ax au aA ay av ar aC az ao am ah aj ak ae ag ai an aa ab ac ap aq af else if aD = 12 then roadbookref07_Same.f k 12 0 0 ⟨#[]⟩ 0 ay av ar 0 ⟨#[]⟩ 0 ⟨#[]⟩ 0 0 0 0 0 0 0 ⟨#[]⟩ ⟨#[]⟩ [] 0 ⟨#[]⟩ af 12 aw ax au aA ay av ar aC az ao am ah aj ak ae ag ai an aa ab ac ap aq af else if aD = 13 then roadbookref07_Same.f k 13 0 0 ⟨#[]⟩ 0 ay av ar 0 ⟨#[]⟩ 0 am ah 0 0 0 ag 0 0 ⟨#[]⟩ ⟨#[]⟩ [] 0 ⟨#[]⟩ af 13 aw ax au aA ay av ar aC az ao am ah aj ak ae ag ai an aa ab ac ap aq af else if aD = 14 then roadbookref07_Same.f k 14 0 0 ⟨#[]⟩ 0 0 ⟨#[]⟩ 0 0 ⟨#[]⟩ 0 ⟨#[]⟩ 0 0 0 0 0 0 0 ⟨#[]⟩ ⟨#[]⟩ [] ap aq [] 14 aw ax au aA ay av ar aC az ao am ah aj ak ae ag ai an aa ab ac ap aq af else some false
theorem roadbookref07_Bare.mono : ∀ aD aw ax au aA ay av ar aC az ao am ah aj ak ae ag ai an aa ab ac ap aq af k, LeO (roadbookref07_Bare.f k aD aw ax au aA ay av ar aC az ao am ah aj ak ae ag ai an aa ab ac ap aq af) (roadbookref07_Bare.f (k + 1) aD aw ax au aA ay av ar aC az ao am ah aj ak ae ag ai an aa ab ac ap aq af) := by
 intro aD aw ax au aA ay av ar aC az ao am ah aj ak ae ag ai an aa ab ac ap aq af k
 unfold roadbookref07_Bare.f
 by_cases c1 : aD = 1
 ·rw [if_pos c1, if_pos c1]; exact roadbookref07_Same.mono _ _ _ _ _ _ _ _ _ _ _ _ _ _ _ _ _ _ _ _ _ _ _ _ _ _ _ _ _ _ _ _ _ _ _ _ _ _ _ _ _ _ _ _ _ _ _ _ _ _ _
 rw [if_neg c1, if_neg c1]; clear c1
 by_cases c2 : aD = 2
 ·rw [if_pos c2, if_pos c2]; exact roadbookref07_Same.mono _ _ _ _ _ _ _ _ _ _ _ _ _ _ _ _ _ _ _ _ _ _ _ _ _ _ _ _ _ _ _ _ _ _ _ _ _ _ _ _ _ _ _ _ _ _ _ _ _ _ _
 rw [if_neg c2, if_neg c2]; clear c2
 by_cases c3 : aD = 3
 ·rw [if_pos c3, if_pos c3]; exact roadbookref07_Same.mono _ _ _ _ _ _ _ _ _ _ _ _ _ _ _ _ _ _ _ _ _ _ _ _ _ _ _ _ _ _ _ _ _ _ _ _ _ _ _ _ _ _ _ _ _ _ _ _ _ _ _
 rw [if_neg c3, if_neg c3]; clear c3
 by_cases c4 : aD = 4
 ·rw [if_pos c4, if_pos c4]; exact roadbookref07_Same.mono _ _ _ _ _ _ _ _ _ _ _ _ _ _ _ _ _ _ _ _ _ _ _ _ _ _ _ _ _ _ _ _ _ _ _ _ _ _ _ _ _ _ _ _ _ _ _ _ _ _ _
 rw [if_neg c4, if_neg c4]; clear c4
 by_cases c5 : aD = 5
 ·rw [if_pos c5, if_pos c5]; exact roadbookref07_Same.mono _ _ _ _ _ _ _ _ _ _ _ _ _ _ _ _ _ _ _ _ _ _ _ _ _ _ _ _ _ _ _ _ _ _ _ _ _ _ _ _ _ _ _ _ _ _ _ _ _ _ _
 rw [if_neg c5, if_neg c5]; clear c5
 by_cases c6 : aD = 6
 ·rw [if_pos c6, if_pos c6]; exact roadbookref07_Same.mono _ _ _ _ _ _ _ _ _ _ _ _ _ _ _ _ _ _ _ _ _ _ _ _ _ _ _ _ _ _ _ _ _ _ _ _ _ _ _ _ _ _ _ _ _ _ _ _ _ _ _
 rw [if_neg c6, if_neg c6]; clear c6
 by_cases c7 : aD = 7
 ·rw [if_pos c7, if_pos c7]; exact roadbookref07_Same.mono _ _ _ _ _ _ _ _ _ _ _ _ _ _ _ _ _ _ _ _ _ _ _ _ _ _ _ _ _ _ _ _ _ _ _ _ _ _ _ _ _ _ _ _ _ _ _ _ _ _ _
 rw [if_neg c7, if_neg c7]; clear c7
 by_cases c8 : aD = 8
 ·rw [if_pos c8, if_pos c8]; exact roadbookref07_Same.mono _ _ _ _ _ _ _ _ _ _ _ _ _ _ _ _ _ _ _ _ _ _ _ _ _ _ _ _ _ _ _ _ _ _ _ _ _ _ _ _ _ _ _ _ _ _ _ _ _ _ _
 rw [if_neg c8, if_neg c8]; clear c8
 by_cases c9 : aD = 9
 ·rw [if_pos c9, if_pos c9]; exact roadbookref07_Same.mono _ _ _ _ _ _ _ _ _ _ _ _ _ _ _ _ _ _ _ _ _ _ _ _ _ _ _ _ _ _ _ _ _ _ _ _ _ _ _ _ _ _ _ _ _ _ _ _ _ _ _
 rw [if_neg c9, if_neg c9]; clear c9
 by_cases dv : aD = 10
 ·rw [if_pos dv, if_pos dv]; exact roadbookref07_Same.mono _ _ _ _ _ _ _ _ _ _ _ _ _ _ _ _ _ _ _ _ _ _ _ _ _ _ _ _ _ _ _ _ _ _ _ _ _ _ _ _ _ _ _ _ _ _ _ _ _ _ _
 rw [if_neg dv, if_neg dv]; clear dv
 by_cases dC : aD = 11
 ·rw [if_pos dC, if_pos dC]; exact roadbookref07_Same.mono _ _ _ _ _ _ _ _ _ _ _ _ _ _ _ _ _ _ _ _ _ _ _ _ _ _ _ _ _ _ _ _ _ _ _ _ _ _ _ _ _ _ _ _ _ _ _ _ _ _ _
 rw [if_neg dC, if_neg dC]; clear dC
 by_cases dP : aD = 12
 ·rw [if_pos dP, if_pos dP]; exact roadbookref07_Same.mono _ _ _ _ _ _ _ _ _ _ _ _ _ _ _ _ _ _ _ _ _ _ _ _ _ _ _ _ _ _ _ _ _ _ _ _ _ _ _ _ _ _ _ _ _ _ _ _ _ _ _
 rw [if_neg dP, if_neg dP]; clear dP
 by_cases dB : aD = 13
 ·rw [if_pos dB, if_pos dB]; exact roadbookref07_Same.mono _ _ _ _ _ _ _ _ _ _ _ _ _ _ _ _ _ _ _ _ _ _ _ _ _ _ _ _ _ _ _ _ _ _ _ _ _ _ _ _ _ _ _ _ _ _ _ _ _ _ _
 rw [if_neg dB, if_neg dB]; clear dB
 by_cases dQ : aD = 14
 ·rw [if_pos dQ, if_pos dQ]; exact roadbookref07_Same.mono _ _ _ _ _ _ _ _ _ _ _ _ _ _ _ _ _ _ _ _ _ _ _ _ _ _ _ _ _ _ _ _ _ _ _ _ _ _ _ _ _ _ _ _ _ _ _ _ _ _ _
 rw [if_neg dQ, if_neg dQ]; clear dQ
 exact fun _ h => h
theorem roadbookref07_Bare.f1 (k : Nat) (aw : Int) (ax : Int) (au : ByteArray) (aA : Int) (ay : Int) (av : ByteArray) (ar : Int) (aC : Int) (az : ByteArray) (ao : Int) (am : ByteArray) (ah : Int) (aj : Int) (ak : Int) (ae : Int) (ag : Int) (ai : Int) (an : Int) (aa : ByteArray) (ab : ByteArray) (ac : List S46) (ap : Int) (aq : ByteArray) (af : List S48) : roadbookref07_Bare.f k 1 aw ax au aA ay av ar aC az ao am ah aj ak ae ag ai an aa ab ac ap aq af = roadbookref07_Same.f k 1 aw ax au aA 0 av ar aC az ao ⟨#[]⟩ 0 0 0 0 0 0 0 ⟨#[]⟩ ⟨#[]⟩ [] 0 ⟨#[]⟩ [] 1 aw ax au aA ay av ar aC az ao am ah aj ak ae ag ai an aa ab ac ap aq af := by
 unfold roadbookref07_Bare.f
 simp (config := {decide := true}) only [if_true, if_false]
theorem roadbookref07_Bare.f2 (k : Nat) (aw : Int) (ax : Int) (au : ByteArray) (aA : Int) (ay : Int) (av : ByteArray) (ar : Int) (aC : Int) (az : ByteArray) (ao : Int) (am : ByteArray) (ah : Int) (aj : Int) (ak : Int) (ae : Int) (ag : Int) (ai : Int) (an : Int) (aa : ByteArray) (ab : ByteArray) (ac : List S46) (ap : Int) (aq : ByteArray) (af : List S48) : roadbookref07_Bare.f k 2 aw ax au aA ay av ar aC az ao am ah aj ak ae ag ai an aa ab ac ap aq af = roadbookref07_Same.f k 2 aw 0 ⟨#[]⟩ 0 0 av ar aC az ao ⟨#[]⟩ 0 0 0 0 0 0 0 ⟨#[]⟩ ⟨#[]⟩ [] 0 ⟨#[]⟩ [] 2 aw ax au aA ay av ar aC az ao am ah aj ak ae ag ai an aa ab ac ap aq af := by
 unfold roadbookref07_Bare.f
 simp (config := {decide := true}) only [if_true, if_false]
theorem roadbookref07_Bare.f3 (k : Nat) (aw : Int) (ax : Int) (au : ByteArray) (aA : Int) (ay : Int) (av : ByteArray) (ar : Int) (aC : Int) (az : ByteArray) (ao : Int) (am : ByteArray) (ah : Int) (aj : Int) (ak : Int) (ae : Int) (ag : Int) (ai : Int) (an : Int) (aa : ByteArray) (ab : ByteArray) (ac : List S46) (ap : Int) (aq : ByteArray) (af : List S48) : roadbookref07_Bare.f k 3 aw ax au aA ay av ar aC az ao am ah aj ak ae ag ai an aa ab ac ap aq af = roadbookref07_Same.f k 3 0 0 ⟨#[]⟩ 0 0 ⟨#[]⟩ 0 0 ⟨#[]⟩ 0 ⟨#[]⟩ ah aj 0 ae ag ai 0 aa ab [] 0 ⟨#[]⟩ af 3 aw ax au aA ay av ar aC az ao am ah aj ak ae ag ai an aa ab ac ap aq af := by
 unfold roadbookref07_Bare.f
 simp (config := {decide := true}) only [if_true, if_false]
theorem roadbookref07_Bare.f4 (k : Nat) (aw : Int) (ax : Int) (au : ByteArray) (aA : Int) (ay : Int) (av : ByteArray) (ar : Int) (aC : Int) (az : ByteArray) (ao : Int) (am : ByteArray) (ah : Int) (aj : Int) (ak : Int) (ae : Int) (ag : Int) (ai : Int) (an : Int) (aa : ByteArray) (ab : ByteArray) (ac : List S46) (ap : Int) (aq : ByteArray) (af : List S48) : roadbookref07_Bare.f k 4 aw ax au aA ay av ar aC az ao am ah aj ak ae ag ai an aa ab ac ap aq af = roadbookref07_Same.f k 4 0 0 ⟨#[]⟩ 0 0 ⟨#[]⟩ ar 0 ⟨#[]⟩ 0 ⟨#[]⟩ ah 0 ak ae ag 0 0 aa ab [] 0 ⟨#[]⟩ af 4 aw ax au aA ay av ar aC az ao am ah aj ak ae ag ai an aa ab ac ap aq af := by
 unfold roadbookref07_Bare.f
 simp (config := {decide := true}) only [if_true, if_false]
theorem roadbookref07_Bare.f5 (k : Nat) (aw : Int) (ax : Int) (au : ByteArray) (aA : Int) (ay : Int) (av : ByteArray) (ar : Int) (aC : Int) (az : ByteArray) (ao : Int) (am : ByteArray) (ah : Int) (aj : Int) (ak : Int) (ae : Int) (ag : Int) (ai : Int) (an : Int) (aa : ByteArray) (ab : ByteArray) (ac : List S46) (ap : Int) (aq : ByteArray) (af : List S48) : roadbookref07_Bare.f k 5 aw ax au aA ay av ar aC az ao am ah aj ak ae ag ai an aa ab ac ap aq af = roadbookref07_Same.f k 5 0 0 ⟨#[]⟩ 0 0 ⟨#[]⟩ 0 0 ⟨#[]⟩ 0 ⟨#[]⟩ 0 0 0 ae 0 0 0 ⟨#[]⟩ ⟨#[]⟩ ac 0 ⟨#[]⟩ af 5 aw ax au aA ay av ar aC az ao am ah aj ak ae ag ai an aa ab ac ap aq af := by
 unfold roadbookref07_Bare.f
 simp (config := {decide := true}) only [if_true, if_false]
theorem roadbookref07_Bare.f6 (k : Nat) (aw : Int) (ax : Int) (au : ByteArray) (aA : Int) (ay : Int) (av : ByteArray) (ar : Int) (aC : Int) (az : ByteArray) (ao : Int) (am : ByteArray) (ah : Int) (aj : Int) (ak : Int) (ae : Int) (ag : Int) (ai : Int) (an : Int) (aa : ByteArray) (ab : ByteArray) (ac : List S46) (ap : Int) (aq : ByteArray) (af : List S48) : roadbookref07_Bare.f k 6 aw ax au aA ay av ar aC az ao am ah aj ak ae ag ai an aa ab ac ap aq af = roadbookref07_Same.f k 6 0 0 ⟨#[]⟩ 0 0 ⟨#[]⟩ 0 0 ⟨#[]⟩ 0 ⟨#[]⟩ 0 0 0 0 0 0 0 ⟨#[]⟩ ⟨#[]⟩ [] 0 ⟨#[]⟩ af 6 aw ax au aA ay av ar aC az ao am ah aj ak ae ag ai an aa ab ac ap aq af := by
 unfold roadbookref07_Bare.f
 simp (config := {decide := true}) only [if_true, if_false]
theorem roadbookref07_Bare.f7 (k : Nat) (aw : Int) (ax : Int) (au : ByteArray) (aA : Int) (ay : Int) (av : ByteArray) (ar : Int) (aC : Int) (az : ByteArray) (ao : Int) (am : ByteArray) (ah : Int) (aj : Int) (ak : Int) (ae : Int) (ag : Int) (ai : Int) (an : Int) (aa : ByteArray) (ab : ByteArray) (ac : List S46) (ap : Int) (aq : ByteArray) (af : List S48) : roadbookref07_Bare.f k 7 aw ax au aA ay av ar aC az ao am ah aj ak ae ag ai an aa ab ac ap aq af = roadbookref07_Same.f k 7 0 0 ⟨#[]⟩ 0 0 ⟨#[]⟩ 0 0 ⟨#[]⟩ 0 ⟨#[]⟩ 0 0 ak 0 0 ai 0 ⟨#[]⟩ ⟨#[]⟩ [] 0 ⟨#[]⟩ af 7 aw ax au aA ay av ar aC az ao am ah aj ak ae ag ai an aa ab ac ap aq af := by
 unfold roadbookref07_Bare.f
 simp (config := {decide := true}) only [if_true, if_false]
theorem roadbookref07_Bare.f8 (k : Nat) (aw : Int) (ax : Int) (au : ByteArray) (aA : Int) (ay : Int) (av : ByteArray) (ar : Int) (aC : Int) (az : ByteArray) (ao : Int) (am : ByteArray) (ah : Int) (aj : Int) (ak : Int) (ae : Int) (ag : Int) (ai : Int) (an : Int) (aa : ByteArray) (ab : ByteArray) (ac : List S46) (ap : Int) (aq : ByteArray) (af : List S48) : roadbookref07_Bare.f k 8 aw ax au aA ay av ar aC az ao am ah aj ak ae ag ai an aa ab ac ap aq af = roadbookref07_Same.f k 8 0 0 ⟨#[]⟩ 0 0 ⟨#[]⟩ 0 0 ⟨#[]⟩ 0 ⟨#[]⟩ 0 0 0 0 0 ai 0 ⟨#[]⟩ ⟨#[]⟩ [] 0 ⟨#[]⟩ af 8 aw ax au aA ay av ar aC az ao am ah aj ak ae ag ai an aa ab ac ap aq af := by
 unfold roadbookref07_Bare.f
 simp (config := {decide := true}) only [if_true, if_false]
theorem roadbookref07_Bare.f9 (k : Nat) (aw : Int) (ax : Int) (au : ByteArray) (aA : Int) (ay : Int) (av : ByteArray) (ar : Int) (aC : Int) (az : ByteArray) (ao : Int) (am : ByteArray) (ah : Int) (aj : Int) (ak : Int) (ae : Int) (ag : Int) (ai : Int) (an : Int) (aa : ByteArray) (ab : ByteArray) (ac : List S46) (ap : Int) (aq : ByteArray) (af : List S48) : roadbookref07_Bare.f k 9 aw ax au aA ay av ar aC az ao am ah aj ak ae ag ai an aa ab ac ap aq af = roadbookref07_Same.f k 9 0 0 ⟨#[]⟩ 0 0 ⟨#[]⟩ 0 0 ⟨#[]⟩ 0 ⟨#[]⟩ ah 0 ak ae 0 0 0 ⟨#[]⟩ ⟨#[]⟩ [] 0 ⟨#[]⟩ af 9 aw ax au aA ay av ar aC az ao am ah aj ak ae ag ai an aa ab ac ap aq af := by
 unfold roadbookref07_Bare.f
 simp (config := {decide := true}) only [if_true, if_false]
theorem roadbookref07_Bare.f10 (k : Nat) (aw : Int) (ax : Int) (au : ByteArray) (aA : Int) (ay : Int) (av : ByteArray) (ar : Int) (aC : Int) (az : ByteArray) (ao : Int) (am : ByteArray) (ah : Int) (aj : Int) (ak : Int) (ae : Int) (ag : Int) (ai : Int) (an : Int) (aa : ByteArray) (ab : ByteArray) (ac : List S46) (ap : Int) (aq : ByteArray) (af : List S48) : roadbookref07_Bare.f k 10 aw ax au aA ay av ar aC az ao am ah aj ak ae ag ai an aa ab ac ap aq af = roadbookref07_Same.f k 10 0 0 ⟨#[]⟩ 0 ay ⟨#[]⟩ 0 0 ⟨#[]⟩ 0 ⟨#[]⟩ 0 0 ak 0 0 0 an aa ⟨#[]⟩ [] 0 ⟨#[]⟩ af 10 aw ax au aA ay av ar aC az ao am ah aj ak ae ag ai an aa ab ac ap aq af := by
 unfold roadbookref07_Bare.f
 simp (config := {decide := true}) only [if_true, if_false]
theorem roadbookref07_Bare.f11 (k : Nat) (aw : Int) (ax : Int) (au : ByteArray) (aA : Int) (ay : Int) (av : ByteArray) (ar : Int) (aC : Int) (az : ByteArray) (ao : Int) (am : ByteArray) (ah : Int) (aj : Int) (ak : Int) (ae : Int) (ag : Int) (ai : Int) (an : Int) (aa : ByteArray) (ab : ByteArray) (ac : List S46) (ap : Int) (aq : ByteArray) (af : List S48) : roadbookref07_Bare.f k 11 aw ax au aA ay av ar aC az ao am ah aj ak ae ag ai an aa ab ac ap aq af = roadbookref07_Same.f k 11 0 0 ⟨#[]⟩ 0 ay av ar 0 az ao am ah 0 ak 0 0 0 0 ⟨#[]⟩ ⟨#[]⟩ [] 0 ⟨#[]⟩ af 11 aw ax au aA ay av ar aC az ao am ah aj ak ae ag ai an aa ab ac ap aq af := by
 unfold roadbookref07_Bare.f
 simp (config := {decide := true}) only [if_true, if_false]
theorem roadbookref07_Bare.f12 (k : Nat) (aw : Int) (ax : Int) (au : ByteArray) (aA : Int) (ay : Int) (av : ByteArray) (ar : Int) (aC : Int) (az : ByteArray) (ao : Int) (am : ByteArray) (ah : Int) (aj : Int) (ak : Int) (ae : Int) (ag : Int) (ai : Int) (an : Int) (aa : ByteArray) (ab : ByteArray) (ac : List S46) (ap : Int) (aq : ByteArray) (af : List S48) : roadbookref07_Bare.f k 12 aw ax au aA ay av ar aC az ao am ah aj ak ae ag ai an aa ab ac ap aq af = roadbookref07_Same.f k 12 0 0 ⟨#[]⟩ 0 ay av ar 0 ⟨#[]⟩ 0 ⟨#[]⟩ 0 0 0 0 0 0 0 ⟨#[]⟩ ⟨#[]⟩ [] 0 ⟨#[]⟩ af 12 aw ax au aA ay av ar aC az ao am ah aj ak ae ag ai an aa ab ac ap aq af := by
 unfold roadbookref07_Bare.f
 simp (config := {decide := true}) only [if_true, if_false]
theorem roadbookref07_Bare.f13 (k : Nat) (aw : Int) (ax : Int) (au : ByteArray) (aA : Int) (ay : Int) (av : ByteArray) (ar : Int) (aC : Int) (az : ByteArray) (ao : Int) (am : ByteArray) (ah : Int) (aj : Int) (ak : Int) (ae : Int) (ag : Int) (ai : Int) (an : Int) (aa : ByteArray) (ab : ByteArray) (ac : List S46) (ap : Int) (aq : ByteArray) (af : List S48) : roadbookref07_Bare.f k 13 aw ax au aA ay av ar aC az ao am ah aj ak ae ag ai an aa ab ac ap aq af = roadbookref07_Same.f k 13 0 0 ⟨#[]⟩ 0 ay av ar 0 ⟨#[]⟩ 0 am ah 0 0 0 ag 0 0 ⟨#[]⟩ ⟨#[]⟩ [] 0 ⟨#[]⟩ af 13 aw ax au aA ay av ar aC az ao am ah aj ak ae ag ai an aa ab ac ap aq af := by
 unfold roadbookref07_Bare.f
 simp (config := {decide := true}) only [if_true, if_false]
theorem roadbookref07_Bare.f14 (k : Nat) (aw : Int) (ax : Int) (au : ByteArray) (aA : Int) (ay : Int) (av : ByteArray) (ar : Int) (aC : Int) (az : ByteArray) (ao : Int) (am : ByteArray) (ah : Int) (aj : Int) (ak : Int) (ae : Int) (ag : Int) (ai : Int) (an : Int) (aa : ByteArray) (ab : ByteArray) (ac : List S46) (ap : Int) (aq : ByteArray) (af : List S48) : roadbookref07_Bare.f k 14 aw ax au aA ay av ar aC az ao am ah aj ak ae ag ai an aa ab ac ap aq af = roadbookref07_Same.f k 14 0 0 ⟨#[]⟩ 0 0 ⟨#[]⟩ 0 0 ⟨#[]⟩ 0 ⟨#[]⟩ 0 0 0 0 0 0 0 ⟨#[]⟩ ⟨#[]⟩ [] ap aq [] 14 aw ax au aA ay av ar aC az ao am ah aj ak ae ag ai an aa ab ac ap aq af := by
 unfold roadbookref07_Bare.f
 simp (config := {decide := true}) only [if_true, if_false]
theorem roadbookref07_Bare.fno (k : Nat) (aD : Int) (aw : Int) (ax : Int) (au : ByteArray) (aA : Int) (ay : Int) (av : ByteArray) (ar : Int) (aC : Int) (az : ByteArray) (ao : Int) (am : ByteArray) (ah : Int) (aj : Int) (ak : Int) (ae : Int) (ag : Int) (ai : Int) (an : Int) (aa : ByteArray) (ab : ByteArray) (ac : List S46) (ap : Int) (aq : ByteArray) (af : List S48) (h : ¬ (1 ≤ aD ∧ aD ≤ 14)) : roadbookref07_Bare.f k aD aw ax au aA ay av ar aC az ao am ah aj ak ae ag ai an aa ab ac ap aq af = some false := by
 unfold roadbookref07_Bare.f
 rw [if_neg Z29]
 rw [if_neg Z29]
 rw [if_neg Z29]
 rw [if_neg Z29]
 rw [if_neg Z29]
 rw [if_neg Z29]
 rw [if_neg Z29]
 rw [if_neg Z29]
 rw [if_neg Z29]
 rw [if_neg Z29]
 rw [if_neg Z29]
 rw [if_neg Z29]
 rw [if_neg Z29]
 rw [if_neg Z29]
set_option maxRecDepth 100000 in
theorem roadbookref07_Bare.bd8 (v0 : Int) (dN : Option Addr) (n24 C24 : Nat) : Try.prog.built 25 [(0, .int .i64 v0), (24, .slice dN n24 C24)] = some #[.int .i64 v0, .int .i64 0, .int .i64 0, .string ⟨#[]⟩, .int .i64 0, .int .i64 0, .string ⟨#[]⟩, .int .i64 0, .int .i64 0, .string ⟨#[]⟩, .int .i64 0, .string ⟨#[]⟩, .int .i64 0, .int .i64 0, .int .i64 0, .int .i64 0, .int .i64 0, .int .i64 0, .int .i64 0, .string ⟨#[]⟩, .string ⟨#[]⟩, .slice none 0 0, .int .i64 0, .string ⟨#[]⟩, .slice dN n24 C24] := by kernel_rfl
set_option maxRecDepth 100000 in
theorem roadbookref07_Bare.bd33 (v0 : Int) (v1 : Int) (v2 : Int) (v3 : ByteArray) (v4 : Int) (v8 : Int) (v6 : ByteArray) (v7 : Int) (v9 : ByteArray) (hV : Int) : Try.prog.built 25 [(0, .int .i64 v0), (1, .int .i64 v1), (2, .int .i64 v2), (3, .string v3), (4, .int .i64 v4), (8, .int .i64 v8), (6, .string v6), (7, .int .i64 v7), (9, .string v9), (10, .int .i64 hV)] = some #[.int .i64 v0, .int .i64 v1, .int .i64 v2, .string v3, .int .i64 v4, .int .i64 0, .string v6, .int .i64 v7, .int .i64 v8, .string v9, .int .i64 hV, .string ⟨#[]⟩, .int .i64 0, .int .i64 0, .int .i64 0, .int .i64 0, .int .i64 0, .int .i64 0, .int .i64 0, .string ⟨#[]⟩, .string ⟨#[]⟩, .slice none 0 0, .int .i64 0, .string ⟨#[]⟩, .slice none 0 0] := by kernel_rfl
set_option maxRecDepth 100000 in
theorem roadbookref07_Bare.bd50 (v0 : Int) (v1 : Int) (v8 : Int) (v6 : ByteArray) (v7 : Int) (v9 : ByteArray) (hV : Int) : Try.prog.built 25 [(0, .int .i64 v0), (1, .int .i64 v1), (8, .int .i64 v8), (6, .string v6), (7, .int .i64 v7), (9, .string v9), (10, .int .i64 hV)] = some #[.int .i64 v0, .int .i64 v1, .int .i64 0, .string ⟨#[]⟩, .int .i64 0, .int .i64 0, .string v6, .int .i64 v7, .int .i64 v8, .string v9, .int .i64 hV, .string ⟨#[]⟩, .int .i64 0, .int .i64 0, .int .i64 0, .int .i64 0, .int .i64 0, .int .i64 0, .int .i64 0, .string ⟨#[]⟩, .string ⟨#[]⟩, .slice none 0 0, .int .i64 0, .string ⟨#[]⟩, .slice none 0 0] := by kernel_rfl
set_option maxRecDepth 100000 in
theorem roadbookref07_Bare.bd210 (v0 : Int) (jx : Int) (mr : ByteArray) : Try.prog.built 25 [(0, .int .i64 v0), (22, .int .i64 jx), (23, .string mr)] = some #[.int .i64 v0, .int .i64 0, .int .i64 0, .string ⟨#[]⟩, .int .i64 0, .int .i64 0, .string ⟨#[]⟩, .int .i64 0, .int .i64 0, .string ⟨#[]⟩, .int .i64 0, .string ⟨#[]⟩, .int .i64 0, .int .i64 0, .int .i64 0, .int .i64 0, .int .i64 0, .int .i64 0, .int .i64 0, .string ⟨#[]⟩, .string ⟨#[]⟩, .slice none 0 0, .int .i64 jx, .string mr, .slice none 0 0] := by kernel_rfl
set_option maxHeartbeats 8000000 in
set_option maxRecDepth 100000 in
theorem roadbookref07_Bare.calls (k : Nat) (aD : Int) (aw : Int) (ax : Int) (au : ByteArray) (aA : Int) (ay : Int) (av : ByteArray) (ar : Int) (aC : Int) (az : ByteArray) (ao : Int) (am : ByteArray) (ah : Int) (aj : Int) (ak : Int) (ae : Int) (ag : Int) (ai : Int) (an : Int) (aa : ByteArray) (ab : ByteArray) (aP : Option Addr) (aN : Nat) (ac : List S46) (ap : Int) (aq : ByteArray) (aJ : Option Addr) (aK : Nat) (af : List S48) (r : Bool) (w : World) (bk : Kd.C k46 w aP ac.length ac) (bl : ac.length ≤ aN) (bm : Kd.C k48 w aJ af.length af) (bn : af.length ≤ aK) (h : roadbookref07_Bare.f k aD aw ax au aA ay av ar aC az ao am ah aj ak ae ag ai an aa ab ac ap aq af = some r) :
  Calls Try.prog 56 #[.agg #[.int .i64 aD, .int .i64 aw, .int .i64 ax, .string au, .int .i64 aA, .int .i64 ay, .string av, .int .i64 ar, .int .i64 aC, .string az, .int .i64 ao, .string am, .int .i64 ah, .int .i64 aj, .int .i64 ak, .int .i64 ae, .int .i64 ag, .int .i64 ai, .int .i64 an, .string aa, .string ab, .slice aP ac.length aN, .int .i64 ap, .string aq, .slice aJ af.length aK]] w fun e w' => e = .returned (.bool r) ∧ Below w.heap.size w w' := by
 have dM := Try.underlying25
 have cc := Aside0.mk bk
 have aZ := Aside0.mk bl
 clear bk bl
 have bZ := Aside0.mk bm
 have aT := Aside0.mk bn
 clear bm bn
 have HB := Aside0.mk (Below.refl w.heap.size w)
 have dh := Aside0.mk h
 clear h
 go_enter Try.func56, Try.ntmps56
 go_upto_block 0 with (first | ((with_reducible refine gate_dst (N := 1) rfl ?_); refine Sq.box 1 #[.int .i64 aD, .int .i64 aw, .int .i64 ax, .string au, .int .i64 aA, .int .i64 ay, .string av, .int .i64 ar, .int .i64 aC, .string az, .int .i64 ao, .string am, .int .i64 ah, .int .i64 aj, .int .i64 ak, .int .i64 ae, .int .i64 ag, .int .i64 ai, .int .i64 an, .string aa, .string ab, .slice aP ac.length aN, .int .i64 ap, .string aq, .slice aJ af.length aK] 25 ?_; intro gm hg w4 hbox hb; have bi := Aside0.mk (below_step Z2 hb); have bp := Aside0.mk hbox; have GEm := Aside0.mk (Sq.ge hg Z2); replace HB := bi; have BKm := bp; clear bi bp; clear hb hbox hg; have hcm0 := (blk_cell BKm.out 0).trans rfl; have hcm24 := (blk_cell BKm.out 24).trans rfl) | ((with_reducible refine gate_dst (N := 8) rfl ?_); refine Pre.build_event 8 25 [(0, .tmp 5), (24, .tmp 7)] rfl rfl rfl (roadbookref07_Bare.bd8 _ _ _ _) ?_) | ((with_reducible refine gate_dst (N := 3) rfl ?_); refine Sq.box 3 #[.int .i64 0, .int .i64 0, .int .i64 0, .string ⟨#[]⟩, .int .i64 0, .int .i64 0, .string ⟨#[]⟩, .int .i64 0, .int .i64 0, .string ⟨#[]⟩, .int .i64 0, .string ⟨#[]⟩, .int .i64 0, .int .i64 0, .int .i64 0, .int .i64 0, .int .i64 0, .int .i64 0, .int .i64 0, .string ⟨#[]⟩, .string ⟨#[]⟩, .slice none 0 0, .int .i64 0, .string ⟨#[]⟩, .slice none 0 0] 25 ?_; intro gx hg w7 hbox hb; have bi := Aside0.mk (blk_below (g := gm) Z23 hb); have bp := Aside0.mk (below_step Z17 hb); have bT := Aside0.mk hbox; have GEx := Aside0.mk (Sq.ge hg Z17); have NBmx := Aside0.mk (Sq.nl hg (blk_lt (g := gm) Z23)); clear BKm; clear HB; clear hcm0 hcm24; have BKm := bi; have HB := bp; have BKx := bT; clear bi bp bT; clear hb hbox hg; have hnb := NBmx.out; have hnc := NBmx.out.symm) | ((with_reducible refine Pre.gate_store 25 rfl ?_); refine Pre.store_abs rfl rfl rfl Z14 Z14 Z37 Z11 Z14 Z14 ?_; intro wS hbS sS; have bi := Aside0.mk (sS.blk Z23 NBmx.out); have bp := Aside0.mk (sS.below Z17 GEx.out); have bT := Aside0.mk hbS; clear BKm HB BKx hbS sS; have BKm := bi; have HB := bp; have BKx := bT; clear bi bp bT; have hcm0 := (blk_cell BKm.out 0).trans rfl))
 (try simp only [Act.put, Sq.s1, Sq.s2, Sq.s3])
 go_cut [] (fun wc => ∃ (p0 : Int) (p1 : Int) (p2 : Int) (p3 : ByteArray) (p4 : Int) (p5 : Int) (p6 : ByteArray) (p7 : Int) (p8 : Int) (p9 : ByteArray) (p10 : Int) (p11 : ByteArray) (p12 : Int) (p13 : Int) (p14 : Int) (p15 : Int) (p16 : Int) (p17 : Int) (p18 : Int) (p19 : ByteArray) (p20 : ByteArray) (p21 : List S46) (P21 : Option Addr) (C21 : Nat) (p22 : Int) (p23 : ByteArray) (p24 : List S48) (P24 : Option Addr) (C24 : Nat), Aside0 (roadbookref07_Same.f k p0 p1 p2 p3 p4 p5 p6 p7 p8 p9 p10 p11 p12 p13 p14 p15 p16 p17 p18 p19 p20 p21 p22 p23 p24 aD aw ax au aA ay av ar aC az ao am ah aj ak ae ag ai an aa ab ac ap aq af = some r) ∧ Aside0 (wc.heap[gm]? = some (.cells #[.int .i64 aD, .int .i64 aw, .int .i64 ax, .string au, .int .i64 aA, .int .i64 ay, .string av, .int .i64 ar, .int .i64 aC, .string az, .int .i64 ao, .string am, .int .i64 ah, .int .i64 aj, .int .i64 ak, .int .i64 ae, .int .i64 ag, .int .i64 ai, .int .i64 an, .string aa, .string ab, .slice aP ac.length aN, .int .i64 ap, .string aq, .slice aJ af.length aK] 25 (0, 0))) ∧ Aside0 (wc.heap[gx]? = some (.cells #[.int .i64 p0, .int .i64 p1, .int .i64 p2, .string p3, .int .i64 p4, .int .i64 p5, .string p6, .int .i64 p7, .int .i64 p8, .string p9, .int .i64 p10, .string p11, .int .i64 p12, .int .i64 p13, .int .i64 p14, .int .i64 p15, .int .i64 p16, .int .i64 p17, .int .i64 p18, .string p19, .string p20, .slice P21 p21.length C21, .int .i64 p22, .string p23, .slice P24 p24.length C24] 25 (0, 0))) ∧ Aside0 (Below w.heap.size w wc) ∧ Aside0 (Kd.C k46 wc P21 p21.length p21) ∧ Aside0 (p21.length ≤ C21) ∧ Aside0 (Kd.C k48 wc P24 p24.length p24) ∧ Aside0 (p24.length ≤ C24))
 case first =>
  by_cases c1 : aD = 1
  ·subst c1
   have HRES : Aside0 (roadbookref07_Same.f k 1 aw ax au aA 0 av ar aC az ao ⟨#[]⟩ 0 0 0 0 0 0 0 ⟨#[]⟩ ⟨#[]⟩ [] 0 ⟨#[]⟩ [] 1 aw ax au aA ay av ar aC az ao am ah aj ak ae ag ai an aa ab ac ap aq af = some r) := ⟨(roadbookref07_Bare.f1 k aw ax au aA ay av ar aC az ao am ah aj ak ae ag ai an aa ab ac ap aq af).symm.trans dh.out⟩
   clear dh
   have hcm1 := (blk_cell BKm.out 1).trans rfl
   have hcm2 := (blk_cell BKm.out 2).trans rfl
   have hcm3 := (blk_cell BKm.out 3).trans rfl
   have hcm4 := (blk_cell BKm.out 4).trans rfl
   have hcm6 := (blk_cell BKm.out 6).trans rfl
   have hcm7 := (blk_cell BKm.out 7).trans rfl
   have hcm8 := (blk_cell BKm.out 8).trans rfl
   have hcm9 := (blk_cell BKm.out 9).trans rfl
   have hcm10 := (blk_cell BKm.out 10).trans rfl
   go_wp2_with (first | ((with_reducible refine gate_dst (N := 33) rfl ?_); refine Pre.build_event 33 25 [(0, .tmp 14), (1, .tmp 16), (2, .tmp 18), (3, .tmp 20), (4, .tmp 22), (8, .tmp 24), (6, .tmp 26), (7, .tmp 28), (9, .tmp 30), (10, .tmp 32)] rfl rfl rfl (roadbookref07_Bare.bd33 _ _ _ _ _ _ _ _ _ _) ?_) | ((with_reducible refine Pre.gate_store 25 rfl ?_); refine Pre.store_abs rfl rfl rfl Z14 Z14 Z37 Z11 Z14 Z14 ?_; intro wS hbS sS; have bi := Aside0.mk (sS.blk Z23 NBmx.out); have bp := Aside0.mk (sS.below Z17 GEx.out); have bT := Aside0.mk hbS; clear BKm HB BKx hbS sS; have BKm := bi; have HB := bp; have BKx := bT; clear bi bp bT))
   go_meet
   case rel => exact ⟨1, aw, ax, au, aA, 0, av, ar, aC, az, ao, ⟨#[]⟩, 0, 0, 0, 0, 0, 0, 0, ⟨#[]⟩, ⟨#[]⟩, [], none, 0, 0, ⟨#[]⟩, [], none, 0, HRES, ⟨BKm.out⟩, BKx, ⟨HB.out⟩, ⟨Kd.C_nil _ _⟩, ⟨Nat.le_refl 0⟩, ⟨Kd.C_nil _ _⟩, ⟨Nat.le_refl 0⟩⟩
  ·by_cases c2 : aD = 2
   ·subst c2
    have HRES : Aside0 (roadbookref07_Same.f k 2 aw 0 ⟨#[]⟩ 0 0 av ar aC az ao ⟨#[]⟩ 0 0 0 0 0 0 0 ⟨#[]⟩ ⟨#[]⟩ [] 0 ⟨#[]⟩ [] 2 aw ax au aA ay av ar aC az ao am ah aj ak ae ag ai an aa ab ac ap aq af = some r) := ⟨(roadbookref07_Bare.f2 k aw ax au aA ay av ar aC az ao am ah aj ak ae ag ai an aa ab ac ap aq af).symm.trans dh.out⟩
    clear dh
    have hcm1 := (blk_cell BKm.out 1).trans rfl
    have hcm6 := (blk_cell BKm.out 6).trans rfl
    have hcm7 := (blk_cell BKm.out 7).trans rfl
    have hcm8 := (blk_cell BKm.out 8).trans rfl
    have hcm9 := (blk_cell BKm.out 9).trans rfl
    have hcm10 := (blk_cell BKm.out 10).trans rfl
    go_wp2_with (first | ((with_reducible refine gate_dst (N := 50) rfl ?_); refine Pre.build_event 50 25 [(0, .tmp 37), (1, .tmp 39), (8, .tmp 41), (6, .tmp 43), (7, .tmp 45), (9, .tmp 47), (10, .tmp 49)] rfl rfl rfl (roadbookref07_Bare.bd50 _ _ _ _ _ _ _) ?_) | ((with_reducible refine Pre.gate_store 25 rfl ?_); refine Pre.store_abs rfl rfl rfl Z14 Z14 Z37 Z11 Z14 Z14 ?_; intro wS hbS sS; have bi := Aside0.mk (sS.blk Z23 NBmx.out); have bp := Aside0.mk (sS.below Z17 GEx.out); have bT := Aside0.mk hbS; clear BKm HB BKx hbS sS; have BKm := bi; have HB := bp; have BKx := bT; clear bi bp bT))
    go_meet
    case rel => exact ⟨2, aw, 0, ⟨#[]⟩, 0, 0, av, ar, aC, az, ao, ⟨#[]⟩, 0, 0, 0, 0, 0, 0, 0, ⟨#[]⟩, ⟨#[]⟩, [], none, 0, 0, ⟨#[]⟩, [], none, 0, HRES, ⟨BKm.out⟩, BKx, ⟨HB.out⟩, ⟨Kd.C_nil _ _⟩, ⟨Nat.le_refl 0⟩, ⟨Kd.C_nil _ _⟩, ⟨Nat.le_refl 0⟩⟩
   ·by_cases c3 : aD = 3
    ·subst c3
     have HRES : Aside0 (roadbookref07_Same.f k 3 0 0 ⟨#[]⟩ 0 0 ⟨#[]⟩ 0 0 ⟨#[]⟩ 0 ⟨#[]⟩ ah aj 0 ae ag ai 0 aa ab [] 0 ⟨#[]⟩ af 3 aw ax au aA ay av ar aC az ao am ah aj ak ae ag ai an aa ab ac ap aq af = some r) := ⟨(roadbookref07_Bare.f3 k aw ax au aA ay av ar aC az ao am ah aj ak ae ag ai an aa ab ac ap aq af).symm.trans dh.out⟩
     clear dh
     go_wp2
     have bi := Aside0.mk (blk_drew BKm.out)
     have bp := Aside0.mk (blk_drew BKx.out)
     have bT := Aside0.mk (below_drew1 HB.out)
     clear BKm BKx HB  hcm0
     have BKm := bi
     have BKx := bp
     have HB := bT
     clear bi bp bT
     refine start_ (n := 28) (S := fun w' => w'.cell? ⟨gm, 15, none⟩ = some (.int .i64 ae) ∧ w'.cell? ⟨gm, 16, none⟩ = some (.int .i64 ag) ∧ w'.cell? ⟨gm, 17, none⟩ = some (.int .i64 ai) ∧ w'.cell? ⟨gm, 19, none⟩ = some (.string aa) ∧ w'.cell? ⟨gm, 12, none⟩ = some (.int .i64 ah) ∧ w'.cell? ⟨gm, 20, none⟩ = some (.string ab) ∧ w'.cell? ⟨gm, 13, none⟩ = some (.int .i64 aj)) (ds := []) (Sq.b 28 0) Z11 rfl rfl ⟨Sq.bc BKm 15, Sq.bc BKm 16, Sq.bc BKm 17, Sq.bc BKm 19, Sq.bc BKm 12, Sq.bc BKm 20, Sq.bc BKm 13⟩ (fun hHeld => ?_); refine with_tabW roadbookref07_Bare.tab9 roadbookref07_Bare.bits9 (fun HT_ HW_ => ?_)
     generalize World.drew _ = ke at BKm BKx HB hHeld ⊢
     refine Sq.pur 0 (some 53) (Sq.b 28 1) HT_.out ?_
     refine Sq.pur 2 (some 55) (Sq.b 28 5) HT_.out ?_
     refine Sq.pur 4 (some 57) (Sq.b 28 21) HT_.out ?_
     refine Sq.pur 6 (some 59) (Sq.b 28 85) HT_.out ?_
     refine Sq.pur 8 (some 61) (Sq.b 28 341) HT_.out ?_
     refine Sq.pur 10 (some 63) (Sq.b 28 1365) HT_.out ?_
     refine Sq.pur 12 (some 65) (Sq.b 28 5461) HT_.out ?_
     refine Sq.tak 1 (some 54) (Sq.b 28 5463) HT_.out HW_.out hHeld (v := ?_) (a' := ?_) ?_ ?_ ?_
     rotate_left
     ·rintro w' ⟨s0, s1, s2, s3, s4, s5, s6⟩
      go_simp
      with_reducible rfl
     rotate_left
     ·simp only [Act.put, Sq.s1, Sq.s2, Sq.s3, i64_w, i32_w]
      rfl
     refine Sq.pur 14 (some 67) (Sq.b 28 21847) HT_.out ?_
     refine Sq.tak 3 (some 56) (Sq.b 28 21855) HT_.out HW_.out hHeld (v := ?_) (a' := ?_) ?_ ?_ ?_
     rotate_left
     ·rintro w' ⟨s0, s1, s2, s3, s4, s5, s6⟩
      go_simp
      with_reducible rfl
     rotate_left
     ·simp only [Act.put, Sq.s1, Sq.s2, Sq.s3, i64_w, i32_w]
      rfl
     refine Sq.tak 5 (some 58) (Sq.b 28 21887) HT_.out HW_.out hHeld (v := ?_) (a' := ?_) ?_ ?_ ?_
     rotate_left
     ·rintro w' ⟨s0, s1, s2, s3, s4, s5, s6⟩
      go_simp
      with_reducible rfl
     rotate_left
     ·simp only [Act.put, Sq.s1, Sq.s2, Sq.s3, i64_w, i32_w]
      rfl
     refine Sq.tak 7 (some 60) (Sq.b 28 22015) HT_.out HW_.out hHeld (v := ?_) (a' := ?_) ?_ ?_ ?_
     rotate_left
     ·rintro w' ⟨s0, s1, s2, s3, s4, s5, s6⟩
      go_simp
      with_reducible rfl
     rotate_left
     ·simp only [Act.put, Sq.s1, Sq.s2, Sq.s3, i64_w, i32_w]
      rfl
     refine Sq.tak 9 (some 62) (Sq.b 28 22527) HT_.out HW_.out hHeld (v := ?_) (a' := ?_) ?_ ?_ ?_
     rotate_left
     ·rintro w' ⟨s0, s1, s2, s3, s4, s5, s6⟩
      go_simp
      with_reducible rfl
     rotate_left
     ·simp only [Act.put, Sq.s1, Sq.s2, Sq.s3, i64_w, i32_w]
      rfl
     refine Sq.tak 11 (some 64) (Sq.b 28 24575) HT_.out HW_.out hHeld (v := ?_) (a' := ?_) ?_ ?_ ?_
     rotate_left
     ·rintro w' ⟨s0, s1, s2, s3, s4, s5, s6⟩
      go_simp
      with_reducible rfl
     rotate_left
     ·simp only [Act.put, Sq.s1, Sq.s2, Sq.s3, i64_w, i32_w]
      rfl
     refine Sq.tak 13 (some 66) (Sq.b 28 32767) HT_.out HW_.out hHeld (v := ?_) (a' := ?_) ?_ ?_ ?_
     rotate_left
     ·rintro w' ⟨s0, s1, s2, s3, s4, s5, s6⟩
      go_simp
      with_reducible rfl
     rotate_left
     ·simp only [Act.put, Sq.s1, Sq.s2, Sq.s3, i64_w, i32_w]
      rfl
     refine Sq.ost 15 (Sq.b 28 65535) 15 (.int .i64 ae) HT_.out BKx BKm HB GEx NBmx hHeld ?_
     clear BKx BKm HB hHeld
     intro iN BKx BKm HB hHeld
     refine Sq.pur 16 (some 68) (Sq.b 28 131071) HT_.out ?_
     refine Sq.ost 17 (Sq.b 28 262143) 16 (.int .i64 ag) HT_.out BKx BKm HB GEx NBmx hHeld ?_
     clear BKx BKm HB hHeld
     intro kB BKx BKm HB hHeld
     refine Sq.pur 18 (some 69) (Sq.b 28 524287) HT_.out ?_
     refine Sq.ost 19 (Sq.b 28 1048575) 17 (.int .i64 ai) HT_.out BKx BKm HB GEx NBmx hHeld ?_
     clear BKx BKm HB hHeld
     intro kW BKx BKm HB hHeld
     refine Sq.pur 20 (some 70) (Sq.b 28 2097151) HT_.out ?_
     refine Sq.ost 21 (Sq.b 28 4194303) 19 (.string aa) HT_.out BKx BKm HB GEx NBmx hHeld ?_
     clear BKx BKm HB hHeld
     intro ld BKx BKm HB hHeld
     refine Sq.pur 22 (some 71) (Sq.b 28 8388607) HT_.out ?_
     refine Sq.ost 23 (Sq.b 28 16777215) 12 (.int .i64 ah) HT_.out BKx BKm HB GEx NBmx hHeld ?_
     clear BKx BKm HB hHeld
     intro nq BKx BKm HB hHeld
     refine Sq.pur 24 (some 72) (Sq.b 28 33554431) HT_.out ?_
     refine Sq.ost 25 (Sq.b 28 67108863) 20 (.string ab) HT_.out BKx BKm HB GEx NBmx hHeld ?_
     clear BKx BKm HB hHeld
     intro nO BKx BKm HB hHeld
     refine Sq.pur 26 (some 73) (Sq.b 28 134217727) HT_.out ?_
     refine Sq.ost 27 (Sq.b 28 268435455) 13 (.int .i64 aj) HT_.out BKx BKm HB GEx NBmx hHeld ?_
     clear BKx BKm HB hHeld
     intro nA BKx BKm HB hHeld
     refine done_ (done_of HT_.out Z11) ?_
     go_wp2
     go_meet
     case rel => exact ⟨3, 0, 0, ⟨#[]⟩, 0, 0, ⟨#[]⟩, 0, 0, ⟨#[]⟩, 0, ⟨#[]⟩, ah, aj, 0, ae, ag, ai, 0, aa, ab, [], none, 0, 0, ⟨#[]⟩, af, aJ, aK, HRES, ⟨BKm.out⟩, ⟨Pre.heap_norm BKx.out Z38⟩, ⟨HB.out⟩, ⟨Kd.C_nil _ _⟩, ⟨Nat.le_refl 0⟩, ⟨Kd.C_below bZ.out HB.out⟩, aT⟩
    ·by_cases c4 : aD = 4
     ·subst c4
      have HRES : Aside0 (roadbookref07_Same.f k 4 0 0 ⟨#[]⟩ 0 0 ⟨#[]⟩ ar 0 ⟨#[]⟩ 0 ⟨#[]⟩ ah 0 ak ae ag 0 0 aa ab [] 0 ⟨#[]⟩ af 4 aw ax au aA ay av ar aC az ao am ah aj ak ae ag ai an aa ab ac ap aq af = some r) := ⟨(roadbookref07_Bare.f4 k aw ax au aA ay av ar aC az ao am ah aj ak ae ag ai an aa ab ac ap aq af).symm.trans dh.out⟩
      clear dh
      go_wp2
      have bi := Aside0.mk (blk_drew BKm.out)
      have bp := Aside0.mk (blk_drew BKx.out)
      have bT := Aside0.mk (below_drew1 HB.out)
      clear BKm BKx HB  hcm0
      have BKm := bi
      have BKx := bp
      have HB := bT
      clear bi bp bT
      refine start_ (n := 28) (S := fun w' => w'.cell? ⟨gm, 15, none⟩ = some (.int .i64 ae) ∧ w'.cell? ⟨gm, 7, none⟩ = some (.int .i64 ar) ∧ w'.cell? ⟨gm, 16, none⟩ = some (.int .i64 ag) ∧ w'.cell? ⟨gm, 19, none⟩ = some (.string aa) ∧ w'.cell? ⟨gm, 12, none⟩ = some (.int .i64 ah) ∧ w'.cell? ⟨gm, 20, none⟩ = some (.string ab) ∧ w'.cell? ⟨gm, 14, none⟩ = some (.int .i64 ak)) (ds := []) (Sq.b 28 0) Z11 rfl rfl ⟨Sq.bc BKm 15, Sq.bc BKm 7, Sq.bc BKm 16, Sq.bc BKm 19, Sq.bc BKm 12, Sq.bc BKm 20, Sq.bc BKm 14⟩ (fun hHeld => ?_); refine with_tabW roadbookref07_Bare.tab11 roadbookref07_Bare.bits11 (fun HT_ HW_ => ?_)
      generalize World.drew _ = ke at BKm BKx HB hHeld ⊢
      refine Sq.pur 0 (some 76) (Sq.b 28 1) HT_.out ?_
      refine Sq.pur 2 (some 78) (Sq.b 28 5) HT_.out ?_
      refine Sq.pur 4 (some 80) (Sq.b 28 21) HT_.out ?_
      refine Sq.pur 6 (some 82) (Sq.b 28 85) HT_.out ?_
      refine Sq.pur 8 (some 84) (Sq.b 28 341) HT_.out ?_
      refine Sq.pur 10 (some 86) (Sq.b 28 1365) HT_.out ?_
      refine Sq.pur 12 (some 88) (Sq.b 28 5461) HT_.out ?_
      refine Sq.tak 1 (some 77) (Sq.b 28 5463) HT_.out HW_.out hHeld (v := ?_) (a' := ?_) ?_ ?_ ?_
      rotate_left
      ·rintro w' ⟨s0, s1, s2, s3, s4, s5, s6⟩
       go_simp
       with_reducible rfl
      rotate_left
      ·simp only [Act.put, Sq.s1, Sq.s2, Sq.s3, i64_w, i32_w]
       rfl
      refine Sq.pur 14 (some 90) (Sq.b 28 21847) HT_.out ?_
      refine Sq.tak 3 (some 79) (Sq.b 28 21855) HT_.out HW_.out hHeld (v := ?_) (a' := ?_) ?_ ?_ ?_
      rotate_left
      ·rintro w' ⟨s0, s1, s2, s3, s4, s5, s6⟩
       go_simp
       with_reducible rfl
      rotate_left
      ·simp only [Act.put, Sq.s1, Sq.s2, Sq.s3, i64_w, i32_w]
       rfl
      refine Sq.tak 5 (some 81) (Sq.b 28 21887) HT_.out HW_.out hHeld (v := ?_) (a' := ?_) ?_ ?_ ?_
      rotate_left
      ·rintro w' ⟨s0, s1, s2, s3, s4, s5, s6⟩
       go_simp
       with_reducible rfl
      rotate_left
      ·simp only [Act.put, Sq.s1, Sq.s2, Sq.s3, i64_w, i32_w]
       rfl
      refine Sq.tak 7 (some 83) (Sq.b 28 22015) HT_.out HW_.out hHeld (v := ?_) (a' := ?_) ?_ ?_ ?_
      rotate_left
      ·rintro w' ⟨s0, s1, s2, s3, s4, s5, s6⟩
       go_simp
       with_reducible rfl
      rotate_left
      ·simp only [Act.put, Sq.s1, Sq.s2, Sq.s3, i64_w, i32_w]
       rfl
      refine Sq.tak 9 (some 85) (Sq.b 28 22527) HT_.out HW_.out hHeld (v := ?_) (a' := ?_) ?_ ?_ ?_
      rotate_left
      ·rintro w' ⟨s0, s1, s2, s3, s4, s5, s6⟩
       go_simp
       with_reducible rfl
      rotate_left
      ·simp only [Act.put, Sq.s1, Sq.s2, Sq.s3, i64_w, i32_w]
       rfl
      refine Sq.tak 11 (some 87) (Sq.b 28 24575) HT_.out HW_.out hHeld (v := ?_) (a' := ?_) ?_ ?_ ?_
      rotate_left
      ·rintro w' ⟨s0, s1, s2, s3, s4, s5, s6⟩
       go_simp
       with_reducible rfl
      rotate_left
      ·simp only [Act.put, Sq.s1, Sq.s2, Sq.s3, i64_w, i32_w]
       rfl
      refine Sq.tak 13 (some 89) (Sq.b 28 32767) HT_.out HW_.out hHeld (v := ?_) (a' := ?_) ?_ ?_ ?_
      rotate_left
      ·rintro w' ⟨s0, s1, s2, s3, s4, s5, s6⟩
       go_simp
       with_reducible rfl
      rotate_left
      ·simp only [Act.put, Sq.s1, Sq.s2, Sq.s3, i64_w, i32_w]
       rfl
      refine Sq.ost 15 (Sq.b 28 65535) 15 (.int .i64 ae) HT_.out BKx BKm HB GEx NBmx hHeld ?_
      clear BKx BKm HB hHeld
      intro iN BKx BKm HB hHeld
      refine Sq.pur 16 (some 91) (Sq.b 28 131071) HT_.out ?_
      refine Sq.ost 17 (Sq.b 28 262143) 7 (.int .i64 ar) HT_.out BKx BKm HB GEx NBmx hHeld ?_
      clear BKx BKm HB hHeld
      intro kB BKx BKm HB hHeld
      refine Sq.pur 18 (some 92) (Sq.b 28 524287) HT_.out ?_
      refine Sq.ost 19 (Sq.b 28 1048575) 16 (.int .i64 ag) HT_.out BKx BKm HB GEx NBmx hHeld ?_
      clear BKx BKm HB hHeld
      intro kW BKx BKm HB hHeld
      refine Sq.pur 20 (some 93) (Sq.b 28 2097151) HT_.out ?_
      refine Sq.ost 21 (Sq.b 28 4194303) 19 (.string aa) HT_.out BKx BKm HB GEx NBmx hHeld ?_
      clear BKx BKm HB hHeld
      intro ld BKx BKm HB hHeld
      refine Sq.pur 22 (some 94) (Sq.b 28 8388607) HT_.out ?_
      refine Sq.ost 23 (Sq.b 28 16777215) 12 (.int .i64 ah) HT_.out BKx BKm HB GEx NBmx hHeld ?_
      clear BKx BKm HB hHeld
      intro nq BKx BKm HB hHeld
      refine Sq.pur 24 (some 95) (Sq.b 28 33554431) HT_.out ?_
      refine Sq.ost 25 (Sq.b 28 67108863) 20 (.string ab) HT_.out BKx BKm HB GEx NBmx hHeld ?_
      clear BKx BKm HB hHeld
      intro nO BKx BKm HB hHeld
      refine Sq.pur 26 (some 96) (Sq.b 28 134217727) HT_.out ?_
      refine Sq.ost 27 (Sq.b 28 268435455) 14 (.int .i64 ak) HT_.out BKx BKm HB GEx NBmx hHeld ?_
      clear BKx BKm HB hHeld
      intro nA BKx BKm HB hHeld
      refine done_ (done_of HT_.out Z11) ?_
      go_wp2
      go_meet
      case rel => exact ⟨4, 0, 0, ⟨#[]⟩, 0, 0, ⟨#[]⟩, ar, 0, ⟨#[]⟩, 0, ⟨#[]⟩, ah, 0, ak, ae, ag, 0, 0, aa, ab, [], none, 0, 0, ⟨#[]⟩, af, aJ, aK, HRES, ⟨BKm.out⟩, ⟨Pre.heap_norm BKx.out Z38⟩, ⟨HB.out⟩, ⟨Kd.C_nil _ _⟩, ⟨Nat.le_refl 0⟩, ⟨Kd.C_below bZ.out HB.out⟩, aT⟩
     ·by_cases c5 : aD = 5
      ·subst c5
       have HRES : Aside0 (roadbookref07_Same.f k 5 0 0 ⟨#[]⟩ 0 0 ⟨#[]⟩ 0 0 ⟨#[]⟩ 0 ⟨#[]⟩ 0 0 0 ae 0 0 0 ⟨#[]⟩ ⟨#[]⟩ ac 0 ⟨#[]⟩ af 5 aw ax au aA ay av ar aC az ao am ah aj ak ae ag ai an aa ab ac ap aq af = some r) := ⟨(roadbookref07_Bare.f5 k aw ax au aA ay av ar aC az ao am ah aj ak ae ag ai an aa ab ac ap aq af).symm.trans dh.out⟩
       clear dh
       go_wp2
       have bi := Aside0.mk (blk_drew BKm.out)
       have bp := Aside0.mk (blk_drew BKx.out)
       have bT := Aside0.mk (below_drew1 HB.out)
       clear BKm BKx HB  hcm0
       have BKm := bi
       have BKx := bp
       have HB := bT
       clear bi bp bT
       refine start_ (n := 8) (S := fun w' => w'.cell? ⟨gm, 15, none⟩ = some (.int .i64 ae) ∧ w'.cell? ⟨gm, 21, none⟩ = some (.slice aP ac.length aN)) (ds := []) (Sq.b 8 0) Z11 rfl rfl ⟨Sq.bc BKm 15, Sq.bc BKm 21⟩ (fun hHeld => ?_); refine with_tabW roadbookref07_Bare.tab13 roadbookref07_Bare.bits13 (fun HT_ HW_ => ?_)
       generalize World.drew _ = ke at BKm BKx HB hHeld ⊢
       refine Sq.pur 0 (some 99) (Sq.b 8 1) HT_.out ?_
       refine Sq.pur 2 (some 101) (Sq.b 8 5) HT_.out ?_
       refine Sq.tak 1 (some 100) (Sq.b 8 7) HT_.out HW_.out hHeld (v := ?_) (a' := ?_) ?_ ?_ ?_
       rotate_left
       ·rintro w' ⟨s0, s1⟩
        go_simp
        with_reducible rfl
       rotate_left
       ·simp only [Act.put, Sq.s1, Sq.s2, Sq.s3, i64_w, i32_w]
        rfl
       refine Sq.pur 4 (some 103) (Sq.b 8 23) HT_.out ?_
       refine Sq.tak 3 (some 102) (Sq.b 8 31) HT_.out HW_.out hHeld (v := ?_) (a' := ?_) ?_ ?_ ?_
       rotate_left
       ·rintro w' ⟨s0, s1⟩
        go_simp
        with_reducible rfl
       rotate_left
       ·simp only [Act.put, Sq.s1, Sq.s2, Sq.s3, i64_w, i32_w]
        rfl
       refine Sq.ost 5 (Sq.b 8 63) 15 (.int .i64 ae) HT_.out BKx BKm HB GEx NBmx hHeld ?_
       clear BKx BKm HB hHeld
       intro iN BKx BKm HB hHeld
       refine Sq.pur 6 (some 104) (Sq.b 8 127) HT_.out ?_
       refine Sq.ost 7 (Sq.b 8 255) 21 (.slice aP ac.length aN) HT_.out BKx BKm HB GEx NBmx hHeld ?_
       clear BKx BKm HB hHeld
       intro kB BKx BKm HB hHeld
       refine done_ (done_of HT_.out Z11) ?_
       go_wp2
       go_meet
       case rel => exact ⟨5, 0, 0, ⟨#[]⟩, 0, 0, ⟨#[]⟩, 0, 0, ⟨#[]⟩, 0, ⟨#[]⟩, 0, 0, 0, ae, 0, 0, 0, ⟨#[]⟩, ⟨#[]⟩, ac, aP, aN, 0, ⟨#[]⟩, af, aJ, aK, HRES, ⟨BKm.out⟩, ⟨Pre.heap_norm BKx.out Z38⟩, ⟨HB.out⟩, ⟨Kd.C_below cc.out HB.out⟩, aZ, ⟨Kd.C_below bZ.out HB.out⟩, aT⟩
      ·by_cases c6 : aD = 6
       ·subst c6
        have HRES : Aside0 (roadbookref07_Same.f k 6 0 0 ⟨#[]⟩ 0 0 ⟨#[]⟩ 0 0 ⟨#[]⟩ 0 ⟨#[]⟩ 0 0 0 0 0 0 0 ⟨#[]⟩ ⟨#[]⟩ [] 0 ⟨#[]⟩ af 6 aw ax au aA ay av ar aC az ao am ah aj ak ae ag ai an aa ab ac ap aq af = some r) := ⟨(roadbookref07_Bare.f6 k aw ax au aA ay av ar aC az ao am ah aj ak ae ag ai an aa ab ac ap aq af).symm.trans dh.out⟩
        clear dh
        go_wp2
        go_meet
        case rel => exact ⟨6, 0, 0, ⟨#[]⟩, 0, 0, ⟨#[]⟩, 0, 0, ⟨#[]⟩, 0, ⟨#[]⟩, 0, 0, 0, 0, 0, 0, 0, ⟨#[]⟩, ⟨#[]⟩, [], none, 0, 0, ⟨#[]⟩, af, aJ, aK, HRES, ⟨BKm.out⟩, BKx, ⟨HB.out⟩, ⟨Kd.C_nil _ _⟩, ⟨Nat.le_refl 0⟩, ⟨Kd.C_below bZ.out HB.out⟩, aT⟩
       ·by_cases c7 : aD = 7
        ·subst c7
         have HRES : Aside0 (roadbookref07_Same.f k 7 0 0 ⟨#[]⟩ 0 0 ⟨#[]⟩ 0 0 ⟨#[]⟩ 0 ⟨#[]⟩ 0 0 ak 0 0 ai 0 ⟨#[]⟩ ⟨#[]⟩ [] 0 ⟨#[]⟩ af 7 aw ax au aA ay av ar aC az ao am ah aj ak ae ag ai an aa ab ac ap aq af = some r) := ⟨(roadbookref07_Bare.f7 k aw ax au aA ay av ar aC az ao am ah aj ak ae ag ai an aa ab ac ap aq af).symm.trans dh.out⟩
         clear dh
         go_wp2
         have bi := Aside0.mk (blk_drew BKm.out)
         have bp := Aside0.mk (blk_drew BKx.out)
         have bT := Aside0.mk (below_drew1 HB.out)
         clear BKm BKx HB  hcm0
         have BKm := bi
         have BKx := bp
         have HB := bT
         clear bi bp bT
         refine start_ (n := 8) (S := fun w' => w'.cell? ⟨gm, 17, none⟩ = some (.int .i64 ai) ∧ w'.cell? ⟨gm, 14, none⟩ = some (.int .i64 ak)) (ds := []) (Sq.b 8 0) Z11 rfl rfl ⟨Sq.bc BKm 17, Sq.bc BKm 14⟩ (fun hHeld => ?_); refine with_tabW roadbookref07_Bare.tab16 roadbookref07_Bare.bits16 (fun HT_ HW_ => ?_)
         generalize World.drew _ = ke at BKm BKx HB hHeld ⊢
         refine Sq.pur 0 (some 109) (Sq.b 8 1) HT_.out ?_
         refine Sq.pur 2 (some 111) (Sq.b 8 5) HT_.out ?_
         refine Sq.tak 1 (some 110) (Sq.b 8 7) HT_.out HW_.out hHeld (v := ?_) (a' := ?_) ?_ ?_ ?_
         rotate_left
         ·rintro w' ⟨s0, s1⟩
          go_simp
          with_reducible rfl
         rotate_left
         ·simp only [Act.put, Sq.s1, Sq.s2, Sq.s3, i64_w, i32_w]
          rfl
         refine Sq.pur 4 (some 113) (Sq.b 8 23) HT_.out ?_
         refine Sq.tak 3 (some 112) (Sq.b 8 31) HT_.out HW_.out hHeld (v := ?_) (a' := ?_) ?_ ?_ ?_
         rotate_left
         ·rintro w' ⟨s0, s1⟩
          go_simp
          with_reducible rfl
         rotate_left
         ·simp only [Act.put, Sq.s1, Sq.s2, Sq.s3, i64_w, i32_w]
          rfl
         refine Sq.ost 5 (Sq.b 8 63) 17 (.int .i64 ai) HT_.out BKx BKm HB GEx NBmx hHeld ?_
         clear BKx BKm HB hHeld
         intro iN BKx BKm HB hHeld
         refine Sq.pur 6 (some 114) (Sq.b 8 127) HT_.out ?_
         refine Sq.ost 7 (Sq.b 8 255) 14 (.int .i64 ak) HT_.out BKx BKm HB GEx NBmx hHeld ?_
         clear BKx BKm HB hHeld
         intro kB BKx BKm HB hHeld
         refine done_ (done_of HT_.out Z11) ?_
         go_wp2
         go_meet
         case rel => exact ⟨7, 0, 0, ⟨#[]⟩, 0, 0, ⟨#[]⟩, 0, 0, ⟨#[]⟩, 0, ⟨#[]⟩, 0, 0, ak, 0, 0, ai, 0, ⟨#[]⟩, ⟨#[]⟩, [], none, 0, 0, ⟨#[]⟩, af, aJ, aK, HRES, ⟨BKm.out⟩, ⟨Pre.heap_norm BKx.out Z38⟩, ⟨HB.out⟩, ⟨Kd.C_nil _ _⟩, ⟨Nat.le_refl 0⟩, ⟨Kd.C_below bZ.out HB.out⟩, aT⟩
        ·by_cases c8 : aD = 8
         ·subst c8
          have HRES : Aside0 (roadbookref07_Same.f k 8 0 0 ⟨#[]⟩ 0 0 ⟨#[]⟩ 0 0 ⟨#[]⟩ 0 ⟨#[]⟩ 0 0 0 0 0 ai 0 ⟨#[]⟩ ⟨#[]⟩ [] 0 ⟨#[]⟩ af 8 aw ax au aA ay av ar aC az ao am ah aj ak ae ag ai an aa ab ac ap aq af = some r) := ⟨(roadbookref07_Bare.f8 k aw ax au aA ay av ar aC az ao am ah aj ak ae ag ai an aa ab ac ap aq af).symm.trans dh.out⟩
          clear dh
          have hcm17 := (blk_cell BKm.out 17).trans rfl
          have hcx17 := (blk_cell BKx.out 17).trans rfl
          have hfx17 := blk_frozen BKx.out 17
          go_wp2
          go_meet
          case rel => exact ⟨8, 0, 0, ⟨#[]⟩, 0, 0, ⟨#[]⟩, 0, 0, ⟨#[]⟩, 0, ⟨#[]⟩, 0, 0, 0, 0, 0, ai, 0, ⟨#[]⟩, ⟨#[]⟩, [], none, 0, 0, ⟨#[]⟩, af, aJ, aK, HRES, ⟨(blk_far (p := ⟨gx, 17, none⟩) BKm.out NBmx.out (.int .i64 ai))⟩, ⟨Pre.heap_norm (blk_set BKx.out 17 (.int .i64 ai)) Z38⟩, ⟨(below_set (g := gx) (j := 17) (v := .int .i64 ai) HB.out GEx.out)⟩, ⟨Kd.C_nil _ _⟩, ⟨Nat.le_refl 0⟩, ⟨Kd.C_below bZ.out (below_set (g := gx) (j := 17) (v := .int .i64 ai) HB.out GEx.out)⟩, aT⟩
         ·by_cases c9 : aD = 9
          ·subst c9
           have HRES : Aside0 (roadbookref07_Same.f k 9 0 0 ⟨#[]⟩ 0 0 ⟨#[]⟩ 0 0 ⟨#[]⟩ 0 ⟨#[]⟩ ah 0 ak ae 0 0 0 ⟨#[]⟩ ⟨#[]⟩ [] 0 ⟨#[]⟩ af 9 aw ax au aA ay av ar aC az ao am ah aj ak ae ag ai an aa ab ac ap aq af = some r) := ⟨(roadbookref07_Bare.f9 k aw ax au aA ay av ar aC az ao am ah aj ak ae ag ai an aa ab ac ap aq af).symm.trans dh.out⟩
           clear dh
           go_wp2
           have bi := Aside0.mk (blk_drew BKm.out)
           have bp := Aside0.mk (blk_drew BKx.out)
           have bT := Aside0.mk (below_drew1 HB.out)
           clear BKm BKx HB  hcm0
           have BKm := bi
           have BKx := bp
           have HB := bT
           clear bi bp bT
           refine start_ (n := 12) (S := fun w' => w'.cell? ⟨gm, 15, none⟩ = some (.int .i64 ae) ∧ w'.cell? ⟨gm, 12, none⟩ = some (.int .i64 ah) ∧ w'.cell? ⟨gm, 14, none⟩ = some (.int .i64 ak)) (ds := []) (Sq.b 12 0) Z11 rfl rfl ⟨Sq.bc BKm 15, Sq.bc BKm 12, Sq.bc BKm 14⟩ (fun hHeld => ?_); refine with_tabW roadbookref07_Bare.tab20 roadbookref07_Bare.bits20 (fun HT_ HW_ => ?_)
           generalize World.drew _ = ke at BKm BKx HB hHeld ⊢
           refine Sq.pur 0 (some 122) (Sq.b 12 1) HT_.out ?_
           refine Sq.pur 2 (some 124) (Sq.b 12 5) HT_.out ?_
           refine Sq.pur 4 (some 126) (Sq.b 12 21) HT_.out ?_
           refine Sq.tak 1 (some 123) (Sq.b 12 23) HT_.out HW_.out hHeld (v := ?_) (a' := ?_) ?_ ?_ ?_
           rotate_left
           ·rintro w' ⟨s0, s1, s2⟩
            go_simp
            with_reducible rfl
           rotate_left
           ·simp only [Act.put, Sq.s1, Sq.s2, Sq.s3, i64_w, i32_w]
            rfl
           refine Sq.pur 6 (some 128) (Sq.b 12 87) HT_.out ?_
           refine Sq.tak 3 (some 125) (Sq.b 12 95) HT_.out HW_.out hHeld (v := ?_) (a' := ?_) ?_ ?_ ?_
           rotate_left
           ·rintro w' ⟨s0, s1, s2⟩
            go_simp
            with_reducible rfl
           rotate_left
           ·simp only [Act.put, Sq.s1, Sq.s2, Sq.s3, i64_w, i32_w]
            rfl
           refine Sq.tak 5 (some 127) (Sq.b 12 127) HT_.out HW_.out hHeld (v := ?_) (a' := ?_) ?_ ?_ ?_
           rotate_left
           ·rintro w' ⟨s0, s1, s2⟩
            go_simp
            with_reducible rfl
           rotate_left
           ·simp only [Act.put, Sq.s1, Sq.s2, Sq.s3, i64_w, i32_w]
            rfl
           refine Sq.ost 7 (Sq.b 12 255) 15 (.int .i64 ae) HT_.out BKx BKm HB GEx NBmx hHeld ?_
           clear BKx BKm HB hHeld
           intro iN BKx BKm HB hHeld
           refine Sq.pur 8 (some 129) (Sq.b 12 511) HT_.out ?_
           refine Sq.ost 9 (Sq.b 12 1023) 12 (.int .i64 ah) HT_.out BKx BKm HB GEx NBmx hHeld ?_
           clear BKx BKm HB hHeld
           intro kB BKx BKm HB hHeld
           refine Sq.pur 10 (some 130) (Sq.b 12 2047) HT_.out ?_
           refine Sq.ost 11 (Sq.b 12 4095) 14 (.int .i64 ak) HT_.out BKx BKm HB GEx NBmx hHeld ?_
           clear BKx BKm HB hHeld
           intro kW BKx BKm HB hHeld
           refine done_ (done_of HT_.out Z11) ?_
           go_wp2
           go_meet
           case rel => exact ⟨9, 0, 0, ⟨#[]⟩, 0, 0, ⟨#[]⟩, 0, 0, ⟨#[]⟩, 0, ⟨#[]⟩, ah, 0, ak, ae, 0, 0, 0, ⟨#[]⟩, ⟨#[]⟩, [], none, 0, 0, ⟨#[]⟩, af, aJ, aK, HRES, ⟨BKm.out⟩, ⟨Pre.heap_norm BKx.out Z38⟩, ⟨HB.out⟩, ⟨Kd.C_nil _ _⟩, ⟨Nat.le_refl 0⟩, ⟨Kd.C_below bZ.out HB.out⟩, aT⟩
          ·by_cases dv : aD = 10
           ·subst dv
            have HRES : Aside0 (roadbookref07_Same.f k 10 0 0 ⟨#[]⟩ 0 ay ⟨#[]⟩ 0 0 ⟨#[]⟩ 0 ⟨#[]⟩ 0 0 ak 0 0 0 an aa ⟨#[]⟩ [] 0 ⟨#[]⟩ af 10 aw ax au aA ay av ar aC az ao am ah aj ak ae ag ai an aa ab ac ap aq af = some r) := ⟨(roadbookref07_Bare.f10 k aw ax au aA ay av ar aC az ao am ah aj ak ae ag ai an aa ab ac ap aq af).symm.trans dh.out⟩
            clear dh
            go_wp2
            have bi := Aside0.mk (blk_drew BKm.out)
            have bp := Aside0.mk (blk_drew BKx.out)
            have bT := Aside0.mk (below_drew1 HB.out)
            clear BKm BKx HB  hcm0
            have BKm := bi
            have BKx := bp
            have HB := bT
            clear bi bp bT
            refine start_ (n := 16) (S := fun w' => w'.cell? ⟨gm, 5, none⟩ = some (.int .i64 ay) ∧ w'.cell? ⟨gm, 18, none⟩ = some (.int .i64 an) ∧ w'.cell? ⟨gm, 14, none⟩ = some (.int .i64 ak) ∧ w'.cell? ⟨gm, 19, none⟩ = some (.string aa)) (ds := []) (Sq.b 16 0) Z11 rfl rfl ⟨Sq.bc BKm 5, Sq.bc BKm 18, Sq.bc BKm 14, Sq.bc BKm 19⟩ (fun hHeld => ?_); refine with_tabW roadbookref07_Bare.tab22 roadbookref07_Bare.bits22 (fun HT_ HW_ => ?_)
            generalize World.drew _ = ke at BKm BKx HB hHeld ⊢
            refine Sq.pur 0 (some 133) (Sq.b 16 1) HT_.out ?_
            refine Sq.pur 2 (some 135) (Sq.b 16 5) HT_.out ?_
            refine Sq.pur 4 (some 137) (Sq.b 16 21) HT_.out ?_
            refine Sq.pur 6 (some 139) (Sq.b 16 85) HT_.out ?_
            refine Sq.tak 1 (some 134) (Sq.b 16 87) HT_.out HW_.out hHeld (v := ?_) (a' := ?_) ?_ ?_ ?_
            rotate_left
            ·rintro w' ⟨s0, s1, s2, s3⟩
             go_simp
             with_reducible rfl
            rotate_left
            ·simp only [Act.put, Sq.s1, Sq.s2, Sq.s3, i64_w, i32_w]
             rfl
            refine Sq.pur 8 (some 141) (Sq.b 16 343) HT_.out ?_
            refine Sq.tak 3 (some 136) (Sq.b 16 351) HT_.out HW_.out hHeld (v := ?_) (a' := ?_) ?_ ?_ ?_
            rotate_left
            ·rintro w' ⟨s0, s1, s2, s3⟩
             go_simp
             with_reducible rfl
            rotate_left
            ·simp only [Act.put, Sq.s1, Sq.s2, Sq.s3, i64_w, i32_w]
             rfl
            refine Sq.tak 5 (some 138) (Sq.b 16 383) HT_.out HW_.out hHeld (v := ?_) (a' := ?_) ?_ ?_ ?_
            rotate_left
            ·rintro w' ⟨s0, s1, s2, s3⟩
             go_simp
             with_reducible rfl
            rotate_left
            ·simp only [Act.put, Sq.s1, Sq.s2, Sq.s3, i64_w, i32_w]
             rfl
            refine Sq.tak 7 (some 140) (Sq.b 16 511) HT_.out HW_.out hHeld (v := ?_) (a' := ?_) ?_ ?_ ?_
            rotate_left
            ·rintro w' ⟨s0, s1, s2, s3⟩
             go_simp
             with_reducible rfl
            rotate_left
            ·simp only [Act.put, Sq.s1, Sq.s2, Sq.s3, i64_w, i32_w]
             rfl
            refine Sq.ost 9 (Sq.b 16 1023) 5 (.int .i64 ay) HT_.out BKx BKm HB GEx NBmx hHeld ?_
            clear BKx BKm HB hHeld
            intro iN BKx BKm HB hHeld
            refine Sq.pur 10 (some 142) (Sq.b 16 2047) HT_.out ?_
            refine Sq.ost 11 (Sq.b 16 4095) 18 (.int .i64 an) HT_.out BKx BKm HB GEx NBmx hHeld ?_
            clear BKx BKm HB hHeld
            intro kB BKx BKm HB hHeld
            refine Sq.pur 12 (some 143) (Sq.b 16 8191) HT_.out ?_
            refine Sq.ost 13 (Sq.b 16 16383) 14 (.int .i64 ak) HT_.out BKx BKm HB GEx NBmx hHeld ?_
            clear BKx BKm HB hHeld
            intro kW BKx BKm HB hHeld
            refine Sq.pur 14 (some 144) (Sq.b 16 32767) HT_.out ?_
            refine Sq.ost 15 (Sq.b 16 65535) 19 (.string aa) HT_.out BKx BKm HB GEx NBmx hHeld ?_
            clear BKx BKm HB hHeld
            intro ld BKx BKm HB hHeld
            refine done_ (done_of HT_.out Z11) ?_
            go_wp2
            go_meet
            case rel => exact ⟨10, 0, 0, ⟨#[]⟩, 0, ay, ⟨#[]⟩, 0, 0, ⟨#[]⟩, 0, ⟨#[]⟩, 0, 0, ak, 0, 0, 0, an, aa, ⟨#[]⟩, [], none, 0, 0, ⟨#[]⟩, af, aJ, aK, HRES, ⟨BKm.out⟩, ⟨Pre.heap_norm BKx.out Z38⟩, ⟨HB.out⟩, ⟨Kd.C_nil _ _⟩, ⟨Nat.le_refl 0⟩, ⟨Kd.C_below bZ.out HB.out⟩, aT⟩
           ·by_cases dC : aD = 11
            ·subst dC
             have HRES : Aside0 (roadbookref07_Same.f k 11 0 0 ⟨#[]⟩ 0 ay av ar 0 az ao am ah 0 ak 0 0 0 0 ⟨#[]⟩ ⟨#[]⟩ [] 0 ⟨#[]⟩ af 11 aw ax au aA ay av ar aC az ao am ah aj ak ae ag ai an aa ab ac ap aq af = some r) := ⟨(roadbookref07_Bare.f11 k aw ax au aA ay av ar aC az ao am ah aj ak ae ag ai an aa ab ac ap aq af).symm.trans dh.out⟩
             clear dh
             go_wp2
             have bi := Aside0.mk (blk_drew BKm.out)
             have bp := Aside0.mk (blk_drew BKx.out)
             have bT := Aside0.mk (below_drew1 HB.out)
             clear BKm BKx HB  hcm0
             have BKm := bi
             have BKx := bp
             have HB := bT
             clear bi bp bT
             refine start_ (n := 32) (S := fun w' => w'.cell? ⟨gm, 5, none⟩ = some (.int .i64 ay) ∧ w'.cell? ⟨gm, 6, none⟩ = some (.string av) ∧ w'.cell? ⟨gm, 7, none⟩ = some (.int .i64 ar) ∧ w'.cell? ⟨gm, 14, none⟩ = some (.int .i64 ak) ∧ w'.cell? ⟨gm, 12, none⟩ = some (.int .i64 ah) ∧ w'.cell? ⟨gm, 10, none⟩ = some (.int .i64 ao) ∧ w'.cell? ⟨gm, 11, none⟩ = some (.string am) ∧ w'.cell? ⟨gm, 9, none⟩ = some (.string az)) (ds := []) (Sq.b 32 0) Z11 rfl rfl ⟨Sq.bc BKm 5, Sq.bc BKm 6, Sq.bc BKm 7, Sq.bc BKm 14, Sq.bc BKm 12, Sq.bc BKm 10, Sq.bc BKm 11, Sq.bc BKm 9⟩ (fun hHeld => ?_); refine with_tabW roadbookref07_Bare.tab24 roadbookref07_Bare.bits24 (fun HT_ HW_ => ?_)
             generalize World.drew _ = ke at BKm BKx HB hHeld ⊢
             refine Sq.pur 0 (some 147) (Sq.b 32 1) HT_.out ?_
             refine Sq.pur 2 (some 149) (Sq.b 32 5) HT_.out ?_
             refine Sq.pur 4 (some 151) (Sq.b 32 21) HT_.out ?_
             refine Sq.pur 6 (some 153) (Sq.b 32 85) HT_.out ?_
             refine Sq.pur 8 (some 155) (Sq.b 32 341) HT_.out ?_
             refine Sq.pur 10 (some 157) (Sq.b 32 1365) HT_.out ?_
             refine Sq.pur 12 (some 159) (Sq.b 32 5461) HT_.out ?_
             refine Sq.pur 14 (some 161) (Sq.b 32 21845) HT_.out ?_
             refine Sq.tak 1 (some 148) (Sq.b 32 21847) HT_.out HW_.out hHeld (v := ?_) (a' := ?_) ?_ ?_ ?_
             rotate_left
             ·rintro w' ⟨s0, s1, s2, s3, s4, s5, s6, s7⟩
              go_simp
              with_reducible rfl
             rotate_left
             ·simp only [Act.put, Sq.s1, Sq.s2, Sq.s3, i64_w, i32_w]
              rfl
             refine Sq.pur 16 (some 163) (Sq.b 32 87383) HT_.out ?_
             refine Sq.tak 3 (some 150) (Sq.b 32 87391) HT_.out HW_.out hHeld (v := ?_) (a' := ?_) ?_ ?_ ?_
             rotate_left
             ·rintro w' ⟨s0, s1, s2, s3, s4, s5, s6, s7⟩
              go_simp
              with_reducible rfl
             rotate_left
             ·simp only [Act.put, Sq.s1, Sq.s2, Sq.s3, i64_w, i32_w]
              rfl
             refine Sq.tak 5 (some 152) (Sq.b 32 87423) HT_.out HW_.out hHeld (v := ?_) (a' := ?_) ?_ ?_ ?_
             rotate_left
             ·rintro w' ⟨s0, s1, s2, s3, s4, s5, s6, s7⟩
              go_simp
              with_reducible rfl
             rotate_left
             ·simp only [Act.put, Sq.s1, Sq.s2, Sq.s3, i64_w, i32_w]
              rfl
             refine Sq.tak 7 (some 154) (Sq.b 32 87551) HT_.out HW_.out hHeld (v := ?_) (a' := ?_) ?_ ?_ ?_
             rotate_left
             ·rintro w' ⟨s0, s1, s2, s3, s4, s5, s6, s7⟩
              go_simp
              with_reducible rfl
             rotate_left
             ·simp only [Act.put, Sq.s1, Sq.s2, Sq.s3, i64_w, i32_w]
              rfl
             refine Sq.tak 9 (some 156) (Sq.b 32 88063) HT_.out HW_.out hHeld (v := ?_) (a' := ?_) ?_ ?_ ?_
             rotate_left
             ·rintro w' ⟨s0, s1, s2, s3, s4, s5, s6, s7⟩
              go_simp
              with_reducible rfl
             rotate_left
             ·simp only [Act.put, Sq.s1, Sq.s2, Sq.s3, i64_w, i32_w]
              rfl
             refine Sq.tak 11 (some 158) (Sq.b 32 90111) HT_.out HW_.out hHeld (v := ?_) (a' := ?_) ?_ ?_ ?_
             rotate_left
             ·rintro w' ⟨s0, s1, s2, s3, s4, s5, s6, s7⟩
              go_simp
              with_reducible rfl
             rotate_left
             ·simp only [Act.put, Sq.s1, Sq.s2, Sq.s3, i64_w, i32_w]
              rfl
             refine Sq.tak 13 (some 160) (Sq.b 32 98303) HT_.out HW_.out hHeld (v := ?_) (a' := ?_) ?_ ?_ ?_
             rotate_left
             ·rintro w' ⟨s0, s1, s2, s3, s4, s5, s6, s7⟩
              go_simp
              with_reducible rfl
             rotate_left
             ·simp only [Act.put, Sq.s1, Sq.s2, Sq.s3, i64_w, i32_w]
              rfl
             refine Sq.tak 15 (some 162) (Sq.b 32 131071) HT_.out HW_.out hHeld (v := ?_) (a' := ?_) ?_ ?_ ?_
             rotate_left
             ·rintro w' ⟨s0, s1, s2, s3, s4, s5, s6, s7⟩
              go_simp
              with_reducible rfl
             rotate_left
             ·simp only [Act.put, Sq.s1, Sq.s2, Sq.s3, i64_w, i32_w]
              rfl
             refine Sq.ost 17 (Sq.b 32 262143) 5 (.int .i64 ay) HT_.out BKx BKm HB GEx NBmx hHeld ?_
             clear BKx BKm HB hHeld
             intro iN BKx BKm HB hHeld
             refine Sq.pur 18 (some 164) (Sq.b 32 524287) HT_.out ?_
             refine Sq.ost 19 (Sq.b 32 1048575) 6 (.string av) HT_.out BKx BKm HB GEx NBmx hHeld ?_
             clear BKx BKm HB hHeld
             intro kB BKx BKm HB hHeld
             refine Sq.pur 20 (some 165) (Sq.b 32 2097151) HT_.out ?_
             refine Sq.ost 21 (Sq.b 32 4194303) 7 (.int .i64 ar) HT_.out BKx BKm HB GEx NBmx hHeld ?_
             clear BKx BKm HB hHeld
             intro kW BKx BKm HB hHeld
             refine Sq.pur 22 (some 166) (Sq.b 32 8388607) HT_.out ?_
             refine Sq.ost 23 (Sq.b 32 16777215) 14 (.int .i64 ak) HT_.out BKx BKm HB GEx NBmx hHeld ?_
             clear BKx BKm HB hHeld
             intro ld BKx BKm HB hHeld
             refine Sq.pur 24 (some 167) (Sq.b 32 33554431) HT_.out ?_
             refine Sq.ost 25 (Sq.b 32 67108863) 12 (.int .i64 ah) HT_.out BKx BKm HB GEx NBmx hHeld ?_
             clear BKx BKm HB hHeld
             intro nq BKx BKm HB hHeld
             refine Sq.pur 26 (some 168) (Sq.b 32 134217727) HT_.out ?_
             refine Sq.ost 27 (Sq.b 32 268435455) 10 (.int .i64 ao) HT_.out BKx BKm HB GEx NBmx hHeld ?_
             clear BKx BKm HB hHeld
             intro nO BKx BKm HB hHeld
             refine Sq.pur 28 (some 169) (Sq.b 32 536870911) HT_.out ?_
             refine Sq.ost 29 (Sq.b 32 1073741823) 11 (.string am) HT_.out BKx BKm HB GEx NBmx hHeld ?_
             clear BKx BKm HB hHeld
             intro nA BKx BKm HB hHeld
             refine Sq.pur 30 (some 170) (Sq.b 32 2147483647) HT_.out ?_
             refine Sq.ost 31 (Sq.b 32 4294967295) 9 (.string az) HT_.out BKx BKm HB GEx NBmx hHeld ?_
             clear BKx BKm HB hHeld
             intro w47 BKx BKm HB hHeld
             refine done_ (done_of HT_.out Z11) ?_
             go_wp2
             go_meet
             case rel => exact ⟨11, 0, 0, ⟨#[]⟩, 0, ay, av, ar, 0, az, ao, am, ah, 0, ak, 0, 0, 0, 0, ⟨#[]⟩, ⟨#[]⟩, [], none, 0, 0, ⟨#[]⟩, af, aJ, aK, HRES, ⟨BKm.out⟩, ⟨Pre.heap_norm BKx.out Z38⟩, ⟨HB.out⟩, ⟨Kd.C_nil _ _⟩, ⟨Nat.le_refl 0⟩, ⟨Kd.C_below bZ.out HB.out⟩, aT⟩
            ·by_cases dP : aD = 12
             ·subst dP
              have HRES : Aside0 (roadbookref07_Same.f k 12 0 0 ⟨#[]⟩ 0 ay av ar 0 ⟨#[]⟩ 0 ⟨#[]⟩ 0 0 0 0 0 0 0 ⟨#[]⟩ ⟨#[]⟩ [] 0 ⟨#[]⟩ af 12 aw ax au aA ay av ar aC az ao am ah aj ak ae ag ai an aa ab ac ap aq af = some r) := ⟨(roadbookref07_Bare.f12 k aw ax au aA ay av ar aC az ao am ah aj ak ae ag ai an aa ab ac ap aq af).symm.trans dh.out⟩
              clear dh
              go_wp2
              have bi := Aside0.mk (blk_drew BKm.out)
              have bp := Aside0.mk (blk_drew BKx.out)
              have bT := Aside0.mk (below_drew1 HB.out)
              clear BKm BKx HB  hcm0
              have BKm := bi
              have BKx := bp
              have HB := bT
              clear bi bp bT
              refine start_ (n := 12) (S := fun w' => w'.cell? ⟨gm, 5, none⟩ = some (.int .i64 ay) ∧ w'.cell? ⟨gm, 6, none⟩ = some (.string av) ∧ w'.cell? ⟨gm, 7, none⟩ = some (.int .i64 ar)) (ds := []) (Sq.b 12 0) Z11 rfl rfl ⟨Sq.bc BKm 5, Sq.bc BKm 6, Sq.bc BKm 7⟩ (fun hHeld => ?_); refine with_tabW roadbookref07_Bare.tab26 roadbookref07_Bare.bits26 (fun HT_ HW_ => ?_)
              generalize World.drew _ = ke at BKm BKx HB hHeld ⊢
              refine Sq.pur 0 (some 173) (Sq.b 12 1) HT_.out ?_
              refine Sq.pur 2 (some 175) (Sq.b 12 5) HT_.out ?_
              refine Sq.pur 4 (some 177) (Sq.b 12 21) HT_.out ?_
              refine Sq.tak 1 (some 174) (Sq.b 12 23) HT_.out HW_.out hHeld (v := ?_) (a' := ?_) ?_ ?_ ?_
              rotate_left
              ·rintro w' ⟨s0, s1, s2⟩
               go_simp
               with_reducible rfl
              rotate_left
              ·simp only [Act.put, Sq.s1, Sq.s2, Sq.s3, i64_w, i32_w]
               rfl
              refine Sq.pur 6 (some 179) (Sq.b 12 87) HT_.out ?_
              refine Sq.tak 3 (some 176) (Sq.b 12 95) HT_.out HW_.out hHeld (v := ?_) (a' := ?_) ?_ ?_ ?_
              rotate_left
              ·rintro w' ⟨s0, s1, s2⟩
               go_simp
               with_reducible rfl
              rotate_left
              ·simp only [Act.put, Sq.s1, Sq.s2, Sq.s3, i64_w, i32_w]
               rfl
              refine Sq.tak 5 (some 178) (Sq.b 12 127) HT_.out HW_.out hHeld (v := ?_) (a' := ?_) ?_ ?_ ?_
              rotate_left
              ·rintro w' ⟨s0, s1, s2⟩
               go_simp
               with_reducible rfl
              rotate_left
              ·simp only [Act.put, Sq.s1, Sq.s2, Sq.s3, i64_w, i32_w]
               rfl
              refine Sq.ost 7 (Sq.b 12 255) 5 (.int .i64 ay) HT_.out BKx BKm HB GEx NBmx hHeld ?_
              clear BKx BKm HB hHeld
              intro iN BKx BKm HB hHeld
              refine Sq.pur 8 (some 180) (Sq.b 12 511) HT_.out ?_
              refine Sq.ost 9 (Sq.b 12 1023) 6 (.string av) HT_.out BKx BKm HB GEx NBmx hHeld ?_
              clear BKx BKm HB hHeld
              intro kB BKx BKm HB hHeld
              refine Sq.pur 10 (some 181) (Sq.b 12 2047) HT_.out ?_
              refine Sq.ost 11 (Sq.b 12 4095) 7 (.int .i64 ar) HT_.out BKx BKm HB GEx NBmx hHeld ?_
              clear BKx BKm HB hHeld
              intro kW BKx BKm HB hHeld
              refine done_ (done_of HT_.out Z11) ?_
              go_wp2
              go_meet
              case rel => exact ⟨12, 0, 0, ⟨#[]⟩, 0, ay, av, ar, 0, ⟨#[]⟩, 0, ⟨#[]⟩, 0, 0, 0, 0, 0, 0, 0, ⟨#[]⟩, ⟨#[]⟩, [], none, 0, 0, ⟨#[]⟩, af, aJ, aK, HRES, ⟨BKm.out⟩, ⟨Pre.heap_norm BKx.out Z38⟩, ⟨HB.out⟩, ⟨Kd.C_nil _ _⟩, ⟨Nat.le_refl 0⟩, ⟨Kd.C_below bZ.out HB.out⟩, aT⟩
             ·by_cases dB : aD = 13
              ·subst dB
               have HRES : Aside0 (roadbookref07_Same.f k 13 0 0 ⟨#[]⟩ 0 ay av ar 0 ⟨#[]⟩ 0 am ah 0 0 0 ag 0 0 ⟨#[]⟩ ⟨#[]⟩ [] 0 ⟨#[]⟩ af 13 aw ax au aA ay av ar aC az ao am ah aj ak ae ag ai an aa ab ac ap aq af = some r) := ⟨(roadbookref07_Bare.f13 k aw ax au aA ay av ar aC az ao am ah aj ak ae ag ai an aa ab ac ap aq af).symm.trans dh.out⟩
               clear dh
               go_wp2
               have bi := Aside0.mk (blk_drew BKm.out)
               have bp := Aside0.mk (blk_drew BKx.out)
               have bT := Aside0.mk (below_drew1 HB.out)
               clear BKm BKx HB  hcm0
               have BKm := bi
               have BKx := bp
               have HB := bT
               clear bi bp bT
               refine start_ (n := 24) (S := fun w' => w'.cell? ⟨gm, 5, none⟩ = some (.int .i64 ay) ∧ w'.cell? ⟨gm, 6, none⟩ = some (.string av) ∧ w'.cell? ⟨gm, 7, none⟩ = some (.int .i64 ar) ∧ w'.cell? ⟨gm, 12, none⟩ = some (.int .i64 ah) ∧ w'.cell? ⟨gm, 16, none⟩ = some (.int .i64 ag) ∧ w'.cell? ⟨gm, 11, none⟩ = some (.string am)) (ds := []) (Sq.b 24 0) Z11 rfl rfl ⟨Sq.bc BKm 5, Sq.bc BKm 6, Sq.bc BKm 7, Sq.bc BKm 12, Sq.bc BKm 16, Sq.bc BKm 11⟩ (fun hHeld => ?_); refine with_tabW roadbookref07_Bare.tab28 roadbookref07_Bare.bits28 (fun HT_ HW_ => ?_)
               generalize World.drew _ = ke at BKm BKx HB hHeld ⊢
               refine Sq.pur 0 (some 184) (Sq.b 24 1) HT_.out ?_
               refine Sq.pur 2 (some 186) (Sq.b 24 5) HT_.out ?_
               refine Sq.pur 4 (some 188) (Sq.b 24 21) HT_.out ?_
               refine Sq.pur 6 (some 190) (Sq.b 24 85) HT_.out ?_
               refine Sq.pur 8 (some 192) (Sq.b 24 341) HT_.out ?_
               refine Sq.pur 10 (some 194) (Sq.b 24 1365) HT_.out ?_
               refine Sq.tak 1 (some 185) (Sq.b 24 1367) HT_.out HW_.out hHeld (v := ?_) (a' := ?_) ?_ ?_ ?_
               rotate_left
               ·rintro w' ⟨s0, s1, s2, s3, s4, s5⟩
                go_simp
                with_reducible rfl
               rotate_left
               ·simp only [Act.put, Sq.s1, Sq.s2, Sq.s3, i64_w, i32_w]
                rfl
               refine Sq.pur 12 (some 196) (Sq.b 24 5463) HT_.out ?_
               refine Sq.tak 3 (some 187) (Sq.b 24 5471) HT_.out HW_.out hHeld (v := ?_) (a' := ?_) ?_ ?_ ?_
               rotate_left
               ·rintro w' ⟨s0, s1, s2, s3, s4, s5⟩
                go_simp
                with_reducible rfl
               rotate_left
               ·simp only [Act.put, Sq.s1, Sq.s2, Sq.s3, i64_w, i32_w]
                rfl
               refine Sq.tak 5 (some 189) (Sq.b 24 5503) HT_.out HW_.out hHeld (v := ?_) (a' := ?_) ?_ ?_ ?_
               rotate_left
               ·rintro w' ⟨s0, s1, s2, s3, s4, s5⟩
                go_simp
                with_reducible rfl
               rotate_left
               ·simp only [Act.put, Sq.s1, Sq.s2, Sq.s3, i64_w, i32_w]
                rfl
               refine Sq.tak 7 (some 191) (Sq.b 24 5631) HT_.out HW_.out hHeld (v := ?_) (a' := ?_) ?_ ?_ ?_
               rotate_left
               ·rintro w' ⟨s0, s1, s2, s3, s4, s5⟩
                go_simp
                with_reducible rfl
               rotate_left
               ·simp only [Act.put, Sq.s1, Sq.s2, Sq.s3, i64_w, i32_w]
                rfl
               refine Sq.tak 9 (some 193) (Sq.b 24 6143) HT_.out HW_.out hHeld (v := ?_) (a' := ?_) ?_ ?_ ?_
               rotate_left
               ·rintro w' ⟨s0, s1, s2, s3, s4, s5⟩
                go_simp
                with_reducible rfl
               rotate_left
               ·simp only [Act.put, Sq.s1, Sq.s2, Sq.s3, i64_w, i32_w]
                rfl
               refine Sq.tak 11 (some 195) (Sq.b 24 8191) HT_.out HW_.out hHeld (v := ?_) (a' := ?_) ?_ ?_ ?_
               rotate_left
               ·rintro w' ⟨s0, s1, s2, s3, s4, s5⟩
                go_simp
                with_reducible rfl
               rotate_left
               ·simp only [Act.put, Sq.s1, Sq.s2, Sq.s3, i64_w, i32_w]
                rfl
               refine Sq.ost 13 (Sq.b 24 16383) 5 (.int .i64 ay) HT_.out BKx BKm HB GEx NBmx hHeld ?_
               clear BKx BKm HB hHeld
               intro iN BKx BKm HB hHeld
               refine Sq.pur 14 (some 197) (Sq.b 24 32767) HT_.out ?_
               refine Sq.ost 15 (Sq.b 24 65535) 6 (.string av) HT_.out BKx BKm HB GEx NBmx hHeld ?_
               clear BKx BKm HB hHeld
               intro kB BKx BKm HB hHeld
               refine Sq.pur 16 (some 198) (Sq.b 24 131071) HT_.out ?_
               refine Sq.ost 17 (Sq.b 24 262143) 7 (.int .i64 ar) HT_.out BKx BKm HB GEx NBmx hHeld ?_
               clear BKx BKm HB hHeld
               intro kW BKx BKm HB hHeld
               refine Sq.pur 18 (some 199) (Sq.b 24 524287) HT_.out ?_
               refine Sq.ost 19 (Sq.b 24 1048575) 12 (.int .i64 ah) HT_.out BKx BKm HB GEx NBmx hHeld ?_
               clear BKx BKm HB hHeld
               intro ld BKx BKm HB hHeld
               refine Sq.pur 20 (some 200) (Sq.b 24 2097151) HT_.out ?_
               refine Sq.ost 21 (Sq.b 24 4194303) 16 (.int .i64 ag) HT_.out BKx BKm HB GEx NBmx hHeld ?_
               clear BKx BKm HB hHeld
               intro nq BKx BKm HB hHeld
               refine Sq.pur 22 (some 201) (Sq.b 24 8388607) HT_.out ?_
               refine Sq.ost 23 (Sq.b 24 16777215) 11 (.string am) HT_.out BKx BKm HB GEx NBmx hHeld ?_
               clear BKx BKm HB hHeld
               intro nO BKx BKm HB hHeld
               refine done_ (done_of HT_.out Z11) ?_
               go_wp2
               go_meet
               case rel => exact ⟨13, 0, 0, ⟨#[]⟩, 0, ay, av, ar, 0, ⟨#[]⟩, 0, am, ah, 0, 0, 0, ag, 0, 0, ⟨#[]⟩, ⟨#[]⟩, [], none, 0, 0, ⟨#[]⟩, af, aJ, aK, HRES, ⟨BKm.out⟩, ⟨Pre.heap_norm BKx.out Z38⟩, ⟨HB.out⟩, ⟨Kd.C_nil _ _⟩, ⟨Nat.le_refl 0⟩, ⟨Kd.C_below bZ.out HB.out⟩, aT⟩
              ·by_cases dQ : aD = 14
               ·subst dQ
                have HRES : Aside0 (roadbookref07_Same.f k 14 0 0 ⟨#[]⟩ 0 0 ⟨#[]⟩ 0 0 ⟨#[]⟩ 0 ⟨#[]⟩ 0 0 0 0 0 0 0 ⟨#[]⟩ ⟨#[]⟩ [] ap aq [] 14 aw ax au aA ay av ar aC az ao am ah aj ak ae ag ai an aa ab ac ap aq af = some r) := ⟨(roadbookref07_Bare.f14 k aw ax au aA ay av ar aC az ao am ah aj ak ae ag ai an aa ab ac ap aq af).symm.trans dh.out⟩
                clear dh
                have hcm22 := (blk_cell BKm.out 22).trans rfl
                have hcm23 := (blk_cell BKm.out 23).trans rfl
                go_wp2_with (first | ((with_reducible refine gate_dst (N := 210) rfl ?_); refine Pre.build_event 210 25 [(0, .tmp 205), (22, .tmp 207), (23, .tmp 209)] rfl rfl rfl (roadbookref07_Bare.bd210 _ _ _) ?_) | ((with_reducible refine Pre.gate_store 25 rfl ?_); refine Pre.store_abs rfl rfl rfl Z14 Z14 Z37 Z11 Z14 Z14 ?_; intro wS hbS sS; have bi := Aside0.mk (sS.blk Z23 NBmx.out); have bp := Aside0.mk (sS.below Z17 GEx.out); have bT := Aside0.mk hbS; clear BKm HB BKx hbS sS; have BKm := bi; have HB := bp; have BKx := bT; clear bi bp bT))
                go_meet
                case rel => exact ⟨14, 0, 0, ⟨#[]⟩, 0, 0, ⟨#[]⟩, 0, 0, ⟨#[]⟩, 0, ⟨#[]⟩, 0, 0, 0, 0, 0, 0, 0, ⟨#[]⟩, ⟨#[]⟩, [], none, 0, ap, aq, [], none, 0, HRES, ⟨BKm.out⟩, BKx, ⟨HB.out⟩, ⟨Kd.C_nil _ _⟩, ⟨Nat.le_refl 0⟩, ⟨Kd.C_nil _ _⟩, ⟨Nat.le_refl 0⟩⟩
               ·obtain rfl : r = false := (Option.some.inj (dh.out.symm.trans (roadbookref07_Bare.fno k aD aw ax au aA ay av ar aC az ao am ah aj ak ae ag ai an aa ab ac ap aq af Z29)))
                have d1 : (aD == 1) = false := beq_eq_false_iff_ne.mpr c1
                have d2 : (aD == 2) = false := beq_eq_false_iff_ne.mpr c2
                have d3 : (aD == 3) = false := beq_eq_false_iff_ne.mpr c3
                have d4 : (aD == 4) = false := beq_eq_false_iff_ne.mpr c4
                have d5 : (aD == 5) = false := beq_eq_false_iff_ne.mpr c5
                have d6 : (aD == 6) = false := beq_eq_false_iff_ne.mpr c6
                have d7 : (aD == 7) = false := beq_eq_false_iff_ne.mpr c7
                have d8 : (aD == 8) = false := beq_eq_false_iff_ne.mpr c8
                have d9 : (aD == 9) = false := beq_eq_false_iff_ne.mpr c9
                have d10 : (aD == 10) = false := beq_eq_false_iff_ne.mpr dv
                have d11 : (aD == 11) = false := beq_eq_false_iff_ne.mpr dC
                have d12 : (aD == 12) = false := beq_eq_false_iff_ne.mpr dP
                have d13 : (aD == 13) = false := beq_eq_false_iff_ne.mpr dB
                have d14 : (aD == 14) = false := beq_eq_false_iff_ne.mpr dQ
                clear c1 c2 c3 c4 c5 c6 c7 c8 c9 dv dC dP dB dQ dh
                go_wp2
                go_ret
                exact ⟨rfl, Z28⟩
 case rest =>
  clear hcm0 dh BKm BKx HB
  obtain ⟨p0, p1, p2, p3, p4, p5, p6, p7, p8, p9, p10, p11, p12, p13, p14, p15, p16, p17, p18, p19, p20, p21, P21, C21, p22, p23, p24, P24, C24, HRES, BKm, BKx, HB, HP21, HQ21, HP24, HQ24⟩ := hcut
  go_wp2_with (first | ((with_reducible refine Pre.gate_load 25 rfl ?_); refine Pre.load_event rfl rfl rfl Z14 (by (with_reducible repeat (first | refine blk_drewN ?_ _ | refine blk_drew ?_ | refine blk_alloc ?_ _)); (with_reducible first | exact BKx.out | exact BKm.out)) Try.underlying25 rfl Z11 ?_) | ((with_reducible refine gate_callee (f := 24) rfl ?_); refine goesL_ (some 213) rfl rfl Try.func24 Z11 rfl #[.agg #[.int .i64 p0, .int .i64 p1, .int .i64 p2, .string p3, .int .i64 p4, .int .i64 p5, .string p6, .int .i64 p7, .int .i64 p8, .string p9, .int .i64 p10, .string p11, .int .i64 p12, .int .i64 p13, .int .i64 p14, .int .i64 p15, .int .i64 p16, .int .i64 p17, .int .i64 p18, .string p19, .string p20, .slice P21 p21.length C21, .int .i64 p22, .string p23, .slice P24 p24.length C24], .agg #[.int .i64 aD, .int .i64 aw, .int .i64 ax, .string au, .int .i64 aA, .int .i64 ay, .string av, .int .i64 ar, .int .i64 aC, .string az, .int .i64 ao, .string am, .int .i64 ah, .int .i64 aj, .int .i64 ak, .int .i64 ae, .int .i64 ag, .int .i64 ai, .int .i64 an, .string aa, .string ab, .slice aP ac.length aN, .int .i64 ap, .string aq, .slice aJ af.length aK]] rfl (by (try simp only [List.map_toArray, List.map_cons, List.map_nil]); first | done | rfl) ?_; (with_reducible refine (roadbookref07_Same.calls k p0 p1 p2 p3 p4 p5 p6 p7 p8 p9 p10 p11 p12 p13 p14 p15 p16 p17 p18 p19 p20 _ _ p21 p22 p23 _ _ p24 aD aw ax au aA ay av ar aC az ao am ah aj ak ae ag ai an aa ab _ _ ac ap aq _ _ af _ _ ?side1 ?side2 ?side3 ?side4 ?side5 ?side6 ?side7 ?side8 HRES.out).mono ?_); (case side1 => exact (by repeat (first | exact HP21.out | (with_reducible refine Kd.C_alloc ?_ _) | (with_reducible refine Kd.C_drewN ?_ _) | (with_reducible refine Kd.C_drew ?_)))); (case side2 => exact HQ21.out); (case side3 => exact (by repeat (first | exact HP24.out | (with_reducible refine Kd.C_alloc ?_ _) | (with_reducible refine Kd.C_drewN ?_ _) | (with_reducible refine Kd.C_drew ?_)))); (case side4 => exact HQ24.out); (case side5 => exact Z7); (case side6 => exact aZ.out); (case side7 => exact Z5); (case side8 => exact aT.out); rintro e w6 ⟨rfl, hb⟩; refine ⟨_, rfl, ?_⟩; replace HB := Aside0.mk (below_step Z28 hb); clear hb))
  go_ret
  exact ⟨rfl, Z28⟩

end Go.Proofs.Ytccjakjjaemmkaa.PAE
