-- Written by mp.py, a program of this work (wip/tools), out of the translation; Lean checks it.
import Derived.Test.YtelcciekdoccfaaPMxZ
import Derived.Test.YtelcciekdoccfaaPMxroadbookref07Same
import Derived.Test.YtelcciekdoccfaaBuild
import Derived.Test.YtelcciekdoccfaaStore
namespace Go.Proofs.Ytelcciekdoccfaa.PM
open Go.RowKit Go.Proofs.YtelcciekdoccfaaW.PrintWords Go.Proofs.YtelcciekdoccfaaW.PrintLast Go.Proofs.YtelcciekdoccfaaW.PrintMore
attribute [local go_sem] max2_int min2_int max_two min_two max_three min_three max_four min_four   -- for this text's walks alone
set_option linter.unusedVariables false
set_option linter.unusedSimpArgs false

/-! ### roadbookref07_Bare: function 52 -/
def roadbookref07_Bare.T9 : Bool × List (List Nat × List Nat) := (true, [([], []), ([0], [0]), ([], []), ([2], [2]), ([], []), ([4], [4]), ([], []), ([6], [6]), ([], []), ([8], [8]), ([], []), ([10], [10]), ([], []), ([12], [12]), ([0, 1], []), ([14, 1, 0, 1], [1, 14]), ([0, 1, 2, 3, 14, 15], []), ([16, 3, 15, 0, 1, 2, 3, 14, 15], [3, 16]), ([0, 1, 2, 3, 4, 5, 14, 15, 16, 17], []), ([18, 5, 17, 0, 1, 2, 3, 4, 5, 14, 15, 16, 17], [5, 18]), ([0, 1, 2, 3, 4, 5, 6, 7, 14, 15, 16, 17, 18, 19], []), ([20, 7, 19, 0, 1, 2, 3, 4, 5, 6, 7, 14, 15, 16, 17, 18, 19], [7, 20]), ([0, 1, 2, 3, 4, 5, 6, 7, 8, 9, 14, 15, 16, 17, 18, 19, 20, 21], []), ([22, 9, 21, 0, 1, 2, 3, 4, 5, 6, 7, 8, 9, 14, 15, 16, 17, 18, 19, 20, 21], [9, 22]), ([0, 1, 2, 3, 4, 5, 6, 7, 8, 9, 10, 11, 14, 15, 16, 17, 18, 19, 20, 21, 22, 23], []), ([24, 11, 23, 0, 1, 2, 3, 4, 5, 6, 7, 8, 9, 10, 11, 14, 15, 16, 17, 18, 19, 20, 21, 22, 23], [11, 24]), ([0, 1, 2, 3, 4, 5, 6, 7, 8, 9, 10, 11, 12, 13, 14, 15, 16, 17, 18, 19, 20, 21, 22, 23, 24, 25], []), ([26, 13, 25, 0, 1, 2, 3, 4, 5, 6, 7, 8, 9, 10, 11, 12, 13, 14, 15, 16, 17, 18, 19, 20, 21, 22, 23, 24, 25], [13, 26])])
def roadbookref07_Bare.B9 : List Nat := [0, 1, 0, 4, 0, 16, 0, 64, 0, 256, 0, 1024, 0, 4096, 3, 16387, 49167, 114703, 245823, 507967, 1032447, 2081023, 4178943, 8373247, 16764927, 33542143, 67108863, 134217727]
theorem roadbookref07_Bare.tab9 : rtab .any (opsOf Try.f52 9) = roadbookref07_Bare.T9 := by kernel_rfl
theorem roadbookref07_Bare.bits9 : waitsOk roadbookref07_Bare.T9.2 roadbookref07_Bare.B9 = true := by kernel_rfl
def roadbookref07_Bare.T11 : Bool × List (List Nat × List Nat) := (true, [([], []), ([0], [0]), ([], []), ([2], [2]), ([], []), ([4], [4]), ([], []), ([6], [6]), ([], []), ([8], [8]), ([], []), ([10], [10]), ([], []), ([12], [12]), ([0, 1], []), ([14, 1, 0, 1], [1, 14]), ([0, 1, 2, 3, 14, 15], []), ([16, 3, 15, 0, 1, 2, 3, 14, 15], [3, 16]), ([0, 1, 2, 3, 4, 5, 14, 15, 16, 17], []), ([18, 5, 17, 0, 1, 2, 3, 4, 5, 14, 15, 16, 17], [5, 18]), ([0, 1, 2, 3, 4, 5, 6, 7, 14, 15, 16, 17, 18, 19], []), ([20, 7, 19, 0, 1, 2, 3, 4, 5, 6, 7, 14, 15, 16, 17, 18, 19], [7, 20]), ([0, 1, 2, 3, 4, 5, 6, 7, 8, 9, 14, 15, 16, 17, 18, 19, 20, 21], []), ([22, 9, 21, 0, 1, 2, 3, 4, 5, 6, 7, 8, 9, 14, 15, 16, 17, 18, 19, 20, 21], [9, 22]), ([0, 1, 2, 3, 4, 5, 6, 7, 8, 9, 10, 11, 14, 15, 16, 17, 18, 19, 20, 21, 22, 23], []), ([24, 11, 23, 0, 1, 2, 3, 4, 5, 6, 7, 8, 9, 10, 11, 14, 15, 16, 17, 18, 19, 20, 21, 22, 23], [11, 24]), ([0, 1, 2, 3, 4, 5, 6, 7, 8, 9, 10, 11, 12, 13, 14, 15, 16, 17, 18, 19, 20, 21, 22, 23, 24, 25], []), ([26, 13, 25, 0, 1, 2, 3, 4, 5, 6, 7, 8, 9, 10, 11, 12, 13, 14, 15, 16, 17, 18, 19, 20, 21, 22, 23, 24, 25], [13, 26])])
def roadbookref07_Bare.B11 : List Nat := [0, 1, 0, 4, 0, 16, 0, 64, 0, 256, 0, 1024, 0, 4096, 3, 16387, 49167, 114703, 245823, 507967, 1032447, 2081023, 4178943, 8373247, 16764927, 33542143, 67108863, 134217727]
theorem roadbookref07_Bare.tab11 : rtab .any (opsOf Try.f52 11) = roadbookref07_Bare.T11 := by kernel_rfl
theorem roadbookref07_Bare.bits11 : waitsOk roadbookref07_Bare.T11.2 roadbookref07_Bare.B11 = true := by kernel_rfl
def roadbookref07_Bare.T13 : Bool × List (List Nat × List Nat) := (true, [([], []), ([0], [0]), ([], []), ([2], [2]), ([0, 1], []), ([4, 1, 0, 1], [1, 4]), ([0, 1, 2, 3, 4, 5], []), ([6, 3, 5, 0, 1, 2, 3, 4, 5], [3, 6])])
def roadbookref07_Bare.B13 : List Nat := [0, 1, 0, 4, 3, 19, 63, 127]
theorem roadbookref07_Bare.tab13 : rtab .any (opsOf Try.f52 13) = roadbookref07_Bare.T13 := by kernel_rfl
theorem roadbookref07_Bare.bits13 : waitsOk roadbookref07_Bare.T13.2 roadbookref07_Bare.B13 = true := by kernel_rfl
def roadbookref07_Bare.T16 : Bool × List (List Nat × List Nat) := (true, [([], []), ([0], [0]), ([], []), ([2], [2]), ([0, 1], []), ([4, 1, 0, 1], [1, 4]), ([0, 1, 2, 3, 4, 5], []), ([6, 3, 5, 0, 1, 2, 3, 4, 5], [3, 6])])
def roadbookref07_Bare.B16 : List Nat := [0, 1, 0, 4, 3, 19, 63, 127]
theorem roadbookref07_Bare.tab16 : rtab .any (opsOf Try.f52 16) = roadbookref07_Bare.T16 := by kernel_rfl
theorem roadbookref07_Bare.bits16 : waitsOk roadbookref07_Bare.T16.2 roadbookref07_Bare.B16 = true := by kernel_rfl
def roadbookref07_Bare.T20 : Bool × List (List Nat × List Nat) := (true, [([], []), ([0], [0]), ([], []), ([2], [2]), ([], []), ([4], [4]), ([0, 1], []), ([6, 1, 0, 1], [1, 6]), ([0, 1, 2, 3, 6, 7], []), ([8, 3, 7, 0, 1, 2, 3, 6, 7], [3, 8]), ([0, 1, 2, 3, 4, 5, 6, 7, 8, 9], []), ([10, 5, 9, 0, 1, 2, 3, 4, 5, 6, 7, 8, 9], [5, 10])])
def roadbookref07_Bare.B20 : List Nat := [0, 1, 0, 4, 0, 16, 3, 67, 207, 463, 1023, 2047]
theorem roadbookref07_Bare.tab20 : rtab .any (opsOf Try.f52 20) = roadbookref07_Bare.T20 := by kernel_rfl
theorem roadbookref07_Bare.bits20 : waitsOk roadbookref07_Bare.T20.2 roadbookref07_Bare.B20 = true := by kernel_rfl
def roadbookref07_Bare.T22 : Bool × List (List Nat × List Nat) := (true, [([], []), ([0], [0]), ([], []), ([2], [2]), ([], []), ([4], [4]), ([], []), ([6], [6]), ([0, 1], []), ([8, 1, 0, 1], [1, 8]), ([0, 1, 2, 3, 8, 9], []), ([10, 3, 9, 0, 1, 2, 3, 8, 9], [3, 10]), ([0, 1, 2, 3, 4, 5, 8, 9, 10, 11], []), ([12, 5, 11, 0, 1, 2, 3, 4, 5, 8, 9, 10, 11], [5, 12]), ([0, 1, 2, 3, 4, 5, 6, 7, 8, 9, 10, 11, 12, 13], []), ([14, 7, 13, 0, 1, 2, 3, 4, 5, 6, 7, 8, 9, 10, 11, 12, 13], [7, 14])])
def roadbookref07_Bare.B22 : List Nat := [0, 1, 0, 4, 0, 16, 0, 64, 3, 259, 783, 1807, 3903, 7999, 16383, 32767]
theorem roadbookref07_Bare.tab22 : rtab .any (opsOf Try.f52 22) = roadbookref07_Bare.T22 := by kernel_rfl
theorem roadbookref07_Bare.bits22 : waitsOk roadbookref07_Bare.T22.2 roadbookref07_Bare.B22 = true := by kernel_rfl
def roadbookref07_Bare.T24 : Bool × List (List Nat × List Nat) := (true, [([], []), ([0], [0]), ([], []), ([2], [2]), ([], []), ([4], [4]), ([], []), ([6], [6]), ([], []), ([8], [8]), ([], []), ([10], [10]), ([], []), ([12], [12]), ([], []), ([14], [14]), ([0, 1], []), ([16, 1, 0, 1], [1, 16]), ([0, 1, 2, 3, 16, 17], []), ([18, 3, 17, 0, 1, 2, 3, 16, 17], [3, 18]), ([0, 1, 2, 3, 4, 5, 16, 17, 18, 19], []), ([20, 5, 19, 0, 1, 2, 3, 4, 5, 16, 17, 18, 19], [5, 20]), ([0, 1, 2, 3, 4, 5, 6, 7, 16, 17, 18, 19, 20, 21], []), ([22, 7, 21, 0, 1, 2, 3, 4, 5, 6, 7, 16, 17, 18, 19, 20, 21], [7, 22]), ([0, 1, 2, 3, 4, 5, 6, 7, 8, 9, 16, 17, 18, 19, 20, 21, 22, 23], []), ([24, 9, 23, 0, 1, 2, 3, 4, 5, 6, 7, 8, 9, 16, 17, 18, 19, 20, 21, 22, 23], [9, 24]), ([0, 1, 2, 3, 4, 5, 6, 7, 8, 9, 10, 11, 16, 17, 18, 19, 20, 21, 22, 23, 24, 25], []), ([26, 11, 25, 0, 1, 2, 3, 4, 5, 6, 7, 8, 9, 10, 11, 16, 17, 18, 19, 20, 21, 22, 23, 24, 25], [11, 26]), ([0, 1, 2, 3, 4, 5, 6, 7, 8, 9, 10, 11, 12, 13, 16, 17, 18, 19, 20, 21, 22, 23, 24, 25, 26, 27], []), ([28, 13, 27, 0, 1, 2, 3, 4, 5, 6, 7, 8, 9, 10, 11, 12, 13, 16, 17, 18, 19, 20, 21, 22, 23, 24, 25, 26, 27], [13, 28]), ([0, 1, 2, 3, 4, 5, 6, 7, 8, 9, 10, 11, 12, 13, 14, 15, 16, 17, 18, 19, 20, 21, 22, 23, 24, 25, 26, 27, 28, 29], []), ([30, 15, 29, 0, 1, 2, 3, 4, 5, 6, 7, 8, 9, 10, 11, 12, 13, 14, 15, 16, 17, 18, 19, 20, 21, 22, 23, 24, 25, 26, 27, 28, 29], [15, 30])])
def roadbookref07_Bare.B24 : List Nat := [0, 1, 0, 4, 0, 16, 0, 64, 0, 256, 0, 1024, 0, 4096, 0, 16384, 3, 65539, 196623, 458767, 983103, 2031679, 4129023, 8323327, 16712703, 33489919, 67047423, 134156287, 268386303, 536821759, 1073741823, 2147483647]
theorem roadbookref07_Bare.tab24 : rtab .any (opsOf Try.f52 24) = roadbookref07_Bare.T24 := by kernel_rfl
theorem roadbookref07_Bare.bits24 : waitsOk roadbookref07_Bare.T24.2 roadbookref07_Bare.B24 = true := by kernel_rfl
def roadbookref07_Bare.T26 : Bool × List (List Nat × List Nat) := (true, [([], []), ([0], [0]), ([], []), ([2], [2]), ([], []), ([4], [4]), ([0, 1], []), ([6, 1, 0, 1], [1, 6]), ([0, 1, 2, 3, 6, 7], []), ([8, 3, 7, 0, 1, 2, 3, 6, 7], [3, 8]), ([0, 1, 2, 3, 4, 5, 6, 7, 8, 9], []), ([10, 5, 9, 0, 1, 2, 3, 4, 5, 6, 7, 8, 9], [5, 10])])
def roadbookref07_Bare.B26 : List Nat := [0, 1, 0, 4, 0, 16, 3, 67, 207, 463, 1023, 2047]
theorem roadbookref07_Bare.tab26 : rtab .any (opsOf Try.f52 26) = roadbookref07_Bare.T26 := by kernel_rfl
theorem roadbookref07_Bare.bits26 : waitsOk roadbookref07_Bare.T26.2 roadbookref07_Bare.B26 = true := by kernel_rfl
def roadbookref07_Bare.T28 : Bool × List (List Nat × List Nat) := (true, [([], []), ([0], [0]), ([], []), ([2], [2]), ([], []), ([4], [4]), ([], []), ([6], [6]), ([], []), ([8], [8]), ([], []), ([10], [10]), ([0, 1], []), ([12, 1, 0, 1], [1, 12]), ([0, 1, 2, 3, 12, 13], []), ([14, 3, 13, 0, 1, 2, 3, 12, 13], [3, 14]), ([0, 1, 2, 3, 4, 5, 12, 13, 14, 15], []), ([16, 5, 15, 0, 1, 2, 3, 4, 5, 12, 13, 14, 15], [5, 16]), ([0, 1, 2, 3, 4, 5, 6, 7, 12, 13, 14, 15, 16, 17], []), ([18, 7, 17, 0, 1, 2, 3, 4, 5, 6, 7, 12, 13, 14, 15, 16, 17], [7, 18]), ([0, 1, 2, 3, 4, 5, 6, 7, 8, 9, 12, 13, 14, 15, 16, 17, 18, 19], []), ([20, 9, 19, 0, 1, 2, 3, 4, 5, 6, 7, 8, 9, 12, 13, 14, 15, 16, 17, 18, 19], [9, 20]), ([0, 1, 2, 3, 4, 5, 6, 7, 8, 9, 10, 11, 12, 13, 14, 15, 16, 17, 18, 19, 20, 21], []), ([22, 11, 21, 0, 1, 2, 3, 4, 5, 6, 7, 8, 9, 10, 11, 12, 13, 14, 15, 16, 17, 18, 19, 20, 21], [11, 22])])
def roadbookref07_Bare.B28 : List Nat := [0, 1, 0, 4, 0, 16, 0, 64, 0, 256, 0, 1024, 3, 4099, 12303, 28687, 61503, 127039, 258303, 520447, 1045503, 2094079, 4194303, 8388607]
theorem roadbookref07_Bare.tab28 : rtab .any (opsOf Try.f52 28) = roadbookref07_Bare.T28 := by kernel_rfl
theorem roadbookref07_Bare.bits28 : waitsOk roadbookref07_Bare.T28.2 roadbookref07_Bare.B28 = true := by kernel_rfl
def roadbookref07_Bare.f (k : Nat) (aG : Int) (aA : Int) (aB : Int) (az : ByteArray) (aC : Int) (av : Int) (ax : ByteArray) (aw : Int) (aD : Int) (ay : ByteArray) (ap : Int) (an : ByteArray) (ag : Int) (aq : Int) (ai : Int) (ah : Int) (ak : Int) (al : Int) (ao : Int) (aj : ByteArray) (am : ByteArray) (af : List S61) (ar : Int) (au : ByteArray) (ab : List S63) : Option Bool := if aG = 1 then roadbookref07_Same.f k 1 aA aB az aC 0 ax aw aD ay ap (⟨#[]⟩ : ByteArray) 0 0 0 0 0 0 0 (⟨#[]⟩ : ByteArray) (⟨#[]⟩ : ByteArray) ([] : List S61) 0 (⟨#[]⟩ : ByteArray) ([] : List S63) 1 aA aB az aC av ax aw aD ay ap an ag aq ai ah ak al ao aj am af ar au ab else if aG = 2 then roadbookref07_Same.f k 2 aA 0 (⟨#[]⟩ : ByteArray) 0 0 ax aw aD ay ap (⟨#[]⟩ : ByteArray) 0 0 0 0 0 0 0 (⟨#[]⟩ : ByteArray) (⟨#[]⟩ : ByteArray) ([] : List S61) 0 (⟨#[]⟩ : ByteArray) ([] : List S63) 2 aA aB az aC av ax aw aD ay ap an ag aq ai ah ak al ao aj am af ar au ab else if aG = 3 then roadbookref07_Same.f k 3 0 0 (⟨#[]⟩ : ByteArray) 0 0 (⟨#[]⟩ : ByteArray) 0 0 (⟨#[]⟩ : ByteArray) 0 (⟨#[]⟩ : ByteArray) ag aq 0 ah ak al 0 aj am ([] : List S61) 0 (⟨#[]⟩ : ByteArray) ab 3 aA aB az aC av ax aw aD ay ap an ag aq ai ah ak al ao aj am af ar au ab else if aG = 4 then roadbookref07_Same.f k 4 0 0 (⟨#[]⟩ : ByteArray) 0 0 (⟨#[]⟩ : ByteArray) aw 0 (⟨#[]⟩ : ByteArray) 0 (⟨#[]⟩ : ByteArray) ag 0 ai ah ak 0 0 aj am ([] : List S61) 0 (⟨#[]⟩ : ByteArray) ab 4 aA aB az aC av ax aw aD ay ap an ag aq ai ah ak al ao aj am af ar au ab else if aG = 5 then roadbookref07_Same.f k 5 0 0 (⟨#[]⟩ : ByteArray) 0 0 (⟨#[]⟩ : ByteArray) 0 0 (⟨#[]⟩ : ByteArray) 0 (⟨#[]⟩ : ByteArray) 0 0 0 ah 0 0 0 (⟨#[]⟩ : ByteArray) (⟨#[]⟩ : ByteArray) af 0 (⟨#[]⟩ : ByteArray) ab 5 aA aB az aC av ax aw aD ay ap an ag aq ai ah ak al ao aj am af ar au ab else if aG = 6 then roadbookref07_Same.f k 6 0 0 (⟨#[]⟩ : ByteArray) 0 0 (⟨#[]⟩ : ByteArray) 0 0 (⟨#[]⟩ : ByteArray) 0 (⟨#[]⟩ : ByteArray) 0 0 0 0 0 0 0 (⟨#[]⟩ : ByteArray) (⟨#[]⟩ : ByteArray) ([] : List S61) 0 (⟨#[]⟩ : ByteArray) ab 6 aA aB az aC av ax aw aD ay ap an ag aq ai ah ak al ao aj am af ar au ab else if aG = 7 then roadbookref07_Same.f k 7 0 0 (⟨#[]⟩ : ByteArray) 0 0 (⟨#[]⟩ : ByteArray) 0 0 (⟨#[]⟩ : ByteArray) 0 (⟨#[]⟩ : ByteArray) 0 0 ai 0 0 al 0 (⟨#[]⟩ : ByteArray) (⟨#[]⟩ : ByteArray) ([] : List S61) 0 (⟨#[]⟩ : ByteArray) ab 7 aA aB az aC av ax aw aD ay ap an ag aq ai ah ak al ao aj am af ar au ab else if aG = 8 then roadbookref07_Same.f k 8 0 0 (⟨#[]⟩ : ByteArray) 0 0 (⟨#[]⟩ : ByteArray) 0 0 (⟨#[]⟩ : ByteArray) 0 (⟨#[]⟩ : ByteArray) 0 0 0 0 0 al 0 (⟨#[]⟩ : ByteArray) (⟨#[]⟩ : ByteArray) ([] : List S61) 0 (⟨#[]⟩ : ByteArray) ab 8 aA aB az aC av ax aw aD ay ap an ag aq ai ah ak al ao aj am af ar au ab else if aG = 9 then roadbookref07_Same.f k 9 0 0 (⟨#[]⟩ : ByteArray) 0 0 (⟨#[]⟩ : ByteArray) 0 0 (⟨#[]⟩ : ByteArray) 0 (⟨#[]⟩ : ByteArray) ag 0 ai ah 0 0 0 (⟨#[]⟩ : ByteArray) (⟨#[]⟩ : ByteArray) ([] : List S61) 0 (⟨#[]⟩ : ByteArray) ab 9 aA aB az aC av ax aw aD ay ap an ag aq ai ah ak al ao aj am af ar au ab else if aG = 10 then roadbookref07_Same.f k 10 0 0 (⟨#[]⟩ : ByteArray) 0 av (⟨#[]⟩ : ByteArray) 0 0 (⟨#[]⟩ : ByteArray) 0 (⟨#[]⟩ : ByteArray) 0 0 ai 0 0 0 ao aj (⟨#[]⟩ : ByteArray) ([] : List S61) 0 (⟨#[]⟩ : ByteArray) ab 10 aA aB az aC av ax aw aD ay ap an ag aq ai ah ak al ao aj am af ar au ab else if aG = 11 then roadbookref07_Same.f k 11 0 0 (⟨#[]⟩ : ByteArray) 0 av ax aw 0 ay ap an ag 0 ai 0 0 0 0 (⟨#[]⟩ : ByteArray) (⟨#[]⟩ : ByteArray) ([] : List S61) 0 (⟨#[]⟩ : ByteArray) ab 11 aA aB az aC av ax aw aD ay ap an ag aq ai ah ak al ao aj am af ar au ab else if aG = 12 then roadbookref07_Same.f k 12 0 0 (⟨#[]⟩ : ByteArray) 0 av ax aw 0 (⟨#[]⟩ : ByteArray) 0 (⟨#[]⟩ : ByteArray) 0 0 0 0 0 0 0 (⟨#[]⟩ : ByteArray) (⟨#[]⟩ : ByteArray) ([] : List S61) 0 (⟨#[]⟩ : ByteArray) ab 12 aA aB az aC av ax aw aD ay ap an ag aq ai ah ak al ao aj am af ar au ab else if aG = 13 then roadbookref07_Same.f k 13 0 0 (⟨#[]⟩ : ByteArray) 0 av ax aw 0 (⟨#[]⟩ : ByteArray) 0 an ag 0 0 0 ak 0 0 (⟨#[]⟩ : ByteArray) (⟨#[]⟩ : ByteArray) ([] : List S61) 0 (⟨#[]⟩ : ByteArray) ab 13 aA aB az aC av ax aw aD ay ap an ag aq ai ah ak al ao aj am af ar au ab else if aG = 14 then roadbookref07_Same.f k 14 0 0 (⟨#[]⟩ : ByteArray) 0 0 (⟨#[]⟩ : ByteArray) 0 0 (⟨#[]⟩ : ByteArray) 0 (⟨#[]⟩ : ByteArray) 0 0 0 0 0 0 0 (⟨#[]⟩ : ByteArray) (⟨#[]⟩ : ByteArray) ([] : List S61) ar au ([] : List S63) 14 aA aB az aC av ax aw aD ay ap an ag aq ai ah ak al ao aj am af ar au ab else some false
theorem roadbookref07_Bare.mono : ∀ aG aA aB az aC av ax aw aD ay ap an ag aq ai ah ak al ao aj am af ar au ab k, LeO (roadbookref07_Bare.f k aG aA aB az aC av ax aw aD ay ap an ag aq ai ah ak al ao aj am af ar au ab) (roadbookref07_Bare.f (k + 1) aG aA aB az aC av ax aw aD ay ap an ag aq ai ah ak al ao aj am af ar au ab) := by
 intro aG aA aB az aC av ax aw aD ay ap an ag aq ai ah ak al ao aj am af ar au ab k
 unfold roadbookref07_Bare.f
 by_cases c1 : aG = 1
 ·rw [if_pos c1, if_pos c1]; exact roadbookref07_Same.mono _ _ _ _ _ _ _ _ _ _ _ _ _ _ _ _ _ _ _ _ _ _ _ _ _ _ _ _ _ _ _ _ _ _ _ _ _ _ _ _ _ _ _ _ _ _ _ _ _ _ _
 rw [if_neg c1, if_neg c1]; clear c1
 by_cases c2 : aG = 2
 ·rw [if_pos c2, if_pos c2]; exact roadbookref07_Same.mono _ _ _ _ _ _ _ _ _ _ _ _ _ _ _ _ _ _ _ _ _ _ _ _ _ _ _ _ _ _ _ _ _ _ _ _ _ _ _ _ _ _ _ _ _ _ _ _ _ _ _
 rw [if_neg c2, if_neg c2]; clear c2
 by_cases c3 : aG = 3
 ·rw [if_pos c3, if_pos c3]; exact roadbookref07_Same.mono _ _ _ _ _ _ _ _ _ _ _ _ _ _ _ _ _ _ _ _ _ _ _ _ _ _ _ _ _ _ _ _ _ _ _ _ _ _ _ _ _ _ _ _ _ _ _ _ _ _ _
 rw [if_neg c3, if_neg c3]; clear c3
 by_cases c4 : aG = 4
 ·rw [if_pos c4, if_pos c4]; exact roadbookref07_Same.mono _ _ _ _ _ _ _ _ _ _ _ _ _ _ _ _ _ _ _ _ _ _ _ _ _ _ _ _ _ _ _ _ _ _ _ _ _ _ _ _ _ _ _ _ _ _ _ _ _ _ _
 rw [if_neg c4, if_neg c4]; clear c4
 by_cases c5 : aG = 5
 ·rw [if_pos c5, if_pos c5]; exact roadbookref07_Same.mono _ _ _ _ _ _ _ _ _ _ _ _ _ _ _ _ _ _ _ _ _ _ _ _ _ _ _ _ _ _ _ _ _ _ _ _ _ _ _ _ _ _ _ _ _ _ _ _ _ _ _
 rw [if_neg c5, if_neg c5]; clear c5
 by_cases c6 : aG = 6
 ·rw [if_pos c6, if_pos c6]; exact roadbookref07_Same.mono _ _ _ _ _ _ _ _ _ _ _ _ _ _ _ _ _ _ _ _ _ _ _ _ _ _ _ _ _ _ _ _ _ _ _ _ _ _ _ _ _ _ _ _ _ _ _ _ _ _ _
 rw [if_neg c6, if_neg c6]; clear c6
 by_cases c7 : aG = 7
 ·rw [if_pos c7, if_pos c7]; exact roadbookref07_Same.mono _ _ _ _ _ _ _ _ _ _ _ _ _ _ _ _ _ _ _ _ _ _ _ _ _ _ _ _ _ _ _ _ _ _ _ _ _ _ _ _ _ _ _ _ _ _ _ _ _ _ _
 rw [if_neg c7, if_neg c7]; clear c7
 by_cases c8 : aG = 8
 ·rw [if_pos c8, if_pos c8]; exact roadbookref07_Same.mono _ _ _ _ _ _ _ _ _ _ _ _ _ _ _ _ _ _ _ _ _ _ _ _ _ _ _ _ _ _ _ _ _ _ _ _ _ _ _ _ _ _ _ _ _ _ _ _ _ _ _
 rw [if_neg c8, if_neg c8]; clear c8
 by_cases c9 : aG = 9
 ·rw [if_pos c9, if_pos c9]; exact roadbookref07_Same.mono _ _ _ _ _ _ _ _ _ _ _ _ _ _ _ _ _ _ _ _ _ _ _ _ _ _ _ _ _ _ _ _ _ _ _ _ _ _ _ _ _ _ _ _ _ _ _ _ _ _ _
 rw [if_neg c9, if_neg c9]; clear c9
 by_cases dx : aG = 10
 ·rw [if_pos dx, if_pos dx]; exact roadbookref07_Same.mono _ _ _ _ _ _ _ _ _ _ _ _ _ _ _ _ _ _ _ _ _ _ _ _ _ _ _ _ _ _ _ _ _ _ _ _ _ _ _ _ _ _ _ _ _ _ _ _ _ _ _
 rw [if_neg dx, if_neg dx]; clear dx
 by_cases fq : aG = 11
 ·rw [if_pos fq, if_pos fq]; exact roadbookref07_Same.mono _ _ _ _ _ _ _ _ _ _ _ _ _ _ _ _ _ _ _ _ _ _ _ _ _ _ _ _ _ _ _ _ _ _ _ _ _ _ _ _ _ _ _ _ _ _ _ _ _ _ _
 rw [if_neg fq, if_neg fq]; clear fq
 by_cases eU : aG = 12
 ·rw [if_pos eU, if_pos eU]; exact roadbookref07_Same.mono _ _ _ _ _ _ _ _ _ _ _ _ _ _ _ _ _ _ _ _ _ _ _ _ _ _ _ _ _ _ _ _ _ _ _ _ _ _ _ _ _ _ _ _ _ _ _ _ _ _ _
 rw [if_neg eU, if_neg eU]; clear eU
 by_cases eV : aG = 13
 ·rw [if_pos eV, if_pos eV]; exact roadbookref07_Same.mono _ _ _ _ _ _ _ _ _ _ _ _ _ _ _ _ _ _ _ _ _ _ _ _ _ _ _ _ _ _ _ _ _ _ _ _ _ _ _ _ _ _ _ _ _ _ _ _ _ _ _
 rw [if_neg eV, if_neg eV]; clear eV
 by_cases fr : aG = 14
 ·rw [if_pos fr, if_pos fr]; exact roadbookref07_Same.mono _ _ _ _ _ _ _ _ _ _ _ _ _ _ _ _ _ _ _ _ _ _ _ _ _ _ _ _ _ _ _ _ _ _ _ _ _ _ _ _ _ _ _ _ _ _ _ _ _ _ _
 rw [if_neg fr, if_neg fr]; clear fr
 exact fun _ h => h
theorem roadbookref07_Bare.f1 (k : Nat) (aA : Int) (aB : Int) (az : ByteArray) (aC : Int) (av : Int) (ax : ByteArray) (aw : Int) (aD : Int) (ay : ByteArray) (ap : Int) (an : ByteArray) (ag : Int) (aq : Int) (ai : Int) (ah : Int) (ak : Int) (al : Int) (ao : Int) (aj : ByteArray) (am : ByteArray) (af : List S61) (ar : Int) (au : ByteArray) (ab : List S63) : roadbookref07_Bare.f k 1 aA aB az aC av ax aw aD ay ap an ag aq ai ah ak al ao aj am af ar au ab = roadbookref07_Same.f k 1 aA aB az aC 0 ax aw aD ay ap (⟨#[]⟩ : ByteArray) 0 0 0 0 0 0 0 (⟨#[]⟩ : ByteArray) (⟨#[]⟩ : ByteArray) ([] : List S61) 0 (⟨#[]⟩ : ByteArray) ([] : List S63) 1 aA aB az aC av ax aw aD ay ap an ag aq ai ah ak al ao aj am af ar au ab := by
 unfold roadbookref07_Bare.f
 simp (config := {decide := true}) only [if_true, if_false]
theorem roadbookref07_Bare.f2 (k : Nat) (aA : Int) (aB : Int) (az : ByteArray) (aC : Int) (av : Int) (ax : ByteArray) (aw : Int) (aD : Int) (ay : ByteArray) (ap : Int) (an : ByteArray) (ag : Int) (aq : Int) (ai : Int) (ah : Int) (ak : Int) (al : Int) (ao : Int) (aj : ByteArray) (am : ByteArray) (af : List S61) (ar : Int) (au : ByteArray) (ab : List S63) : roadbookref07_Bare.f k 2 aA aB az aC av ax aw aD ay ap an ag aq ai ah ak al ao aj am af ar au ab = roadbookref07_Same.f k 2 aA 0 (⟨#[]⟩ : ByteArray) 0 0 ax aw aD ay ap (⟨#[]⟩ : ByteArray) 0 0 0 0 0 0 0 (⟨#[]⟩ : ByteArray) (⟨#[]⟩ : ByteArray) ([] : List S61) 0 (⟨#[]⟩ : ByteArray) ([] : List S63) 2 aA aB az aC av ax aw aD ay ap an ag aq ai ah ak al ao aj am af ar au ab := by
 unfold roadbookref07_Bare.f
 simp (config := {decide := true}) only [if_true, if_false]
theorem roadbookref07_Bare.f3 (k : Nat) (aA : Int) (aB : Int) (az : ByteArray) (aC : Int) (av : Int) (ax : ByteArray) (aw : Int) (aD : Int) (ay : ByteArray) (ap : Int) (an : ByteArray) (ag : Int) (aq : Int) (ai : Int) (ah : Int) (ak : Int) (al : Int) (ao : Int) (aj : ByteArray) (am : ByteArray) (af : List S61) (ar : Int) (au : ByteArray) (ab : List S63) : roadbookref07_Bare.f k 3 aA aB az aC av ax aw aD ay ap an ag aq ai ah ak al ao aj am af ar au ab = roadbookref07_Same.f k 3 0 0 (⟨#[]⟩ : ByteArray) 0 0 (⟨#[]⟩ : ByteArray) 0 0 (⟨#[]⟩ : ByteArray) 0 (⟨#[]⟩ : ByteArray) ag aq 0 ah ak al 0 aj am ([] : List S61) 0 (⟨#[]⟩ : ByteArray) ab 3 aA aB az aC av ax aw aD ay ap an ag aq ai ah ak al ao aj am af ar au ab := by
 unfold roadbookref07_Bare.f
 simp (config := {decide := true}) only [if_true, if_false]
theorem roadbookref07_Bare.f4 (k : Nat) (aA : Int) (aB : Int) (az : ByteArray) (aC : Int) (av : Int) (ax : ByteArray) (aw : Int) (aD : Int) (ay : ByteArray) (ap : Int) (an : ByteArray) (ag : Int) (aq : Int) (ai : Int) (ah : Int) (ak : Int) (al : Int) (ao : Int) (aj : ByteArray) (am : ByteArray) (af : List S61) (ar : Int) (au : ByteArray) (ab : List S63) : roadbookref07_Bare.f k 4 aA aB az aC av ax aw aD ay ap an ag aq ai ah ak al ao aj am af ar au ab = roadbookref07_Same.f k 4 0 0 (⟨#[]⟩ : ByteArray) 0 0 (⟨#[]⟩ : ByteArray) aw 0 (⟨#[]⟩ : ByteArray) 0 (⟨#[]⟩ : ByteArray) ag 0 ai ah ak 0 0 aj am ([] : List S61) 0 (⟨#[]⟩ : ByteArray) ab 4 aA aB az aC av ax aw aD ay ap an ag aq ai ah ak al ao aj am af ar au ab := by
 unfold roadbookref07_Bare.f
 simp (config := {decide := true}) only [if_true, if_false]
theorem roadbookref07_Bare.f5 (k : Nat) (aA : Int) (aB : Int) (az : ByteArray) (aC : Int) (av : Int) (ax : ByteArray) (aw : Int) (aD : Int) (ay : ByteArray) (ap : Int) (an : ByteArray) (ag : Int) (aq : Int) (ai : Int) (ah : Int) (ak : Int) (al : Int) (ao : Int) (aj : ByteArray) (am : ByteArray) (af : List S61) (ar : Int) (au : ByteArray) (ab : List S63) : roadbookref07_Bare.f k 5 aA aB az aC av ax aw aD ay ap an ag aq ai ah ak al ao aj am af ar au ab = roadbookref07_Same.f k 5 0 0 (⟨#[]⟩ : ByteArray) 0 0 (⟨#[]⟩ : ByteArray) 0 0 (⟨#[]⟩ : ByteArray) 0 (⟨#[]⟩ : ByteArray) 0 0 0 ah 0 0 0 (⟨#[]⟩ : ByteArray) (⟨#[]⟩ : ByteArray) af 0 (⟨#[]⟩ : ByteArray) ab 5 aA aB az aC av ax aw aD ay ap an ag aq ai ah ak al ao aj am af ar au ab := by
 unfold roadbookref07_Bare.f
 simp (config := {decide := true}) only [if_true, if_false]
theorem roadbookref07_Bare.f6 (k : Nat) (aA : Int) (aB : Int) (az : ByteArray) (aC : Int) (av : Int) (ax : ByteArray) (aw : Int) (aD : Int) (ay : ByteArray) (ap : Int) (an : ByteArray) (ag : Int) (aq : Int) (ai : Int) (ah : Int) (ak : Int) (al : Int) (ao : Int) (aj : ByteArray) (am : ByteArray) (af : List S61) (ar : Int) (au : ByteArray) (ab : List S63) : roadbookref07_Bare.f k 6 aA aB az aC av ax aw aD ay ap an ag aq ai ah ak al ao aj am af ar au ab = roadbookref07_Same.f k 6 0 0 (⟨#[]⟩ : ByteArray) 0 0 (⟨#[]⟩ : ByteArray) 0 0 (⟨#[]⟩ : ByteArray) 0 (⟨#[]⟩ : ByteArray) 0 0 0 0 0 0 0 (⟨#[]⟩ : ByteArray) (⟨#[]⟩ : ByteArray) ([] : List S61) 0 (⟨#[]⟩ : ByteArray) ab 6 aA aB az aC av ax aw aD ay ap an ag aq ai ah ak al ao aj am af ar au ab := by
 unfold roadbookref07_Bare.f
 simp (config := {decide := true}) only [if_true, if_false]
theorem roadbookref07_Bare.f7 (k : Nat) (aA : Int) (aB : Int) (az : ByteArray) (aC : Int) (av : Int) (ax : ByteArray) (aw : Int) (aD : Int) (ay : ByteArray) (ap : Int) (an : ByteArray) (ag : Int) (aq : Int) (ai : Int) (ah : Int) (ak : Int) (al : Int) (ao : Int) (aj : ByteArray) (am : ByteArray) (af : List S61) (ar : Int) (au : ByteArray) (ab : List S63) : roadbookref07_Bare.f k 7 aA aB az aC av ax aw aD ay ap an ag aq ai ah ak al ao aj am af ar au ab = roadbookref07_Same.f k 7 0 0 (⟨#[]⟩ : ByteArray) 0 0 (⟨#[]⟩ : ByteArray) 0 0 (⟨#[]⟩ : ByteArray) 0 (⟨#[]⟩ : ByteArray) 0 0 ai 0 0 al 0 (⟨#[]⟩ : ByteArray) (⟨#[]⟩ : ByteArray) ([] : List S61) 0 (⟨#[]⟩ : ByteArray) ab 7 aA aB az aC av ax aw aD ay ap an ag aq ai ah ak al ao aj am af ar au ab := by
 unfold roadbookref07_Bare.f
 simp (config := {decide := true}) only [if_true, if_false]
theorem roadbookref07_Bare.f8 (k : Nat) (aA : Int) (aB : Int) (az : ByteArray) (aC : Int) (av : Int) (ax : ByteArray) (aw : Int) (aD : Int) (ay : ByteArray) (ap : Int) (an : ByteArray) (ag : Int) (aq : Int) (ai : Int) (ah : Int) (ak : Int) (al : Int) (ao : Int) (aj : ByteArray) (am : ByteArray) (af : List S61) (ar : Int) (au : ByteArray) (ab : List S63) : roadbookref07_Bare.f k 8 aA aB az aC av ax aw aD ay ap an ag aq ai ah ak al ao aj am af ar au ab = roadbookref07_Same.f k 8 0 0 (⟨#[]⟩ : ByteArray) 0 0 (⟨#[]⟩ : ByteArray) 0 0 (⟨#[]⟩ : ByteArray) 0 (⟨#[]⟩ : ByteArray) 0 0 0 0 0 al 0 (⟨#[]⟩ : ByteArray) (⟨#[]⟩ : ByteArray) ([] : List S61) 0 (⟨#[]⟩ : ByteArray) ab 8 aA aB az aC av ax aw aD ay ap an ag aq ai ah ak al ao aj am af ar au ab := by
 unfold roadbookref07_Bare.f
 simp (config := {decide := true}) only [if_true, if_false]
theorem roadbookref07_Bare.f9 (k : Nat) (aA : Int) (aB : Int) (az : ByteArray) (aC : Int) (av : Int) (ax : ByteArray) (aw : Int) (aD : Int) (ay : ByteArray) (ap : Int) (an : ByteArray) (ag : Int) (aq : Int) (ai : Int) (ah : Int) (ak : Int) (al : Int) (ao : Int) (aj : ByteArray) (am : ByteArray) (af : List S61) (ar : Int) (au : ByteArray) (ab : List S63) : roadbookref07_Bare.f k 9 aA aB az aC av ax aw aD ay ap an ag aq ai ah ak al ao aj am af ar au ab = roadbookref07_Same.f k 9 0 0 (⟨#[]⟩ : ByteArray) 0 0 (⟨#[]⟩ : ByteArray) 0 0 (⟨#[]⟩ : ByteArray) 0 (⟨#[]⟩ : ByteArray) ag 0 ai ah 0 0 0 (⟨#[]⟩ : ByteArray) (⟨#[]⟩ : ByteArray) ([] : List S61) 0 (⟨#[]⟩ : ByteArray) ab 9 aA aB az aC av ax aw aD ay ap an ag aq ai ah ak al ao aj am af ar au ab := by
 unfold roadbookref07_Bare.f
 simp (config := {decide := true}) only [if_true, if_false]
theorem roadbookref07_Bare.f10 (k : Nat) (aA : Int) (aB : Int) (az : ByteArray) (aC : Int) (av : Int) (ax : ByteArray) (aw : Int) (aD : Int) (ay : ByteArray) (ap : Int) (an : ByteArray) (ag : Int) (aq : Int) (ai : Int) (ah : Int) (ak : Int) (al : Int) (ao : Int) (aj : ByteArray) (am : ByteArray) (af : List S61) (ar : Int) (au : ByteArray) (ab : List S63) : roadbookref07_Bare.f k 10 aA aB az aC av ax aw aD ay ap an ag aq ai ah ak al ao aj am af ar au ab = roadbookref07_Same.f k 10 0 0 (⟨#[]⟩ : ByteArray) 0 av (⟨#[]⟩ : ByteArray) 0 0 (⟨#[]⟩ : ByteArray) 0 (⟨#[]⟩ : ByteArray) 0 0 ai 0 0 0 ao aj (⟨#[]⟩ : ByteArray) ([] : List S61) 0 (⟨#[]⟩ : ByteArray) ab 10 aA aB az aC av ax aw aD ay ap an ag aq ai ah ak al ao aj am af ar au ab := by
 unfold roadbookref07_Bare.f
 simp (config := {decide := true}) only [if_true, if_false]
theorem roadbookref07_Bare.f11 (k : Nat) (aA : Int) (aB : Int) (az : ByteArray) (aC : Int) (av : Int) (ax : ByteArray) (aw : Int) (aD : Int) (ay : ByteArray) (ap : Int) (an : ByteArray) (ag : Int) (aq : Int) (ai : Int) (ah : Int) (ak : Int) (al : Int) (ao : Int) (aj : ByteArray) (am : ByteArray) (af : List S61) (ar : Int) (au : ByteArray) (ab : List S63) : roadbookref07_Bare.f k 11 aA aB az aC av ax aw aD ay ap an ag aq ai ah ak al ao aj am af ar au ab = roadbookref07_Same.f k 11 0 0 (⟨#[]⟩ : ByteArray) 0 av ax aw 0 ay ap an ag 0 ai 0 0 0 0 (⟨#[]⟩ : ByteArray) (⟨#[]⟩ : ByteArray) ([] : List S61) 0 (⟨#[]⟩ : ByteArray) ab 11 aA aB az aC av ax aw aD ay ap an ag aq ai ah ak al ao aj am af ar au ab := by
 unfold roadbookref07_Bare.f
 simp (config := {decide := true}) only [if_true, if_false]
theorem roadbookref07_Bare.f12 (k : Nat) (aA : Int) (aB : Int) (az : ByteArray) (aC : Int) (av : Int) (ax : ByteArray) (aw : Int) (aD : Int) (ay : ByteArray) (ap : Int) (an : ByteArray) (ag : Int) (aq : Int) (ai : Int) (ah : Int) (ak : Int) (al : Int) (ao : Int) (aj : ByteArray) (am : ByteArray) (af : List S61) (ar : Int) (au : ByteArray) (ab : List S63) : roadbookref07_Bare.f k 12 aA aB az aC av ax aw aD ay ap an ag aq ai ah ak al ao aj am af ar au ab = roadbookref07_Same.f k 12 0 0 (⟨#[]⟩ : ByteArray) 0 av ax aw 0 (⟨#[]⟩ : ByteArray) 0 (⟨#[]⟩ : ByteArray) 0 0 0 0 0 0 0 (⟨#[]⟩ : ByteArray) (⟨#[]⟩ : ByteArray) ([] : List S61) 0 (⟨#[]⟩ : ByteArray) ab 12 aA aB az aC av ax aw aD ay ap an ag aq ai ah ak al ao aj am af ar au ab := by
 unfold roadbookref07_Bare.f
 simp (config := {decide := true}) only [if_true, if_false]
theorem roadbookref07_Bare.f13 (k : Nat) (aA : Int) (aB : Int) (az : ByteArray) (aC : Int) (av : Int) (ax : ByteArray) (aw : Int) (aD : Int) (ay : ByteArray) (ap : Int) (an : ByteArray) (ag : Int) (aq : Int) (ai : Int) (ah : Int) (ak : Int) (al : Int) (ao : Int) (aj : ByteArray) (am : ByteArray) (af : List S61) (ar : Int) (au : ByteArray) (ab : List S63) : roadbookref07_Bare.f k 13 aA aB az aC av ax aw aD ay ap an ag aq ai ah ak al ao aj am af ar au ab = roadbookref07_Same.f k 13 0 0 (⟨#[]⟩ : ByteArray) 0 av ax aw 0 (⟨#[]⟩ : ByteArray) 0 an ag 0 0 0 ak 0 0 (⟨#[]⟩ : ByteArray) (⟨#[]⟩ : ByteArray) ([] : List S61) 0 (⟨#[]⟩ : ByteArray) ab 13 aA aB az aC av ax aw aD ay ap an ag aq ai ah ak al ao aj am af ar au ab := by
 unfold roadbookref07_Bare.f
 simp (config := {decide := true}) only [if_true, if_false]
theorem roadbookref07_Bare.f14 (k : Nat) (aA : Int) (aB : Int) (az : ByteArray) (aC : Int) (av : Int) (ax : ByteArray) (aw : Int) (aD : Int) (ay : ByteArray) (ap : Int) (an : ByteArray) (ag : Int) (aq : Int) (ai : Int) (ah : Int) (ak : Int) (al : Int) (ao : Int) (aj : ByteArray) (am : ByteArray) (af : List S61) (ar : Int) (au : ByteArray) (ab : List S63) : roadbookref07_Bare.f k 14 aA aB az aC av ax aw aD ay ap an ag aq ai ah ak al ao aj am af ar au ab = roadbookref07_Same.f k 14 0 0 (⟨#[]⟩ : ByteArray) 0 0 (⟨#[]⟩ : ByteArray) 0 0 (⟨#[]⟩ : ByteArray) 0 (⟨#[]⟩ : ByteArray) 0 0 0 0 0 0 0 (⟨#[]⟩ : ByteArray) (⟨#[]⟩ : ByteArray) ([] : List S61) ar au ([] : List S63) 14 aA aB az aC av ax aw aD ay ap an ag aq ai ah ak al ao aj am af ar au ab := by
 unfold roadbookref07_Bare.f
 simp (config := {decide := true}) only [if_true, if_false]
theorem roadbookref07_Bare.fno (k : Nat) (aG : Int) (aA : Int) (aB : Int) (az : ByteArray) (aC : Int) (av : Int) (ax : ByteArray) (aw : Int) (aD : Int) (ay : ByteArray) (ap : Int) (an : ByteArray) (ag : Int) (aq : Int) (ai : Int) (ah : Int) (ak : Int) (al : Int) (ao : Int) (aj : ByteArray) (am : ByteArray) (af : List S61) (ar : Int) (au : ByteArray) (ab : List S63) (h : ¬ (1 ≤ aG ∧ aG ≤ 14)) : roadbookref07_Bare.f k aG aA aB az aC av ax aw aD ay ap an ag aq ai ah ak al ao aj am af ar au ab = some false := by
 unfold roadbookref07_Bare.f
 rw [if_neg Z27]
 rw [if_neg Z27]
 rw [if_neg Z27]
 rw [if_neg Z27]
 rw [if_neg Z27]
 rw [if_neg Z27]
 rw [if_neg Z27]
 rw [if_neg Z27]
 rw [if_neg Z27]
 rw [if_neg Z27]
 rw [if_neg Z27]
 rw [if_neg Z27]
 rw [if_neg Z27]
 rw [if_neg Z27]
set_option maxRecDepth 100000 in
theorem roadbookref07_Bare.bd8 (v0 : Int) (cZ : Option Addr) (n24 C24 : Nat) : Try.prog.built 58 [(0, .int .i64 v0), (24, .slice cZ n24 C24)] = some #[.int .i64 v0, .int .i64 0, .int .i64 0, .string ⟨#[]⟩, .int .i64 0, .int .i64 0, .string ⟨#[]⟩, .int .i64 0, .int .i64 0, .string ⟨#[]⟩, .int .i64 0, .string ⟨#[]⟩, .int .i64 0, .int .i64 0, .int .i64 0, .int .i64 0, .int .i64 0, .int .i64 0, .int .i64 0, .string ⟨#[]⟩, .string ⟨#[]⟩, .slice none 0 0, .int .i64 0, .string ⟨#[]⟩, .slice cZ n24 C24] := by kernel_rfl
set_option maxRecDepth 100000 in
theorem roadbookref07_Bare.bd33 (v0 : Int) (v1 : Int) (v2 : Int) (v3 : ByteArray) (v4 : Int) (v8 : Int) (v6 : ByteArray) (v7 : Int) (v9 : ByteArray) (fm : Int) : Try.prog.built 58 [(0, .int .i64 v0), (1, .int .i64 v1), (2, .int .i64 v2), (3, .string v3), (4, .int .i64 v4), (8, .int .i64 v8), (6, .string v6), (7, .int .i64 v7), (9, .string v9), (10, .int .i64 fm)] = some #[.int .i64 v0, .int .i64 v1, .int .i64 v2, .string v3, .int .i64 v4, .int .i64 0, .string v6, .int .i64 v7, .int .i64 v8, .string v9, .int .i64 fm, .string ⟨#[]⟩, .int .i64 0, .int .i64 0, .int .i64 0, .int .i64 0, .int .i64 0, .int .i64 0, .int .i64 0, .string ⟨#[]⟩, .string ⟨#[]⟩, .slice none 0 0, .int .i64 0, .string ⟨#[]⟩, .slice none 0 0] := by kernel_rfl
set_option maxRecDepth 100000 in
theorem roadbookref07_Bare.bd50 (v0 : Int) (v1 : Int) (v8 : Int) (v6 : ByteArray) (v7 : Int) (v9 : ByteArray) (fm : Int) : Try.prog.built 58 [(0, .int .i64 v0), (1, .int .i64 v1), (8, .int .i64 v8), (6, .string v6), (7, .int .i64 v7), (9, .string v9), (10, .int .i64 fm)] = some #[.int .i64 v0, .int .i64 v1, .int .i64 0, .string ⟨#[]⟩, .int .i64 0, .int .i64 0, .string v6, .int .i64 v7, .int .i64 v8, .string v9, .int .i64 fm, .string ⟨#[]⟩, .int .i64 0, .int .i64 0, .int .i64 0, .int .i64 0, .int .i64 0, .int .i64 0, .int .i64 0, .string ⟨#[]⟩, .string ⟨#[]⟩, .slice none 0 0, .int .i64 0, .string ⟨#[]⟩, .slice none 0 0] := by kernel_rfl
set_option maxRecDepth 100000 in
theorem roadbookref07_Bare.bd210 (v0 : Int) (fL : Int) (hV : ByteArray) : Try.prog.built 58 [(0, .int .i64 v0), (22, .int .i64 fL), (23, .string hV)] = some #[.int .i64 v0, .int .i64 0, .int .i64 0, .string ⟨#[]⟩, .int .i64 0, .int .i64 0, .string ⟨#[]⟩, .int .i64 0, .int .i64 0, .string ⟨#[]⟩, .int .i64 0, .string ⟨#[]⟩, .int .i64 0, .int .i64 0, .int .i64 0, .int .i64 0, .int .i64 0, .int .i64 0, .int .i64 0, .string ⟨#[]⟩, .string ⟨#[]⟩, .slice none 0 0, .int .i64 fL, .string hV, .slice none 0 0] := by kernel_rfl
set_option maxHeartbeats 8000000 in
set_option maxRecDepth 100000 in
theorem roadbookref07_Bare.calls (k : Nat) (aG : Int) (aA : Int) (aB : Int) (az : ByteArray) (aC : Int) (av : Int) (ax : ByteArray) (aw : Int) (aD : Int) (ay : ByteArray) (ap : Int) (an : ByteArray) (ag : Int) (aq : Int) (ai : Int) (ah : Int) (ak : Int) (al : Int) (ao : Int) (aj : ByteArray) (am : ByteArray) (bf : Option Addr) (bg : Nat) (af : List S61) (ar : Int) (au : ByteArray) (aI : Option Addr) (aJ : Nat) (ab : List S63) (r : Bool) (w : World) (cl : Kd.C k61 w bf af.length af) (cm : af.length ≤ bg) (cn : Kd.C k63 w aI ab.length ab) (co : ab.length ≤ aJ) (h : roadbookref07_Bare.f k aG aA aB az aC av ax aw aD ay ap an ag aq ai ah ak al ao aj am af ar au ab = some r) :
  Calls Try.prog 52 #[.agg #[.int .i64 aG, .int .i64 aA, .int .i64 aB, .string az, .int .i64 aC, .int .i64 av, .string ax, .int .i64 aw, .int .i64 aD, .string ay, .int .i64 ap, .string an, .int .i64 ag, .int .i64 aq, .int .i64 ai, .int .i64 ah, .int .i64 ak, .int .i64 al, .int .i64 ao, .string aj, .string am, .slice bf af.length bg, .int .i64 ar, .string au, .slice aI ab.length aJ]] w fun e w' => e = .returned (.bool r) ∧ Below w.heap.size w w' := by
 have iu := Try.underlying58
 have da := Aside0.mk cl
 have cF := Aside0.mk cm
 clear cl cm
 have bW := Aside0.mk cn
 have bU := Aside0.mk co
 clear cn co
 have HB := Aside0.mk (Below.refl w.heap.size w)
 have cB := Aside0.mk h
 clear h
 go_enter Try.func52, Try.ntmps52
 go_upto_block 0 with (first | ((with_reducible refine gate_dst (N := 1) rfl ?_); refine box_event ?hg (N := 1) ?hd (cs := #[.int .i64 aG, .int .i64 aA, .int .i64 aB, .string az, .int .i64 aC, .int .i64 av, .string ax, .int .i64 aw, .int .i64 aD, .string ay, .int .i64 ap, .string an, .int .i64 ag, .int .i64 aq, .int .i64 ai, .int .i64 ah, .int .i64 ak, .int .i64 al, .int .i64 ao, .string aj, .string am, .slice bf af.length bg, .int .i64 ar, .string au, .slice aI ab.length aJ]) (t := 58) ?hr ?_; (case hd => rfl); (case hg => rfl); (case hr => first | (go_simp; done) | (go_simp; rfl)); intro gm hg w4 hbox hb; have aH := Aside0.mk (below_step Z0 hb); have aK := Aside0.mk hbox; have GEm := Aside0.mk ((by rw [hg]; exact (below_size Z0) : w.heap.size ≤ gm)); replace HB := aH; have BKm := aK; clear aH aK; clear hb hbox hg; have hcm0 := (blk_cell BKm.out 0).trans rfl; have hcm24 := (blk_cell BKm.out 24).trans rfl) | ((with_reducible refine gate_dst (N := 8) rfl ?_); refine Pre.build_event 8 58 [(0, .tmp 5), (24, .tmp 7)] rfl rfl rfl (roadbookref07_Bare.bd8 _ _ _ _) ?_) | ((with_reducible refine gate_dst (N := 3) rfl ?_); refine box_event ?hg (N := 3) ?hd (cs := #[.int .i64 0, .int .i64 0, .int .i64 0, .string ⟨#[]⟩, .int .i64 0, .int .i64 0, .string ⟨#[]⟩, .int .i64 0, .int .i64 0, .string ⟨#[]⟩, .int .i64 0, .string ⟨#[]⟩, .int .i64 0, .int .i64 0, .int .i64 0, .int .i64 0, .int .i64 0, .int .i64 0, .int .i64 0, .string ⟨#[]⟩, .string ⟨#[]⟩, .slice none 0 0, .int .i64 0, .string ⟨#[]⟩, .slice none 0 0]) (t := 58) ?hr ?_; (case hd => rfl); (case hg => rfl); (case hr => first | (go_simp; done) | (go_simp; rfl)); intro gx hg w7 hbox hb; have aH := Aside0.mk (blk_below (g := gm) Z17 hb); have aK := Aside0.mk (below_step Z11 hb); have aL := Aside0.mk hbox; have GEx := Aside0.mk ((by rw [hg]; exact (below_size Z11) : w.heap.size ≤ gx)); have NBmx := Aside0.mk ((by rw [hg]; exact Nat.ne_of_lt (blk_lt (g := gm) Z17) : gm ≠ gx)); clear BKm; clear HB; clear hcm0 hcm24; have BKm := aH; have HB := aK; have BKx := aL; clear aH aK aL; clear hb hbox hg; have hnb := NBmx.out; have hnc := NBmx.out.symm) | ((with_reducible refine Pre.gate_store 58 rfl ?_); refine Pre.store_abs rfl rfl rfl Z13 Z13 Z25 Z5 Z13 Z13 ?_; intro wS hbS sS; have aH := Aside0.mk (sS.blk Z17 NBmx.out); have aK := Aside0.mk (sS.below Z11 GEx.out); have aL := Aside0.mk hbS; clear BKm HB BKx hbS sS; have BKm := aH; have HB := aK; have BKx := aL; clear aH aK aL; have hcm0 := (blk_cell BKm.out 0).trans rfl))
 (try simp only [Act.put, List.setIfInBounds_toArray, List.set_cons_zero, List.set_cons_succ])
 go_cut [] (fun wc => ∃ (p0 : Int) (p1 : Int) (p2 : Int) (p3 : ByteArray) (p4 : Int) (p5 : Int) (p6 : ByteArray) (p7 : Int) (p8 : Int) (p9 : ByteArray) (p10 : Int) (p11 : ByteArray) (p12 : Int) (p13 : Int) (p14 : Int) (p15 : Int) (p16 : Int) (p17 : Int) (p18 : Int) (p19 : ByteArray) (p20 : ByteArray) (p21 : List S61) (P21 : Option Addr) (C21 : Nat) (p22 : Int) (p23 : ByteArray) (p24 : List S63) (P24 : Option Addr) (C24 : Nat), Aside0 (roadbookref07_Same.f k p0 p1 p2 p3 p4 p5 p6 p7 p8 p9 p10 p11 p12 p13 p14 p15 p16 p17 p18 p19 p20 p21 p22 p23 p24 aG aA aB az aC av ax aw aD ay ap an ag aq ai ah ak al ao aj am af ar au ab = some r) ∧ Aside0 (wc.heap[gm]? = some (.cells #[.int .i64 aG, .int .i64 aA, .int .i64 aB, .string az, .int .i64 aC, .int .i64 av, .string ax, .int .i64 aw, .int .i64 aD, .string ay, .int .i64 ap, .string an, .int .i64 ag, .int .i64 aq, .int .i64 ai, .int .i64 ah, .int .i64 ak, .int .i64 al, .int .i64 ao, .string aj, .string am, .slice bf af.length bg, .int .i64 ar, .string au, .slice aI ab.length aJ] 58 (0, 0))) ∧ Aside0 (wc.heap[gx]? = some (.cells #[.int .i64 p0, .int .i64 p1, .int .i64 p2, .string p3, .int .i64 p4, .int .i64 p5, .string p6, .int .i64 p7, .int .i64 p8, .string p9, .int .i64 p10, .string p11, .int .i64 p12, .int .i64 p13, .int .i64 p14, .int .i64 p15, .int .i64 p16, .int .i64 p17, .int .i64 p18, .string p19, .string p20, .slice P21 p21.length C21, .int .i64 p22, .string p23, .slice P24 p24.length C24] 58 (0, 0))) ∧ Aside0 (Below w.heap.size w wc) ∧ Aside0 (Kd.C k61 wc P21 p21.length p21) ∧ Aside0 (p21.length ≤ C21) ∧ Aside0 (Kd.C k63 wc P24 p24.length p24) ∧ Aside0 (p24.length ≤ C24))
 case first =>
  by_cases c1 : aG = 1
  ·subst c1
   have HRES : Aside0 (roadbookref07_Same.f k 1 aA aB az aC 0 ax aw aD ay ap (⟨#[]⟩ : ByteArray) 0 0 0 0 0 0 0 (⟨#[]⟩ : ByteArray) (⟨#[]⟩ : ByteArray) ([] : List S61) 0 (⟨#[]⟩ : ByteArray) ([] : List S63) 1 aA aB az aC av ax aw aD ay ap an ag aq ai ah ak al ao aj am af ar au ab = some r) := ⟨(roadbookref07_Bare.f1 k aA aB az aC av ax aw aD ay ap an ag aq ai ah ak al ao aj am af ar au ab).symm.trans cB.out⟩
   clear cB
   have hcm1 := (blk_cell BKm.out 1).trans rfl
   have hcm2 := (blk_cell BKm.out 2).trans rfl
   have hcm3 := (blk_cell BKm.out 3).trans rfl
   have hcm4 := (blk_cell BKm.out 4).trans rfl
   have hcm6 := (blk_cell BKm.out 6).trans rfl
   have hcm7 := (blk_cell BKm.out 7).trans rfl
   have hcm8 := (blk_cell BKm.out 8).trans rfl
   have hcm9 := (blk_cell BKm.out 9).trans rfl
   have hcm10 := (blk_cell BKm.out 10).trans rfl
   go_wp2_with (first | ((with_reducible refine gate_dst (N := 33) rfl ?_); refine Pre.build_event 33 58 [(0, .tmp 14), (1, .tmp 16), (2, .tmp 18), (3, .tmp 20), (4, .tmp 22), (8, .tmp 24), (6, .tmp 26), (7, .tmp 28), (9, .tmp 30), (10, .tmp 32)] rfl rfl rfl (roadbookref07_Bare.bd33 _ _ _ _ _ _ _ _ _ _) ?_) | ((with_reducible refine Pre.gate_store 58 rfl ?_); refine Pre.store_abs rfl rfl rfl Z13 Z13 Z25 Z5 Z13 Z13 ?_; intro wS hbS sS; have aH := Aside0.mk (sS.blk Z17 NBmx.out); have aK := Aside0.mk (sS.below Z11 GEx.out); have aL := Aside0.mk hbS; clear BKm HB BKx hbS sS; have BKm := aH; have HB := aK; have BKx := aL; clear aH aK aL))
   go_meet
   case rel => exact ⟨1, aA, aB, az, aC, 0, ax, aw, aD, ay, ap, (⟨#[]⟩ : ByteArray), 0, 0, 0, 0, 0, 0, 0, (⟨#[]⟩ : ByteArray), (⟨#[]⟩ : ByteArray), ([] : List S61), none, 0, 0, (⟨#[]⟩ : ByteArray), ([] : List S63), none, 0, HRES, ⟨BKm.out⟩, BKx, ⟨HB.out⟩, ⟨Kd.C_nil _ _⟩, ⟨Nat.le_refl 0⟩, ⟨Kd.C_nil _ _⟩, ⟨Nat.le_refl 0⟩⟩
  ·by_cases c2 : aG = 2
   ·subst c2
    have HRES : Aside0 (roadbookref07_Same.f k 2 aA 0 (⟨#[]⟩ : ByteArray) 0 0 ax aw aD ay ap (⟨#[]⟩ : ByteArray) 0 0 0 0 0 0 0 (⟨#[]⟩ : ByteArray) (⟨#[]⟩ : ByteArray) ([] : List S61) 0 (⟨#[]⟩ : ByteArray) ([] : List S63) 2 aA aB az aC av ax aw aD ay ap an ag aq ai ah ak al ao aj am af ar au ab = some r) := ⟨(roadbookref07_Bare.f2 k aA aB az aC av ax aw aD ay ap an ag aq ai ah ak al ao aj am af ar au ab).symm.trans cB.out⟩
    clear cB
    have hcm1 := (blk_cell BKm.out 1).trans rfl
    have hcm6 := (blk_cell BKm.out 6).trans rfl
    have hcm7 := (blk_cell BKm.out 7).trans rfl
    have hcm8 := (blk_cell BKm.out 8).trans rfl
    have hcm9 := (blk_cell BKm.out 9).trans rfl
    have hcm10 := (blk_cell BKm.out 10).trans rfl
    go_wp2_with (first | ((with_reducible refine gate_dst (N := 50) rfl ?_); refine Pre.build_event 50 58 [(0, .tmp 37), (1, .tmp 39), (8, .tmp 41), (6, .tmp 43), (7, .tmp 45), (9, .tmp 47), (10, .tmp 49)] rfl rfl rfl (roadbookref07_Bare.bd50 _ _ _ _ _ _ _) ?_) | ((with_reducible refine Pre.gate_store 58 rfl ?_); refine Pre.store_abs rfl rfl rfl Z13 Z13 Z25 Z5 Z13 Z13 ?_; intro wS hbS sS; have aH := Aside0.mk (sS.blk Z17 NBmx.out); have aK := Aside0.mk (sS.below Z11 GEx.out); have aL := Aside0.mk hbS; clear BKm HB BKx hbS sS; have BKm := aH; have HB := aK; have BKx := aL; clear aH aK aL))
    go_meet
    case rel => exact ⟨2, aA, 0, (⟨#[]⟩ : ByteArray), 0, 0, ax, aw, aD, ay, ap, (⟨#[]⟩ : ByteArray), 0, 0, 0, 0, 0, 0, 0, (⟨#[]⟩ : ByteArray), (⟨#[]⟩ : ByteArray), ([] : List S61), none, 0, 0, (⟨#[]⟩ : ByteArray), ([] : List S63), none, 0, HRES, ⟨BKm.out⟩, BKx, ⟨HB.out⟩, ⟨Kd.C_nil _ _⟩, ⟨Nat.le_refl 0⟩, ⟨Kd.C_nil _ _⟩, ⟨Nat.le_refl 0⟩⟩
   ·by_cases c3 : aG = 3
    ·subst c3
     have HRES : Aside0 (roadbookref07_Same.f k 3 0 0 (⟨#[]⟩ : ByteArray) 0 0 (⟨#[]⟩ : ByteArray) 0 0 (⟨#[]⟩ : ByteArray) 0 (⟨#[]⟩ : ByteArray) ag aq 0 ah ak al 0 aj am ([] : List S61) 0 (⟨#[]⟩ : ByteArray) ab 3 aA aB az aC av ax aw aD ay ap an ag aq ai ah ak al ao aj am af ar au ab = some r) := ⟨(roadbookref07_Bare.f3 k aA aB az aC av ax aw aD ay ap an ag aq ai ah ak al ao aj am af ar au ab).symm.trans cB.out⟩
     clear cB
     have hcm12 := (blk_cell BKm.out 12).trans rfl
     have hcm13 := (blk_cell BKm.out 13).trans rfl
     have hcm15 := (blk_cell BKm.out 15).trans rfl
     have hcm16 := (blk_cell BKm.out 16).trans rfl
     have hcm17 := (blk_cell BKm.out 17).trans rfl
     have hcm19 := (blk_cell BKm.out 19).trans rfl
     have hcm20 := (blk_cell BKm.out 20).trans rfl
     have hcx12 := (blk_cell BKx.out 12).trans rfl
     have hfx12 := blk_frozen BKx.out 12
     have hcx13 := (blk_cell BKx.out 13).trans rfl
     have hfx13 := blk_frozen BKx.out 13
     have hcx15 := (blk_cell BKx.out 15).trans rfl
     have hfx15 := blk_frozen BKx.out 15
     have hcx16 := (blk_cell BKx.out 16).trans rfl
     have hfx16 := blk_frozen BKx.out 16
     have hcx17 := (blk_cell BKx.out 17).trans rfl
     have hfx17 := blk_frozen BKx.out 17
     have hcx19 := (blk_cell BKx.out 19).trans rfl
     have hfx19 := blk_frozen BKx.out 19
     have hcx20 := (blk_cell BKx.out 20).trans rfl
     have hfx20 := blk_frozen BKx.out 20
     go_wp2
     have aH := Aside0.mk (blk_drew BKm.out)
     have aK := Aside0.mk (blk_drew BKx.out)
     have aL := Aside0.mk (below_drew1 HB.out)
     clear BKm BKx HB hcm12 hcm13 hcm15 hcm16 hcm17 hcm19 hcm20 hcx12 hfx12 hcx13 hfx13 hcx15 hfx15 hcx16 hfx16 hcx17 hfx17 hcx19 hfx19 hcx20 hfx20 hcm0
     have BKm := aH
     have BKx := aK
     have HB := aL
     clear aH aK aL
     refine start_ (n := 28) (S := fun w' => w'.cell? ⟨gm, 15, none⟩ = some (.int .i64 ah) ∧ w'.cell? ⟨gm, 16, none⟩ = some (.int .i64 ak) ∧ w'.cell? ⟨gm, 17, none⟩ = some (.int .i64 al) ∧ w'.cell? ⟨gm, 19, none⟩ = some (.string aj) ∧ w'.cell? ⟨gm, 12, none⟩ = some (.int .i64 ag) ∧ w'.cell? ⟨gm, 20, none⟩ = some (.string am) ∧ w'.cell? ⟨gm, 13, none⟩ = some (.int .i64 aq)) (ds := []) #[false, false, false, false, false, false, false, false, false, false, false, false, false, false, false, false, false, false, false, false, false, false, false, false, false, false, false, false] Z5 rfl rfl ⟨(blk_cell BKm.out 15).trans rfl, (blk_cell BKm.out 16).trans rfl, (blk_cell BKm.out 17).trans rfl, (blk_cell BKm.out 19).trans rfl, (blk_cell BKm.out 12).trans rfl, (blk_cell BKm.out 20).trans rfl, (blk_cell BKm.out 13).trans rfl⟩ (fun hHeld => ?_); refine with_tabW roadbookref07_Bare.tab9 roadbookref07_Bare.bits9 (fun HT_ HW_ => ?_)
     generalize World.drew _ = fV at BKm BKx HB hHeld ⊢
     refine pure_ (i := 0) (N := some 53) (v := ?_) (a' := ?_) #[true, false, false, false, false, false, false, false, false, false, false, false, false, false, false, false, false, false, false, false, false, false, false, false, false, false, false, false] rfl rfl (any_of HT_.out Z5) (fun _ _ _ h => h) (Or.inl ⟨Z13, ?_⟩) ?_ ?_
     rotate_left
     ·intro w'
      go_simp
      with_reducible rfl
     rotate_left
     ·simp only [Act.put, List.setIfInBounds_toArray, List.set_cons_zero, List.set_cons_succ, i64_w, i32_w]
      rfl
     refine pure_ (i := 2) (N := some 55) (v := ?_) (a' := ?_) #[true, false, true, false, false, false, false, false, false, false, false, false, false, false, false, false, false, false, false, false, false, false, false, false, false, false, false, false] rfl rfl (any_of HT_.out Z5) (fun _ _ _ h => h) (Or.inl ⟨Z13, ?_⟩) ?_ ?_
     rotate_left
     ·intro w'
      go_simp
      with_reducible rfl
     rotate_left
     ·simp only [Act.put, List.setIfInBounds_toArray, List.set_cons_zero, List.set_cons_succ, i64_w, i32_w]
      rfl
     refine pure_ (i := 4) (N := some 57) (v := ?_) (a' := ?_) #[true, false, true, false, true, false, false, false, false, false, false, false, false, false, false, false, false, false, false, false, false, false, false, false, false, false, false, false] rfl rfl (any_of HT_.out Z5) (fun _ _ _ h => h) (Or.inl ⟨Z13, ?_⟩) ?_ ?_
     rotate_left
     ·intro w'
      go_simp
      with_reducible rfl
     rotate_left
     ·simp only [Act.put, List.setIfInBounds_toArray, List.set_cons_zero, List.set_cons_succ, i64_w, i32_w]
      rfl
     refine pure_ (i := 6) (N := some 59) (v := ?_) (a' := ?_) #[true, false, true, false, true, false, true, false, false, false, false, false, false, false, false, false, false, false, false, false, false, false, false, false, false, false, false, false] rfl rfl (any_of HT_.out Z5) (fun _ _ _ h => h) (Or.inl ⟨Z13, ?_⟩) ?_ ?_
     rotate_left
     ·intro w'
      go_simp
      with_reducible rfl
     rotate_left
     ·simp only [Act.put, List.setIfInBounds_toArray, List.set_cons_zero, List.set_cons_succ, i64_w, i32_w]
      rfl
     refine pure_ (i := 8) (N := some 61) (v := ?_) (a' := ?_) #[true, false, true, false, true, false, true, false, true, false, false, false, false, false, false, false, false, false, false, false, false, false, false, false, false, false, false, false] rfl rfl (any_of HT_.out Z5) (fun _ _ _ h => h) (Or.inl ⟨Z13, ?_⟩) ?_ ?_
     rotate_left
     ·intro w'
      go_simp
      with_reducible rfl
     rotate_left
     ·simp only [Act.put, List.setIfInBounds_toArray, List.set_cons_zero, List.set_cons_succ, i64_w, i32_w]
      rfl
     refine pure_ (i := 10) (N := some 63) (v := ?_) (a' := ?_) #[true, false, true, false, true, false, true, false, true, false, true, false, false, false, false, false, false, false, false, false, false, false, false, false, false, false, false, false] rfl rfl (any_of HT_.out Z5) (fun _ _ _ h => h) (Or.inl ⟨Z13, ?_⟩) ?_ ?_
     rotate_left
     ·intro w'
      go_simp
      with_reducible rfl
     rotate_left
     ·simp only [Act.put, List.setIfInBounds_toArray, List.set_cons_zero, List.set_cons_succ, i64_w, i32_w]
      rfl
     refine pure_ (i := 12) (N := some 65) (v := ?_) (a' := ?_) #[true, false, true, false, true, false, true, false, true, false, true, false, true, false, false, false, false, false, false, false, false, false, false, false, false, false, false, false] rfl rfl (any_of HT_.out Z5) (fun _ _ _ h => h) (Or.inl ⟨Z13, ?_⟩) ?_ ?_
     rotate_left
     ·intro w'
      go_simp
      with_reducible rfl
     rotate_left
     ·simp only [Act.put, List.setIfInBounds_toArray, List.set_cons_zero, List.set_cons_succ, i64_w, i32_w]
      rfl
     refine take_ (i := 1) (N := some 54) (v := ?_) (a' := ?_) #[true, true, true, false, true, false, true, false, true, false, true, false, true, false, false, false, false, false, false, false, false, false, false, false, false, false, false, false] rfl rfl (take_ofW HT_.out HW_.out Z5) (fun _ _ _ h => h) (Or.inl ⟨Z13, ?_⟩) hHeld ?_ ?_
     rotate_left
     ·rintro w' ⟨s0, s1, s2, s3, s4, s5, s6⟩
      go_simp
      with_reducible rfl
     rotate_left
     ·simp only [Act.put, List.setIfInBounds_toArray, List.set_cons_zero, List.set_cons_succ, i64_w, i32_w]
      rfl
     refine pure_ (i := 14) (N := some 67) (v := ?_) (a' := ?_) #[true, true, true, false, true, false, true, false, true, false, true, false, true, false, true, false, false, false, false, false, false, false, false, false, false, false, false, false] rfl rfl (any_of HT_.out Z5) (fun _ _ _ h => h) (Or.inl ⟨Z13, ?_⟩) ?_ ?_
     rotate_left
     ·intro w'
      go_simp
      with_reducible rfl
     rotate_left
     ·simp only [Act.put, List.setIfInBounds_toArray, List.set_cons_zero, List.set_cons_succ, i64_w, i32_w]
      rfl
     refine take_ (i := 3) (N := some 56) (v := ?_) (a' := ?_) #[true, true, true, true, true, false, true, false, true, false, true, false, true, false, true, false, false, false, false, false, false, false, false, false, false, false, false, false] rfl rfl (take_ofW HT_.out HW_.out Z5) (fun _ _ _ h => h) (Or.inl ⟨Z13, ?_⟩) hHeld ?_ ?_
     rotate_left
     ·rintro w' ⟨s0, s1, s2, s3, s4, s5, s6⟩
      go_simp
      with_reducible rfl
     rotate_left
     ·simp only [Act.put, List.setIfInBounds_toArray, List.set_cons_zero, List.set_cons_succ, i64_w, i32_w]
      rfl
     refine take_ (i := 5) (N := some 58) (v := ?_) (a' := ?_) #[true, true, true, true, true, true, true, false, true, false, true, false, true, false, true, false, false, false, false, false, false, false, false, false, false, false, false, false] rfl rfl (take_ofW HT_.out HW_.out Z5) (fun _ _ _ h => h) (Or.inl ⟨Z13, ?_⟩) hHeld ?_ ?_
     rotate_left
     ·rintro w' ⟨s0, s1, s2, s3, s4, s5, s6⟩
      go_simp
      with_reducible rfl
     rotate_left
     ·simp only [Act.put, List.setIfInBounds_toArray, List.set_cons_zero, List.set_cons_succ, i64_w, i32_w]
      rfl
     refine take_ (i := 7) (N := some 60) (v := ?_) (a' := ?_) #[true, true, true, true, true, true, true, true, true, false, true, false, true, false, true, false, false, false, false, false, false, false, false, false, false, false, false, false] rfl rfl (take_ofW HT_.out HW_.out Z5) (fun _ _ _ h => h) (Or.inl ⟨Z13, ?_⟩) hHeld ?_ ?_
     rotate_left
     ·rintro w' ⟨s0, s1, s2, s3, s4, s5, s6⟩
      go_simp
      with_reducible rfl
     rotate_left
     ·simp only [Act.put, List.setIfInBounds_toArray, List.set_cons_zero, List.set_cons_succ, i64_w, i32_w]
      rfl
     refine take_ (i := 9) (N := some 62) (v := ?_) (a' := ?_) #[true, true, true, true, true, true, true, true, true, true, true, false, true, false, true, false, false, false, false, false, false, false, false, false, false, false, false, false] rfl rfl (take_ofW HT_.out HW_.out Z5) (fun _ _ _ h => h) (Or.inl ⟨Z13, ?_⟩) hHeld ?_ ?_
     rotate_left
     ·rintro w' ⟨s0, s1, s2, s3, s4, s5, s6⟩
      go_simp
      with_reducible rfl
     rotate_left
     ·simp only [Act.put, List.setIfInBounds_toArray, List.set_cons_zero, List.set_cons_succ, i64_w, i32_w]
      rfl
     refine take_ (i := 11) (N := some 64) (v := ?_) (a' := ?_) #[true, true, true, true, true, true, true, true, true, true, true, true, true, false, true, false, false, false, false, false, false, false, false, false, false, false, false, false] rfl rfl (take_ofW HT_.out HW_.out Z5) (fun _ _ _ h => h) (Or.inl ⟨Z13, ?_⟩) hHeld ?_ ?_
     rotate_left
     ·rintro w' ⟨s0, s1, s2, s3, s4, s5, s6⟩
      go_simp
      with_reducible rfl
     rotate_left
     ·simp only [Act.put, List.setIfInBounds_toArray, List.set_cons_zero, List.set_cons_succ, i64_w, i32_w]
      rfl
     refine take_ (i := 13) (N := some 66) (v := ?_) (a' := ?_) #[true, true, true, true, true, true, true, true, true, true, true, true, true, true, true, false, false, false, false, false, false, false, false, false, false, false, false, false] rfl rfl (take_ofW HT_.out HW_.out Z5) (fun _ _ _ h => h) (Or.inl ⟨Z13, ?_⟩) hHeld ?_ ?_
     rotate_left
     ·rintro w' ⟨s0, s1, s2, s3, s4, s5, s6⟩
      go_simp
      with_reducible rfl
     rotate_left
     ·simp only [Act.put, List.setIfInBounds_toArray, List.set_cons_zero, List.set_cons_succ, i64_w, i32_w]
      rfl
     refine one_ (i := 15) (N := none) #[true, true, true, true, true, true, true, true, true, true, true, true, true, true, true, true, false, false, false, false, false, false, false, false, false, false, false, false] rfl rfl (one_of HT_.out Z5) Z15 (fun K hK => ?_)
     have hs_ := (blk_cell BKx.out 15).trans (c := some (.int .i64 0)) rfl
     have hf_ := blk_frozen BKx.out 15
     refine skip_ (w1 := ?_) Z13 rfl ?_ ?_
     rotate_left
     ·go_simp
      rfl
     clear hs_ hf_
     refine hK.out _ _ ⟨(cell_far (p := ⟨gx, _, none⟩) NBmx.out _).trans (hHeld.1), (cell_far (p := ⟨gx, _, none⟩) NBmx.out _).trans (hHeld.2.1), (cell_far (p := ⟨gx, _, none⟩) NBmx.out _).trans (hHeld.2.2.1), (cell_far (p := ⟨gx, _, none⟩) NBmx.out _).trans (hHeld.2.2.2.1), (cell_far (p := ⟨gx, _, none⟩) NBmx.out _).trans (hHeld.2.2.2.2.1), (cell_far (p := ⟨gx, _, none⟩) NBmx.out _).trans (hHeld.2.2.2.2.2.1), (cell_far (p := ⟨gx, _, none⟩) NBmx.out _).trans (hHeld.2.2.2.2.2.2)⟩ (fun hHeld => ?_)
     clear hK K
     have aH := Aside0.mk (blk_put (cs' := #[.int .i64 3, .int .i64 0, .int .i64 0, .string ⟨#[]⟩, .int .i64 0, .int .i64 0, .string ⟨#[]⟩, .int .i64 0, .int .i64 0, .string ⟨#[]⟩, .int .i64 0, .string ⟨#[]⟩, .int .i64 0, .int .i64 0, .int .i64 0, .int .i64 ah, .int .i64 0, .int .i64 0, .int .i64 0, .string ⟨#[]⟩, .string ⟨#[]⟩, .slice none 0 0, .int .i64 0, .string ⟨#[]⟩, .slice aI ab.length aJ]) BKx.out 15 (.int .i64 ah) rfl)
     have aK := Aside0.mk (blk_far (p := ⟨gx, 15, none⟩) BKm.out NBmx.out (.int .i64 ah))
     have aL := Aside0.mk (below_set (g := gx) (j := 15) (v := .int .i64 ah) HB.out GEx.out)
     clear BKx BKm HB
     have BKx := aH
     have BKm := aK
     have HB := aL
     clear aH aK aL
     generalize World.setCell _ _ _ = fW at BKx BKm HB hHeld ⊢
     refine pure_ (i := 16) (N := some 68) (v := ?_) (a' := ?_) #[true, true, true, true, true, true, true, true, true, true, true, true, true, true, true, true, true, false, false, false, false, false, false, false, false, false, false, false] rfl rfl (any_of HT_.out Z5) (fun _ _ _ h => h) (Or.inl ⟨Z13, ?_⟩) ?_ ?_
     rotate_left
     ·intro w'
      go_simp
      with_reducible rfl
     rotate_left
     ·simp only [Act.put, List.setIfInBounds_toArray, List.set_cons_zero, List.set_cons_succ, i64_w, i32_w]
      rfl
     refine one_ (i := 17) (N := none) #[true, true, true, true, true, true, true, true, true, true, true, true, true, true, true, true, true, true, false, false, false, false, false, false, false, false, false, false] rfl rfl (one_of HT_.out Z5) Z15 (fun K hK => ?_)
     have hs_ := (blk_cell BKx.out 16).trans (c := some (.int .i64 0)) rfl
     have hf_ := blk_frozen BKx.out 16
     refine skip_ (w1 := ?_) Z13 rfl ?_ ?_
     rotate_left
     ·go_simp
      rfl
     clear hs_ hf_
     refine hK.out _ _ ⟨(cell_far (p := ⟨gx, _, none⟩) NBmx.out _).trans (hHeld.1), (cell_far (p := ⟨gx, _, none⟩) NBmx.out _).trans (hHeld.2.1), (cell_far (p := ⟨gx, _, none⟩) NBmx.out _).trans (hHeld.2.2.1), (cell_far (p := ⟨gx, _, none⟩) NBmx.out _).trans (hHeld.2.2.2.1), (cell_far (p := ⟨gx, _, none⟩) NBmx.out _).trans (hHeld.2.2.2.2.1), (cell_far (p := ⟨gx, _, none⟩) NBmx.out _).trans (hHeld.2.2.2.2.2.1), (cell_far (p := ⟨gx, _, none⟩) NBmx.out _).trans (hHeld.2.2.2.2.2.2)⟩ (fun hHeld => ?_)
     clear hK K
     have aH := Aside0.mk (blk_put (cs' := #[.int .i64 3, .int .i64 0, .int .i64 0, .string ⟨#[]⟩, .int .i64 0, .int .i64 0, .string ⟨#[]⟩, .int .i64 0, .int .i64 0, .string ⟨#[]⟩, .int .i64 0, .string ⟨#[]⟩, .int .i64 0, .int .i64 0, .int .i64 0, .int .i64 ah, .int .i64 ak, .int .i64 0, .int .i64 0, .string ⟨#[]⟩, .string ⟨#[]⟩, .slice none 0 0, .int .i64 0, .string ⟨#[]⟩, .slice aI ab.length aJ]) BKx.out 16 (.int .i64 ak) rfl)
     have aK := Aside0.mk (blk_far (p := ⟨gx, 16, none⟩) BKm.out NBmx.out (.int .i64 ak))
     have aL := Aside0.mk (below_set (g := gx) (j := 16) (v := .int .i64 ak) HB.out GEx.out)
     clear BKx BKm HB
     have BKx := aH
     have BKm := aK
     have HB := aL
     clear aH aK aL
     generalize World.setCell _ _ _ = fX at BKx BKm HB hHeld ⊢
     refine pure_ (i := 18) (N := some 69) (v := ?_) (a' := ?_) #[true, true, true, true, true, true, true, true, true, true, true, true, true, true, true, true, true, true, true, false, false, false, false, false, false, false, false, false] rfl rfl (any_of HT_.out Z5) (fun _ _ _ h => h) (Or.inl ⟨Z13, ?_⟩) ?_ ?_
     rotate_left
     ·intro w'
      go_simp
      with_reducible rfl
     rotate_left
     ·simp only [Act.put, List.setIfInBounds_toArray, List.set_cons_zero, List.set_cons_succ, i64_w, i32_w]
      rfl
     refine one_ (i := 19) (N := none) #[true, true, true, true, true, true, true, true, true, true, true, true, true, true, true, true, true, true, true, true, false, false, false, false, false, false, false, false] rfl rfl (one_of HT_.out Z5) Z15 (fun K hK => ?_)
     have hs_ := (blk_cell BKx.out 17).trans (c := some (.int .i64 0)) rfl
     have hf_ := blk_frozen BKx.out 17
     refine skip_ (w1 := ?_) Z13 rfl ?_ ?_
     rotate_left
     ·go_simp
      rfl
     clear hs_ hf_
     refine hK.out _ _ ⟨(cell_far (p := ⟨gx, _, none⟩) NBmx.out _).trans (hHeld.1), (cell_far (p := ⟨gx, _, none⟩) NBmx.out _).trans (hHeld.2.1), (cell_far (p := ⟨gx, _, none⟩) NBmx.out _).trans (hHeld.2.2.1), (cell_far (p := ⟨gx, _, none⟩) NBmx.out _).trans (hHeld.2.2.2.1), (cell_far (p := ⟨gx, _, none⟩) NBmx.out _).trans (hHeld.2.2.2.2.1), (cell_far (p := ⟨gx, _, none⟩) NBmx.out _).trans (hHeld.2.2.2.2.2.1), (cell_far (p := ⟨gx, _, none⟩) NBmx.out _).trans (hHeld.2.2.2.2.2.2)⟩ (fun hHeld => ?_)
     clear hK K
     have aH := Aside0.mk (blk_put (cs' := #[.int .i64 3, .int .i64 0, .int .i64 0, .string ⟨#[]⟩, .int .i64 0, .int .i64 0, .string ⟨#[]⟩, .int .i64 0, .int .i64 0, .string ⟨#[]⟩, .int .i64 0, .string ⟨#[]⟩, .int .i64 0, .int .i64 0, .int .i64 0, .int .i64 ah, .int .i64 ak, .int .i64 al, .int .i64 0, .string ⟨#[]⟩, .string ⟨#[]⟩, .slice none 0 0, .int .i64 0, .string ⟨#[]⟩, .slice aI ab.length aJ]) BKx.out 17 (.int .i64 al) rfl)
     have aK := Aside0.mk (blk_far (p := ⟨gx, 17, none⟩) BKm.out NBmx.out (.int .i64 al))
     have aL := Aside0.mk (below_set (g := gx) (j := 17) (v := .int .i64 al) HB.out GEx.out)
     clear BKx BKm HB
     have BKx := aH
     have BKm := aK
     have HB := aL
     clear aH aK aL
     generalize World.setCell _ _ _ = hB at BKx BKm HB hHeld ⊢
     refine pure_ (i := 20) (N := some 70) (v := ?_) (a' := ?_) #[true, true, true, true, true, true, true, true, true, true, true, true, true, true, true, true, true, true, true, true, true, false, false, false, false, false, false, false] rfl rfl (any_of HT_.out Z5) (fun _ _ _ h => h) (Or.inl ⟨Z13, ?_⟩) ?_ ?_
     rotate_left
     ·intro w'
      go_simp
      with_reducible rfl
     rotate_left
     ·simp only [Act.put, List.setIfInBounds_toArray, List.set_cons_zero, List.set_cons_succ, i64_w, i32_w]
      rfl
     refine one_ (i := 21) (N := none) #[true, true, true, true, true, true, true, true, true, true, true, true, true, true, true, true, true, true, true, true, true, true, false, false, false, false, false, false] rfl rfl (one_of HT_.out Z5) Z15 (fun K hK => ?_)
     have hs_ := (blk_cell BKx.out 19).trans (c := some (.string ⟨#[]⟩)) rfl
     have hf_ := blk_frozen BKx.out 19
     refine skip_ (w1 := ?_) Z13 rfl ?_ ?_
     rotate_left
     ·go_simp
      rfl
     clear hs_ hf_
     refine hK.out _ _ ⟨(cell_far (p := ⟨gx, _, none⟩) NBmx.out _).trans (hHeld.1), (cell_far (p := ⟨gx, _, none⟩) NBmx.out _).trans (hHeld.2.1), (cell_far (p := ⟨gx, _, none⟩) NBmx.out _).trans (hHeld.2.2.1), (cell_far (p := ⟨gx, _, none⟩) NBmx.out _).trans (hHeld.2.2.2.1), (cell_far (p := ⟨gx, _, none⟩) NBmx.out _).trans (hHeld.2.2.2.2.1), (cell_far (p := ⟨gx, _, none⟩) NBmx.out _).trans (hHeld.2.2.2.2.2.1), (cell_far (p := ⟨gx, _, none⟩) NBmx.out _).trans (hHeld.2.2.2.2.2.2)⟩ (fun hHeld => ?_)
     clear hK K
     have aH := Aside0.mk (blk_put (cs' := #[.int .i64 3, .int .i64 0, .int .i64 0, .string ⟨#[]⟩, .int .i64 0, .int .i64 0, .string ⟨#[]⟩, .int .i64 0, .int .i64 0, .string ⟨#[]⟩, .int .i64 0, .string ⟨#[]⟩, .int .i64 0, .int .i64 0, .int .i64 0, .int .i64 ah, .int .i64 ak, .int .i64 al, .int .i64 0, .string aj, .string ⟨#[]⟩, .slice none 0 0, .int .i64 0, .string ⟨#[]⟩, .slice aI ab.length aJ]) BKx.out 19 (.string aj) rfl)
     have aK := Aside0.mk (blk_far (p := ⟨gx, 19, none⟩) BKm.out NBmx.out (.string aj))
     have aL := Aside0.mk (below_set (g := gx) (j := 19) (v := .string aj) HB.out GEx.out)
     clear BKx BKm HB
     have BKx := aH
     have BKm := aK
     have HB := aL
     clear aH aK aL
     generalize World.setCell _ _ _ = ij at BKx BKm HB hHeld ⊢
     refine pure_ (i := 22) (N := some 71) (v := ?_) (a' := ?_) #[true, true, true, true, true, true, true, true, true, true, true, true, true, true, true, true, true, true, true, true, true, true, true, false, false, false, false, false] rfl rfl (any_of HT_.out Z5) (fun _ _ _ h => h) (Or.inl ⟨Z13, ?_⟩) ?_ ?_
     rotate_left
     ·intro w'
      go_simp
      with_reducible rfl
     rotate_left
     ·simp only [Act.put, List.setIfInBounds_toArray, List.set_cons_zero, List.set_cons_succ, i64_w, i32_w]
      rfl
     refine one_ (i := 23) (N := none) #[true, true, true, true, true, true, true, true, true, true, true, true, true, true, true, true, true, true, true, true, true, true, true, true, false, false, false, false] rfl rfl (one_of HT_.out Z5) Z15 (fun K hK => ?_)
     have hs_ := (blk_cell BKx.out 12).trans (c := some (.int .i64 0)) rfl
     have hf_ := blk_frozen BKx.out 12
     refine skip_ (w1 := ?_) Z13 rfl ?_ ?_
     rotate_left
     ·go_simp
      rfl
     clear hs_ hf_
     refine hK.out _ _ ⟨(cell_far (p := ⟨gx, _, none⟩) NBmx.out _).trans (hHeld.1), (cell_far (p := ⟨gx, _, none⟩) NBmx.out _).trans (hHeld.2.1), (cell_far (p := ⟨gx, _, none⟩) NBmx.out _).trans (hHeld.2.2.1), (cell_far (p := ⟨gx, _, none⟩) NBmx.out _).trans (hHeld.2.2.2.1), (cell_far (p := ⟨gx, _, none⟩) NBmx.out _).trans (hHeld.2.2.2.2.1), (cell_far (p := ⟨gx, _, none⟩) NBmx.out _).trans (hHeld.2.2.2.2.2.1), (cell_far (p := ⟨gx, _, none⟩) NBmx.out _).trans (hHeld.2.2.2.2.2.2)⟩ (fun hHeld => ?_)
     clear hK K
     have aH := Aside0.mk (blk_put (cs' := #[.int .i64 3, .int .i64 0, .int .i64 0, .string ⟨#[]⟩, .int .i64 0, .int .i64 0, .string ⟨#[]⟩, .int .i64 0, .int .i64 0, .string ⟨#[]⟩, .int .i64 0, .string ⟨#[]⟩, .int .i64 ag, .int .i64 0, .int .i64 0, .int .i64 ah, .int .i64 ak, .int .i64 al, .int .i64 0, .string aj, .string ⟨#[]⟩, .slice none 0 0, .int .i64 0, .string ⟨#[]⟩, .slice aI ab.length aJ]) BKx.out 12 (.int .i64 ag) rfl)
     have aK := Aside0.mk (blk_far (p := ⟨gx, 12, none⟩) BKm.out NBmx.out (.int .i64 ag))
     have aL := Aside0.mk (below_set (g := gx) (j := 12) (v := .int .i64 ag) HB.out GEx.out)
     clear BKx BKm HB
     have BKx := aH
     have BKm := aK
     have HB := aL
     clear aH aK aL
     generalize World.setCell _ _ _ = iv at BKx BKm HB hHeld ⊢
     refine pure_ (i := 24) (N := some 72) (v := ?_) (a' := ?_) #[true, true, true, true, true, true, true, true, true, true, true, true, true, true, true, true, true, true, true, true, true, true, true, true, true, false, false, false] rfl rfl (any_of HT_.out Z5) (fun _ _ _ h => h) (Or.inl ⟨Z13, ?_⟩) ?_ ?_
     rotate_left
     ·intro w'
      go_simp
      with_reducible rfl
     rotate_left
     ·simp only [Act.put, List.setIfInBounds_toArray, List.set_cons_zero, List.set_cons_succ, i64_w, i32_w]
      rfl
     refine one_ (i := 25) (N := none) #[true, true, true, true, true, true, true, true, true, true, true, true, true, true, true, true, true, true, true, true, true, true, true, true, true, true, false, false] rfl rfl (one_of HT_.out Z5) Z15 (fun K hK => ?_)
     have hs_ := (blk_cell BKx.out 20).trans (c := some (.string ⟨#[]⟩)) rfl
     have hf_ := blk_frozen BKx.out 20
     refine skip_ (w1 := ?_) Z13 rfl ?_ ?_
     rotate_left
     ·go_simp
      rfl
     clear hs_ hf_
     refine hK.out _ _ ⟨(cell_far (p := ⟨gx, _, none⟩) NBmx.out _).trans (hHeld.1), (cell_far (p := ⟨gx, _, none⟩) NBmx.out _).trans (hHeld.2.1), (cell_far (p := ⟨gx, _, none⟩) NBmx.out _).trans (hHeld.2.2.1), (cell_far (p := ⟨gx, _, none⟩) NBmx.out _).trans (hHeld.2.2.2.1), (cell_far (p := ⟨gx, _, none⟩) NBmx.out _).trans (hHeld.2.2.2.2.1), (cell_far (p := ⟨gx, _, none⟩) NBmx.out _).trans (hHeld.2.2.2.2.2.1), (cell_far (p := ⟨gx, _, none⟩) NBmx.out _).trans (hHeld.2.2.2.2.2.2)⟩ (fun hHeld => ?_)
     clear hK K
     have aH := Aside0.mk (blk_put (cs' := #[.int .i64 3, .int .i64 0, .int .i64 0, .string ⟨#[]⟩, .int .i64 0, .int .i64 0, .string ⟨#[]⟩, .int .i64 0, .int .i64 0, .string ⟨#[]⟩, .int .i64 0, .string ⟨#[]⟩, .int .i64 ag, .int .i64 0, .int .i64 0, .int .i64 ah, .int .i64 ak, .int .i64 al, .int .i64 0, .string aj, .string am, .slice none 0 0, .int .i64 0, .string ⟨#[]⟩, .slice aI ab.length aJ]) BKx.out 20 (.string am) rfl)
     have aK := Aside0.mk (blk_far (p := ⟨gx, 20, none⟩) BKm.out NBmx.out (.string am))
     have aL := Aside0.mk (below_set (g := gx) (j := 20) (v := .string am) HB.out GEx.out)
     clear BKx BKm HB
     have BKx := aH
     have BKm := aK
     have HB := aL
     clear aH aK aL
     generalize World.setCell _ _ _ = iw at BKx BKm HB hHeld ⊢
     refine pure_ (i := 26) (N := some 73) (v := ?_) (a' := ?_) #[true, true, true, true, true, true, true, true, true, true, true, true, true, true, true, true, true, true, true, true, true, true, true, true, true, true, true, false] rfl rfl (any_of HT_.out Z5) (fun _ _ _ h => h) (Or.inl ⟨Z13, ?_⟩) ?_ ?_
     rotate_left
     ·intro w'
      go_simp
      with_reducible rfl
     rotate_left
     ·simp only [Act.put, List.setIfInBounds_toArray, List.set_cons_zero, List.set_cons_succ, i64_w, i32_w]
      rfl
     refine one_ (i := 27) (N := none) #[true, true, true, true, true, true, true, true, true, true, true, true, true, true, true, true, true, true, true, true, true, true, true, true, true, true, true, true] rfl rfl (one_of HT_.out Z5) Z15 (fun K hK => ?_)
     have hs_ := (blk_cell BKx.out 13).trans (c := some (.int .i64 0)) rfl
     have hf_ := blk_frozen BKx.out 13
     refine skip_ (w1 := ?_) Z13 rfl ?_ ?_
     rotate_left
     ·go_simp
      rfl
     clear hs_ hf_
     refine hK.out _ _ ⟨(cell_far (p := ⟨gx, _, none⟩) NBmx.out _).trans (hHeld.1), (cell_far (p := ⟨gx, _, none⟩) NBmx.out _).trans (hHeld.2.1), (cell_far (p := ⟨gx, _, none⟩) NBmx.out _).trans (hHeld.2.2.1), (cell_far (p := ⟨gx, _, none⟩) NBmx.out _).trans (hHeld.2.2.2.1), (cell_far (p := ⟨gx, _, none⟩) NBmx.out _).trans (hHeld.2.2.2.2.1), (cell_far (p := ⟨gx, _, none⟩) NBmx.out _).trans (hHeld.2.2.2.2.2.1), (cell_far (p := ⟨gx, _, none⟩) NBmx.out _).trans (hHeld.2.2.2.2.2.2)⟩ (fun hHeld => ?_)
     clear hK K
     have aH := Aside0.mk (blk_put (cs' := #[.int .i64 3, .int .i64 0, .int .i64 0, .string ⟨#[]⟩, .int .i64 0, .int .i64 0, .string ⟨#[]⟩, .int .i64 0, .int .i64 0, .string ⟨#[]⟩, .int .i64 0, .string ⟨#[]⟩, .int .i64 ag, .int .i64 aq, .int .i64 0, .int .i64 ah, .int .i64 ak, .int .i64 al, .int .i64 0, .string aj, .string am, .slice none 0 0, .int .i64 0, .string ⟨#[]⟩, .slice aI ab.length aJ]) BKx.out 13 (.int .i64 aq) rfl)
     have aK := Aside0.mk (blk_far (p := ⟨gx, 13, none⟩) BKm.out NBmx.out (.int .i64 aq))
     have aL := Aside0.mk (below_set (g := gx) (j := 13) (v := .int .i64 aq) HB.out GEx.out)
     clear BKx BKm HB
     have BKx := aH
     have BKm := aK
     have HB := aL
     clear aH aK aL
     generalize World.setCell _ _ _ = iN at BKx BKm HB hHeld ⊢
     refine done_ (done_of HT_.out Z5) ?_
     go_wp2
     go_meet
     case rel => exact ⟨3, 0, 0, (⟨#[]⟩ : ByteArray), 0, 0, (⟨#[]⟩ : ByteArray), 0, 0, (⟨#[]⟩ : ByteArray), 0, (⟨#[]⟩ : ByteArray), ag, aq, 0, ah, ak, al, 0, aj, am, ([] : List S61), none, 0, 0, (⟨#[]⟩ : ByteArray), ab, aI, aJ, HRES, ⟨BKm.out⟩, BKx, ⟨HB.out⟩, ⟨Kd.C_nil _ _⟩, ⟨Nat.le_refl 0⟩, ⟨Kd.C_below bW.out HB.out⟩, bU⟩
    ·by_cases c4 : aG = 4
     ·subst c4
      have HRES : Aside0 (roadbookref07_Same.f k 4 0 0 (⟨#[]⟩ : ByteArray) 0 0 (⟨#[]⟩ : ByteArray) aw 0 (⟨#[]⟩ : ByteArray) 0 (⟨#[]⟩ : ByteArray) ag 0 ai ah ak 0 0 aj am ([] : List S61) 0 (⟨#[]⟩ : ByteArray) ab 4 aA aB az aC av ax aw aD ay ap an ag aq ai ah ak al ao aj am af ar au ab = some r) := ⟨(roadbookref07_Bare.f4 k aA aB az aC av ax aw aD ay ap an ag aq ai ah ak al ao aj am af ar au ab).symm.trans cB.out⟩
      clear cB
      have hcm7 := (blk_cell BKm.out 7).trans rfl
      have hcm12 := (blk_cell BKm.out 12).trans rfl
      have hcm14 := (blk_cell BKm.out 14).trans rfl
      have hcm15 := (blk_cell BKm.out 15).trans rfl
      have hcm16 := (blk_cell BKm.out 16).trans rfl
      have hcm19 := (blk_cell BKm.out 19).trans rfl
      have hcm20 := (blk_cell BKm.out 20).trans rfl
      have hcx7 := (blk_cell BKx.out 7).trans rfl
      have hfx7 := blk_frozen BKx.out 7
      have hcx12 := (blk_cell BKx.out 12).trans rfl
      have hfx12 := blk_frozen BKx.out 12
      have hcx14 := (blk_cell BKx.out 14).trans rfl
      have hfx14 := blk_frozen BKx.out 14
      have hcx15 := (blk_cell BKx.out 15).trans rfl
      have hfx15 := blk_frozen BKx.out 15
      have hcx16 := (blk_cell BKx.out 16).trans rfl
      have hfx16 := blk_frozen BKx.out 16
      have hcx19 := (blk_cell BKx.out 19).trans rfl
      have hfx19 := blk_frozen BKx.out 19
      have hcx20 := (blk_cell BKx.out 20).trans rfl
      have hfx20 := blk_frozen BKx.out 20
      go_wp2
      have aH := Aside0.mk (blk_drew BKm.out)
      have aK := Aside0.mk (blk_drew BKx.out)
      have aL := Aside0.mk (below_drew1 HB.out)
      clear BKm BKx HB hcm7 hcm12 hcm14 hcm15 hcm16 hcm19 hcm20 hcx7 hfx7 hcx12 hfx12 hcx14 hfx14 hcx15 hfx15 hcx16 hfx16 hcx19 hfx19 hcx20 hfx20 hcm0
      have BKm := aH
      have BKx := aK
      have HB := aL
      clear aH aK aL
      refine start_ (n := 28) (S := fun w' => w'.cell? ⟨gm, 15, none⟩ = some (.int .i64 ah) ∧ w'.cell? ⟨gm, 7, none⟩ = some (.int .i64 aw) ∧ w'.cell? ⟨gm, 16, none⟩ = some (.int .i64 ak) ∧ w'.cell? ⟨gm, 19, none⟩ = some (.string aj) ∧ w'.cell? ⟨gm, 12, none⟩ = some (.int .i64 ag) ∧ w'.cell? ⟨gm, 20, none⟩ = some (.string am) ∧ w'.cell? ⟨gm, 14, none⟩ = some (.int .i64 ai)) (ds := []) #[false, false, false, false, false, false, false, false, false, false, false, false, false, false, false, false, false, false, false, false, false, false, false, false, false, false, false, false] Z5 rfl rfl ⟨(blk_cell BKm.out 15).trans rfl, (blk_cell BKm.out 7).trans rfl, (blk_cell BKm.out 16).trans rfl, (blk_cell BKm.out 19).trans rfl, (blk_cell BKm.out 12).trans rfl, (blk_cell BKm.out 20).trans rfl, (blk_cell BKm.out 14).trans rfl⟩ (fun hHeld => ?_); refine with_tabW roadbookref07_Bare.tab11 roadbookref07_Bare.bits11 (fun HT_ HW_ => ?_)
      generalize World.drew _ = fV at BKm BKx HB hHeld ⊢
      refine pure_ (i := 0) (N := some 76) (v := ?_) (a' := ?_) #[true, false, false, false, false, false, false, false, false, false, false, false, false, false, false, false, false, false, false, false, false, false, false, false, false, false, false, false] rfl rfl (any_of HT_.out Z5) (fun _ _ _ h => h) (Or.inl ⟨Z13, ?_⟩) ?_ ?_
      rotate_left
      ·intro w'
       go_simp
       with_reducible rfl
      rotate_left
      ·simp only [Act.put, List.setIfInBounds_toArray, List.set_cons_zero, List.set_cons_succ, i64_w, i32_w]
       rfl
      refine pure_ (i := 2) (N := some 78) (v := ?_) (a' := ?_) #[true, false, true, false, false, false, false, false, false, false, false, false, false, false, false, false, false, false, false, false, false, false, false, false, false, false, false, false] rfl rfl (any_of HT_.out Z5) (fun _ _ _ h => h) (Or.inl ⟨Z13, ?_⟩) ?_ ?_
      rotate_left
      ·intro w'
       go_simp
       with_reducible rfl
      rotate_left
      ·simp only [Act.put, List.setIfInBounds_toArray, List.set_cons_zero, List.set_cons_succ, i64_w, i32_w]
       rfl
      refine pure_ (i := 4) (N := some 80) (v := ?_) (a' := ?_) #[true, false, true, false, true, false, false, false, false, false, false, false, false, false, false, false, false, false, false, false, false, false, false, false, false, false, false, false] rfl rfl (any_of HT_.out Z5) (fun _ _ _ h => h) (Or.inl ⟨Z13, ?_⟩) ?_ ?_
      rotate_left
      ·intro w'
       go_simp
       with_reducible rfl
      rotate_left
      ·simp only [Act.put, List.setIfInBounds_toArray, List.set_cons_zero, List.set_cons_succ, i64_w, i32_w]
       rfl
      refine pure_ (i := 6) (N := some 82) (v := ?_) (a' := ?_) #[true, false, true, false, true, false, true, false, false, false, false, false, false, false, false, false, false, false, false, false, false, false, false, false, false, false, false, false] rfl rfl (any_of HT_.out Z5) (fun _ _ _ h => h) (Or.inl ⟨Z13, ?_⟩) ?_ ?_
      rotate_left
      ·intro w'
       go_simp
       with_reducible rfl
      rotate_left
      ·simp only [Act.put, List.setIfInBounds_toArray, List.set_cons_zero, List.set_cons_succ, i64_w, i32_w]
       rfl
      refine pure_ (i := 8) (N := some 84) (v := ?_) (a' := ?_) #[true, false, true, false, true, false, true, false, true, false, false, false, false, false, false, false, false, false, false, false, false, false, false, false, false, false, false, false] rfl rfl (any_of HT_.out Z5) (fun _ _ _ h => h) (Or.inl ⟨Z13, ?_⟩) ?_ ?_
      rotate_left
      ·intro w'
       go_simp
       with_reducible rfl
      rotate_left
      ·simp only [Act.put, List.setIfInBounds_toArray, List.set_cons_zero, List.set_cons_succ, i64_w, i32_w]
       rfl
      refine pure_ (i := 10) (N := some 86) (v := ?_) (a' := ?_) #[true, false, true, false, true, false, true, false, true, false, true, false, false, false, false, false, false, false, false, false, false, false, false, false, false, false, false, false] rfl rfl (any_of HT_.out Z5) (fun _ _ _ h => h) (Or.inl ⟨Z13, ?_⟩) ?_ ?_
      rotate_left
      ·intro w'
       go_simp
       with_reducible rfl
      rotate_left
      ·simp only [Act.put, List.setIfInBounds_toArray, List.set_cons_zero, List.set_cons_succ, i64_w, i32_w]
       rfl
      refine pure_ (i := 12) (N := some 88) (v := ?_) (a' := ?_) #[true, false, true, false, true, false, true, false, true, false, true, false, true, false, false, false, false, false, false, false, false, false, false, false, false, false, false, false] rfl rfl (any_of HT_.out Z5) (fun _ _ _ h => h) (Or.inl ⟨Z13, ?_⟩) ?_ ?_
      rotate_left
      ·intro w'
       go_simp
       with_reducible rfl
      rotate_left
      ·simp only [Act.put, List.setIfInBounds_toArray, List.set_cons_zero, List.set_cons_succ, i64_w, i32_w]
       rfl
      refine take_ (i := 1) (N := some 77) (v := ?_) (a' := ?_) #[true, true, true, false, true, false, true, false, true, false, true, false, true, false, false, false, false, false, false, false, false, false, false, false, false, false, false, false] rfl rfl (take_ofW HT_.out HW_.out Z5) (fun _ _ _ h => h) (Or.inl ⟨Z13, ?_⟩) hHeld ?_ ?_
      rotate_left
      ·rintro w' ⟨s0, s1, s2, s3, s4, s5, s6⟩
       go_simp
       with_reducible rfl
      rotate_left
      ·simp only [Act.put, List.setIfInBounds_toArray, List.set_cons_zero, List.set_cons_succ, i64_w, i32_w]
       rfl
      refine pure_ (i := 14) (N := some 90) (v := ?_) (a' := ?_) #[true, true, true, false, true, false, true, false, true, false, true, false, true, false, true, false, false, false, false, false, false, false, false, false, false, false, false, false] rfl rfl (any_of HT_.out Z5) (fun _ _ _ h => h) (Or.inl ⟨Z13, ?_⟩) ?_ ?_
      rotate_left
      ·intro w'
       go_simp
       with_reducible rfl
      rotate_left
      ·simp only [Act.put, List.setIfInBounds_toArray, List.set_cons_zero, List.set_cons_succ, i64_w, i32_w]
       rfl
      refine take_ (i := 3) (N := some 79) (v := ?_) (a' := ?_) #[true, true, true, true, true, false, true, false, true, false, true, false, true, false, true, false, false, false, false, false, false, false, false, false, false, false, false, false] rfl rfl (take_ofW HT_.out HW_.out Z5) (fun _ _ _ h => h) (Or.inl ⟨Z13, ?_⟩) hHeld ?_ ?_
      rotate_left
      ·rintro w' ⟨s0, s1, s2, s3, s4, s5, s6⟩
       go_simp
       with_reducible rfl
      rotate_left
      ·simp only [Act.put, List.setIfInBounds_toArray, List.set_cons_zero, List.set_cons_succ, i64_w, i32_w]
       rfl
      refine take_ (i := 5) (N := some 81) (v := ?_) (a' := ?_) #[true, true, true, true, true, true, true, false, true, false, true, false, true, false, true, false, false, false, false, false, false, false, false, false, false, false, false, false] rfl rfl (take_ofW HT_.out HW_.out Z5) (fun _ _ _ h => h) (Or.inl ⟨Z13, ?_⟩) hHeld ?_ ?_
      rotate_left
      ·rintro w' ⟨s0, s1, s2, s3, s4, s5, s6⟩
       go_simp
       with_reducible rfl
      rotate_left
      ·simp only [Act.put, List.setIfInBounds_toArray, List.set_cons_zero, List.set_cons_succ, i64_w, i32_w]
       rfl
      refine take_ (i := 7) (N := some 83) (v := ?_) (a' := ?_) #[true, true, true, true, true, true, true, true, true, false, true, false, true, false, true, false, false, false, false, false, false, false, false, false, false, false, false, false] rfl rfl (take_ofW HT_.out HW_.out Z5) (fun _ _ _ h => h) (Or.inl ⟨Z13, ?_⟩) hHeld ?_ ?_
      rotate_left
      ·rintro w' ⟨s0, s1, s2, s3, s4, s5, s6⟩
       go_simp
       with_reducible rfl
      rotate_left
      ·simp only [Act.put, List.setIfInBounds_toArray, List.set_cons_zero, List.set_cons_succ, i64_w, i32_w]
       rfl
      refine take_ (i := 9) (N := some 85) (v := ?_) (a' := ?_) #[true, true, true, true, true, true, true, true, true, true, true, false, true, false, true, false, false, false, false, false, false, false, false, false, false, false, false, false] rfl rfl (take_ofW HT_.out HW_.out Z5) (fun _ _ _ h => h) (Or.inl ⟨Z13, ?_⟩) hHeld ?_ ?_
      rotate_left
      ·rintro w' ⟨s0, s1, s2, s3, s4, s5, s6⟩
       go_simp
       with_reducible rfl
      rotate_left
      ·simp only [Act.put, List.setIfInBounds_toArray, List.set_cons_zero, List.set_cons_succ, i64_w, i32_w]
       rfl
      refine take_ (i := 11) (N := some 87) (v := ?_) (a' := ?_) #[true, true, true, true, true, true, true, true, true, true, true, true, true, false, true, false, false, false, false, false, false, false, false, false, false, false, false, false] rfl rfl (take_ofW HT_.out HW_.out Z5) (fun _ _ _ h => h) (Or.inl ⟨Z13, ?_⟩) hHeld ?_ ?_
      rotate_left
      ·rintro w' ⟨s0, s1, s2, s3, s4, s5, s6⟩
       go_simp
       with_reducible rfl
      rotate_left
      ·simp only [Act.put, List.setIfInBounds_toArray, List.set_cons_zero, List.set_cons_succ, i64_w, i32_w]
       rfl
      refine take_ (i := 13) (N := some 89) (v := ?_) (a' := ?_) #[true, true, true, true, true, true, true, true, true, true, true, true, true, true, true, false, false, false, false, false, false, false, false, false, false, false, false, false] rfl rfl (take_ofW HT_.out HW_.out Z5) (fun _ _ _ h => h) (Or.inl ⟨Z13, ?_⟩) hHeld ?_ ?_
      rotate_left
      ·rintro w' ⟨s0, s1, s2, s3, s4, s5, s6⟩
       go_simp
       with_reducible rfl
      rotate_left
      ·simp only [Act.put, List.setIfInBounds_toArray, List.set_cons_zero, List.set_cons_succ, i64_w, i32_w]
       rfl
      refine one_ (i := 15) (N := none) #[true, true, true, true, true, true, true, true, true, true, true, true, true, true, true, true, false, false, false, false, false, false, false, false, false, false, false, false] rfl rfl (one_of HT_.out Z5) Z15 (fun K hK => ?_)
      have hs_ := (blk_cell BKx.out 15).trans (c := some (.int .i64 0)) rfl
      have hf_ := blk_frozen BKx.out 15
      refine skip_ (w1 := ?_) Z13 rfl ?_ ?_
      rotate_left
      ·go_simp
       rfl
      clear hs_ hf_
      refine hK.out _ _ ⟨(cell_far (p := ⟨gx, _, none⟩) NBmx.out _).trans (hHeld.1), (cell_far (p := ⟨gx, _, none⟩) NBmx.out _).trans (hHeld.2.1), (cell_far (p := ⟨gx, _, none⟩) NBmx.out _).trans (hHeld.2.2.1), (cell_far (p := ⟨gx, _, none⟩) NBmx.out _).trans (hHeld.2.2.2.1), (cell_far (p := ⟨gx, _, none⟩) NBmx.out _).trans (hHeld.2.2.2.2.1), (cell_far (p := ⟨gx, _, none⟩) NBmx.out _).trans (hHeld.2.2.2.2.2.1), (cell_far (p := ⟨gx, _, none⟩) NBmx.out _).trans (hHeld.2.2.2.2.2.2)⟩ (fun hHeld => ?_)
      clear hK K
      have aH := Aside0.mk (blk_put (cs' := #[.int .i64 4, .int .i64 0, .int .i64 0, .string ⟨#[]⟩, .int .i64 0, .int .i64 0, .string ⟨#[]⟩, .int .i64 0, .int .i64 0, .string ⟨#[]⟩, .int .i64 0, .string ⟨#[]⟩, .int .i64 0, .int .i64 0, .int .i64 0, .int .i64 ah, .int .i64 0, .int .i64 0, .int .i64 0, .string ⟨#[]⟩, .string ⟨#[]⟩, .slice none 0 0, .int .i64 0, .string ⟨#[]⟩, .slice aI ab.length aJ]) BKx.out 15 (.int .i64 ah) rfl)
      have aK := Aside0.mk (blk_far (p := ⟨gx, 15, none⟩) BKm.out NBmx.out (.int .i64 ah))
      have aL := Aside0.mk (below_set (g := gx) (j := 15) (v := .int .i64 ah) HB.out GEx.out)
      clear BKx BKm HB
      have BKx := aH
      have BKm := aK
      have HB := aL
      clear aH aK aL
      generalize World.setCell _ _ _ = fW at BKx BKm HB hHeld ⊢
      refine pure_ (i := 16) (N := some 91) (v := ?_) (a' := ?_) #[true, true, true, true, true, true, true, true, true, true, true, true, true, true, true, true, true, false, false, false, false, false, false, false, false, false, false, false] rfl rfl (any_of HT_.out Z5) (fun _ _ _ h => h) (Or.inl ⟨Z13, ?_⟩) ?_ ?_
      rotate_left
      ·intro w'
       go_simp
       with_reducible rfl
      rotate_left
      ·simp only [Act.put, List.setIfInBounds_toArray, List.set_cons_zero, List.set_cons_succ, i64_w, i32_w]
       rfl
      refine one_ (i := 17) (N := none) #[true, true, true, true, true, true, true, true, true, true, true, true, true, true, true, true, true, true, false, false, false, false, false, false, false, false, false, false] rfl rfl (one_of HT_.out Z5) Z15 (fun K hK => ?_)
      have hs_ := (blk_cell BKx.out 7).trans (c := some (.int .i64 0)) rfl
      have hf_ := blk_frozen BKx.out 7
      refine skip_ (w1 := ?_) Z13 rfl ?_ ?_
      rotate_left
      ·go_simp
       rfl
      clear hs_ hf_
      refine hK.out _ _ ⟨(cell_far (p := ⟨gx, _, none⟩) NBmx.out _).trans (hHeld.1), (cell_far (p := ⟨gx, _, none⟩) NBmx.out _).trans (hHeld.2.1), (cell_far (p := ⟨gx, _, none⟩) NBmx.out _).trans (hHeld.2.2.1), (cell_far (p := ⟨gx, _, none⟩) NBmx.out _).trans (hHeld.2.2.2.1), (cell_far (p := ⟨gx, _, none⟩) NBmx.out _).trans (hHeld.2.2.2.2.1), (cell_far (p := ⟨gx, _, none⟩) NBmx.out _).trans (hHeld.2.2.2.2.2.1), (cell_far (p := ⟨gx, _, none⟩) NBmx.out _).trans (hHeld.2.2.2.2.2.2)⟩ (fun hHeld => ?_)
      clear hK K
      have aH := Aside0.mk (blk_put (cs' := #[.int .i64 4, .int .i64 0, .int .i64 0, .string ⟨#[]⟩, .int .i64 0, .int .i64 0, .string ⟨#[]⟩, .int .i64 aw, .int .i64 0, .string ⟨#[]⟩, .int .i64 0, .string ⟨#[]⟩, .int .i64 0, .int .i64 0, .int .i64 0, .int .i64 ah, .int .i64 0, .int .i64 0, .int .i64 0, .string ⟨#[]⟩, .string ⟨#[]⟩, .slice none 0 0, .int .i64 0, .string ⟨#[]⟩, .slice aI ab.length aJ]) BKx.out 7 (.int .i64 aw) rfl)
      have aK := Aside0.mk (blk_far (p := ⟨gx, 7, none⟩) BKm.out NBmx.out (.int .i64 aw))
      have aL := Aside0.mk (below_set (g := gx) (j := 7) (v := .int .i64 aw) HB.out GEx.out)
      clear BKx BKm HB
      have BKx := aH
      have BKm := aK
      have HB := aL
      clear aH aK aL
      generalize World.setCell _ _ _ = fX at BKx BKm HB hHeld ⊢
      refine pure_ (i := 18) (N := some 92) (v := ?_) (a' := ?_) #[true, true, true, true, true, true, true, true, true, true, true, true, true, true, true, true, true, true, true, false, false, false, false, false, false, false, false, false] rfl rfl (any_of HT_.out Z5) (fun _ _ _ h => h) (Or.inl ⟨Z13, ?_⟩) ?_ ?_
      rotate_left
      ·intro w'
       go_simp
       with_reducible rfl
      rotate_left
      ·simp only [Act.put, List.setIfInBounds_toArray, List.set_cons_zero, List.set_cons_succ, i64_w, i32_w]
       rfl
      refine one_ (i := 19) (N := none) #[true, true, true, true, true, true, true, true, true, true, true, true, true, true, true, true, true, true, true, true, false, false, false, false, false, false, false, false] rfl rfl (one_of HT_.out Z5) Z15 (fun K hK => ?_)
      have hs_ := (blk_cell BKx.out 16).trans (c := some (.int .i64 0)) rfl
      have hf_ := blk_frozen BKx.out 16
      refine skip_ (w1 := ?_) Z13 rfl ?_ ?_
      rotate_left
      ·go_simp
       rfl
      clear hs_ hf_
      refine hK.out _ _ ⟨(cell_far (p := ⟨gx, _, none⟩) NBmx.out _).trans (hHeld.1), (cell_far (p := ⟨gx, _, none⟩) NBmx.out _).trans (hHeld.2.1), (cell_far (p := ⟨gx, _, none⟩) NBmx.out _).trans (hHeld.2.2.1), (cell_far (p := ⟨gx, _, none⟩) NBmx.out _).trans (hHeld.2.2.2.1), (cell_far (p := ⟨gx, _, none⟩) NBmx.out _).trans (hHeld.2.2.2.2.1), (cell_far (p := ⟨gx, _, none⟩) NBmx.out _).trans (hHeld.2.2.2.2.2.1), (cell_far (p := ⟨gx, _, none⟩) NBmx.out _).trans (hHeld.2.2.2.2.2.2)⟩ (fun hHeld => ?_)
      clear hK K
      have aH := Aside0.mk (blk_put (cs' := #[.int .i64 4, .int .i64 0, .int .i64 0, .string ⟨#[]⟩, .int .i64 0, .int .i64 0, .string ⟨#[]⟩, .int .i64 aw, .int .i64 0, .string ⟨#[]⟩, .int .i64 0, .string ⟨#[]⟩, .int .i64 0, .int .i64 0, .int .i64 0, .int .i64 ah, .int .i64 ak, .int .i64 0, .int .i64 0, .string ⟨#[]⟩, .string ⟨#[]⟩, .slice none 0 0, .int .i64 0, .string ⟨#[]⟩, .slice aI ab.length aJ]) BKx.out 16 (.int .i64 ak) rfl)
      have aK := Aside0.mk (blk_far (p := ⟨gx, 16, none⟩) BKm.out NBmx.out (.int .i64 ak))
      have aL := Aside0.mk (below_set (g := gx) (j := 16) (v := .int .i64 ak) HB.out GEx.out)
      clear BKx BKm HB
      have BKx := aH
      have BKm := aK
      have HB := aL
      clear aH aK aL
      generalize World.setCell _ _ _ = hB at BKx BKm HB hHeld ⊢
      refine pure_ (i := 20) (N := some 93) (v := ?_) (a' := ?_) #[true, true, true, true, true, true, true, true, true, true, true, true, true, true, true, true, true, true, true, true, true, false, false, false, false, false, false, false] rfl rfl (any_of HT_.out Z5) (fun _ _ _ h => h) (Or.inl ⟨Z13, ?_⟩) ?_ ?_
      rotate_left
      ·intro w'
       go_simp
       with_reducible rfl
      rotate_left
      ·simp only [Act.put, List.setIfInBounds_toArray, List.set_cons_zero, List.set_cons_succ, i64_w, i32_w]
       rfl
      refine one_ (i := 21) (N := none) #[true, true, true, true, true, true, true, true, true, true, true, true, true, true, true, true, true, true, true, true, true, true, false, false, false, false, false, false] rfl rfl (one_of HT_.out Z5) Z15 (fun K hK => ?_)
      have hs_ := (blk_cell BKx.out 19).trans (c := some (.string ⟨#[]⟩)) rfl
      have hf_ := blk_frozen BKx.out 19
      refine skip_ (w1 := ?_) Z13 rfl ?_ ?_
      rotate_left
      ·go_simp
       rfl
      clear hs_ hf_
      refine hK.out _ _ ⟨(cell_far (p := ⟨gx, _, none⟩) NBmx.out _).trans (hHeld.1), (cell_far (p := ⟨gx, _, none⟩) NBmx.out _).trans (hHeld.2.1), (cell_far (p := ⟨gx, _, none⟩) NBmx.out _).trans (hHeld.2.2.1), (cell_far (p := ⟨gx, _, none⟩) NBmx.out _).trans (hHeld.2.2.2.1), (cell_far (p := ⟨gx, _, none⟩) NBmx.out _).trans (hHeld.2.2.2.2.1), (cell_far (p := ⟨gx, _, none⟩) NBmx.out _).trans (hHeld.2.2.2.2.2.1), (cell_far (p := ⟨gx, _, none⟩) NBmx.out _).trans (hHeld.2.2.2.2.2.2)⟩ (fun hHeld => ?_)
      clear hK K
      have aH := Aside0.mk (blk_put (cs' := #[.int .i64 4, .int .i64 0, .int .i64 0, .string ⟨#[]⟩, .int .i64 0, .int .i64 0, .string ⟨#[]⟩, .int .i64 aw, .int .i64 0, .string ⟨#[]⟩, .int .i64 0, .string ⟨#[]⟩, .int .i64 0, .int .i64 0, .int .i64 0, .int .i64 ah, .int .i64 ak, .int .i64 0, .int .i64 0, .string aj, .string ⟨#[]⟩, .slice none 0 0, .int .i64 0, .string ⟨#[]⟩, .slice aI ab.length aJ]) BKx.out 19 (.string aj) rfl)
      have aK := Aside0.mk (blk_far (p := ⟨gx, 19, none⟩) BKm.out NBmx.out (.string aj))
      have aL := Aside0.mk (below_set (g := gx) (j := 19) (v := .string aj) HB.out GEx.out)
      clear BKx BKm HB
      have BKx := aH
      have BKm := aK
      have HB := aL
      clear aH aK aL
      generalize World.setCell _ _ _ = ij at BKx BKm HB hHeld ⊢
      refine pure_ (i := 22) (N := some 94) (v := ?_) (a' := ?_) #[true, true, true, true, true, true, true, true, true, true, true, true, true, true, true, true, true, true, true, true, true, true, true, false, false, false, false, false] rfl rfl (any_of HT_.out Z5) (fun _ _ _ h => h) (Or.inl ⟨Z13, ?_⟩) ?_ ?_
      rotate_left
      ·intro w'
       go_simp
       with_reducible rfl
      rotate_left
      ·simp only [Act.put, List.setIfInBounds_toArray, List.set_cons_zero, List.set_cons_succ, i64_w, i32_w]
       rfl
      refine one_ (i := 23) (N := none) #[true, true, true, true, true, true, true, true, true, true, true, true, true, true, true, true, true, true, true, true, true, true, true, true, false, false, false, false] rfl rfl (one_of HT_.out Z5) Z15 (fun K hK => ?_)
      have hs_ := (blk_cell BKx.out 12).trans (c := some (.int .i64 0)) rfl
      have hf_ := blk_frozen BKx.out 12
      refine skip_ (w1 := ?_) Z13 rfl ?_ ?_
      rotate_left
      ·go_simp
       rfl
      clear hs_ hf_
      refine hK.out _ _ ⟨(cell_far (p := ⟨gx, _, none⟩) NBmx.out _).trans (hHeld.1), (cell_far (p := ⟨gx, _, none⟩) NBmx.out _).trans (hHeld.2.1), (cell_far (p := ⟨gx, _, none⟩) NBmx.out _).trans (hHeld.2.2.1), (cell_far (p := ⟨gx, _, none⟩) NBmx.out _).trans (hHeld.2.2.2.1), (cell_far (p := ⟨gx, _, none⟩) NBmx.out _).trans (hHeld.2.2.2.2.1), (cell_far (p := ⟨gx, _, none⟩) NBmx.out _).trans (hHeld.2.2.2.2.2.1), (cell_far (p := ⟨gx, _, none⟩) NBmx.out _).trans (hHeld.2.2.2.2.2.2)⟩ (fun hHeld => ?_)
      clear hK K
      have aH := Aside0.mk (blk_put (cs' := #[.int .i64 4, .int .i64 0, .int .i64 0, .string ⟨#[]⟩, .int .i64 0, .int .i64 0, .string ⟨#[]⟩, .int .i64 aw, .int .i64 0, .string ⟨#[]⟩, .int .i64 0, .string ⟨#[]⟩, .int .i64 ag, .int .i64 0, .int .i64 0, .int .i64 ah, .int .i64 ak, .int .i64 0, .int .i64 0, .string aj, .string ⟨#[]⟩, .slice none 0 0, .int .i64 0, .string ⟨#[]⟩, .slice aI ab.length aJ]) BKx.out 12 (.int .i64 ag) rfl)
      have aK := Aside0.mk (blk_far (p := ⟨gx, 12, none⟩) BKm.out NBmx.out (.int .i64 ag))
      have aL := Aside0.mk (below_set (g := gx) (j := 12) (v := .int .i64 ag) HB.out GEx.out)
      clear BKx BKm HB
      have BKx := aH
      have BKm := aK
      have HB := aL
      clear aH aK aL
      generalize World.setCell _ _ _ = iv at BKx BKm HB hHeld ⊢
      refine pure_ (i := 24) (N := some 95) (v := ?_) (a' := ?_) #[true, true, true, true, true, true, true, true, true, true, true, true, true, true, true, true, true, true, true, true, true, true, true, true, true, false, false, false] rfl rfl (any_of HT_.out Z5) (fun _ _ _ h => h) (Or.inl ⟨Z13, ?_⟩) ?_ ?_
      rotate_left
      ·intro w'
       go_simp
       with_reducible rfl
      rotate_left
      ·simp only [Act.put, List.setIfInBounds_toArray, List.set_cons_zero, List.set_cons_succ, i64_w, i32_w]
       rfl
      refine one_ (i := 25) (N := none) #[true, true, true, true, true, true, true, true, true, true, true, true, true, true, true, true, true, true, true, true, true, true, true, true, true, true, false, false] rfl rfl (one_of HT_.out Z5) Z15 (fun K hK => ?_)
      have hs_ := (blk_cell BKx.out 20).trans (c := some (.string ⟨#[]⟩)) rfl
      have hf_ := blk_frozen BKx.out 20
      refine skip_ (w1 := ?_) Z13 rfl ?_ ?_
      rotate_left
      ·go_simp
       rfl
      clear hs_ hf_
      refine hK.out _ _ ⟨(cell_far (p := ⟨gx, _, none⟩) NBmx.out _).trans (hHeld.1), (cell_far (p := ⟨gx, _, none⟩) NBmx.out _).trans (hHeld.2.1), (cell_far (p := ⟨gx, _, none⟩) NBmx.out _).trans (hHeld.2.2.1), (cell_far (p := ⟨gx, _, none⟩) NBmx.out _).trans (hHeld.2.2.2.1), (cell_far (p := ⟨gx, _, none⟩) NBmx.out _).trans (hHeld.2.2.2.2.1), (cell_far (p := ⟨gx, _, none⟩) NBmx.out _).trans (hHeld.2.2.2.2.2.1), (cell_far (p := ⟨gx, _, none⟩) NBmx.out _).trans (hHeld.2.2.2.2.2.2)⟩ (fun hHeld => ?_)
      clear hK K
      have aH := Aside0.mk (blk_put (cs' := #[.int .i64 4, .int .i64 0, .int .i64 0, .string ⟨#[]⟩, .int .i64 0, .int .i64 0, .string ⟨#[]⟩, .int .i64 aw, .int .i64 0, .string ⟨#[]⟩, .int .i64 0, .string ⟨#[]⟩, .int .i64 ag, .int .i64 0, .int .i64 0, .int .i64 ah, .int .i64 ak, .int .i64 0, .int .i64 0, .string aj, .string am, .slice none 0 0, .int .i64 0, .string ⟨#[]⟩, .slice aI ab.length aJ]) BKx.out 20 (.string am) rfl)
      have aK := Aside0.mk (blk_far (p := ⟨gx, 20, none⟩) BKm.out NBmx.out (.string am))
      have aL := Aside0.mk (below_set (g := gx) (j := 20) (v := .string am) HB.out GEx.out)
      clear BKx BKm HB
      have BKx := aH
      have BKm := aK
      have HB := aL
      clear aH aK aL
      generalize World.setCell _ _ _ = iw at BKx BKm HB hHeld ⊢
      refine pure_ (i := 26) (N := some 96) (v := ?_) (a' := ?_) #[true, true, true, true, true, true, true, true, true, true, true, true, true, true, true, true, true, true, true, true, true, true, true, true, true, true, true, false] rfl rfl (any_of HT_.out Z5) (fun _ _ _ h => h) (Or.inl ⟨Z13, ?_⟩) ?_ ?_
      rotate_left
      ·intro w'
       go_simp
       with_reducible rfl
      rotate_left
      ·simp only [Act.put, List.setIfInBounds_toArray, List.set_cons_zero, List.set_cons_succ, i64_w, i32_w]
       rfl
      refine one_ (i := 27) (N := none) #[true, true, true, true, true, true, true, true, true, true, true, true, true, true, true, true, true, true, true, true, true, true, true, true, true, true, true, true] rfl rfl (one_of HT_.out Z5) Z15 (fun K hK => ?_)
      have hs_ := (blk_cell BKx.out 14).trans (c := some (.int .i64 0)) rfl
      have hf_ := blk_frozen BKx.out 14
      refine skip_ (w1 := ?_) Z13 rfl ?_ ?_
      rotate_left
      ·go_simp
       rfl
      clear hs_ hf_
      refine hK.out _ _ ⟨(cell_far (p := ⟨gx, _, none⟩) NBmx.out _).trans (hHeld.1), (cell_far (p := ⟨gx, _, none⟩) NBmx.out _).trans (hHeld.2.1), (cell_far (p := ⟨gx, _, none⟩) NBmx.out _).trans (hHeld.2.2.1), (cell_far (p := ⟨gx, _, none⟩) NBmx.out _).trans (hHeld.2.2.2.1), (cell_far (p := ⟨gx, _, none⟩) NBmx.out _).trans (hHeld.2.2.2.2.1), (cell_far (p := ⟨gx, _, none⟩) NBmx.out _).trans (hHeld.2.2.2.2.2.1), (cell_far (p := ⟨gx, _, none⟩) NBmx.out _).trans (hHeld.2.2.2.2.2.2)⟩ (fun hHeld => ?_)
      clear hK K
      have aH := Aside0.mk (blk_put (cs' := #[.int .i64 4, .int .i64 0, .int .i64 0, .string ⟨#[]⟩, .int .i64 0, .int .i64 0, .string ⟨#[]⟩, .int .i64 aw, .int .i64 0, .string ⟨#[]⟩, .int .i64 0, .string ⟨#[]⟩, .int .i64 ag, .int .i64 0, .int .i64 ai, .int .i64 ah, .int .i64 ak, .int .i64 0, .int .i64 0, .string aj, .string am, .slice none 0 0, .int .i64 0, .string ⟨#[]⟩, .slice aI ab.length aJ]) BKx.out 14 (.int .i64 ai) rfl)
      have aK := Aside0.mk (blk_far (p := ⟨gx, 14, none⟩) BKm.out NBmx.out (.int .i64 ai))
      have aL := Aside0.mk (below_set (g := gx) (j := 14) (v := .int .i64 ai) HB.out GEx.out)
      clear BKx BKm HB
      have BKx := aH
      have BKm := aK
      have HB := aL
      clear aH aK aL
      generalize World.setCell _ _ _ = iN at BKx BKm HB hHeld ⊢
      refine done_ (done_of HT_.out Z5) ?_
      go_wp2
      go_meet
      case rel => exact ⟨4, 0, 0, (⟨#[]⟩ : ByteArray), 0, 0, (⟨#[]⟩ : ByteArray), aw, 0, (⟨#[]⟩ : ByteArray), 0, (⟨#[]⟩ : ByteArray), ag, 0, ai, ah, ak, 0, 0, aj, am, ([] : List S61), none, 0, 0, (⟨#[]⟩ : ByteArray), ab, aI, aJ, HRES, ⟨BKm.out⟩, BKx, ⟨HB.out⟩, ⟨Kd.C_nil _ _⟩, ⟨Nat.le_refl 0⟩, ⟨Kd.C_below bW.out HB.out⟩, bU⟩
     ·by_cases c5 : aG = 5
      ·subst c5
       have HRES : Aside0 (roadbookref07_Same.f k 5 0 0 (⟨#[]⟩ : ByteArray) 0 0 (⟨#[]⟩ : ByteArray) 0 0 (⟨#[]⟩ : ByteArray) 0 (⟨#[]⟩ : ByteArray) 0 0 0 ah 0 0 0 (⟨#[]⟩ : ByteArray) (⟨#[]⟩ : ByteArray) af 0 (⟨#[]⟩ : ByteArray) ab 5 aA aB az aC av ax aw aD ay ap an ag aq ai ah ak al ao aj am af ar au ab = some r) := ⟨(roadbookref07_Bare.f5 k aA aB az aC av ax aw aD ay ap an ag aq ai ah ak al ao aj am af ar au ab).symm.trans cB.out⟩
       clear cB
       have hcm15 := (blk_cell BKm.out 15).trans rfl
       have hcm21 := (blk_cell BKm.out 21).trans rfl
       have hcx15 := (blk_cell BKx.out 15).trans rfl
       have hfx15 := blk_frozen BKx.out 15
       have hcx21 := (blk_cell BKx.out 21).trans rfl
       have hfx21 := blk_frozen BKx.out 21
       go_wp2
       have aH := Aside0.mk (blk_drew BKm.out)
       have aK := Aside0.mk (blk_drew BKx.out)
       have aL := Aside0.mk (below_drew1 HB.out)
       clear BKm BKx HB hcm15 hcm21 hcx15 hfx15 hcx21 hfx21 hcm0
       have BKm := aH
       have BKx := aK
       have HB := aL
       clear aH aK aL
       refine start_ (n := 8) (S := fun w' => w'.cell? ⟨gm, 15, none⟩ = some (.int .i64 ah) ∧ w'.cell? ⟨gm, 21, none⟩ = some (.slice bf af.length bg)) (ds := []) #[false, false, false, false, false, false, false, false] Z5 rfl rfl ⟨(blk_cell BKm.out 15).trans rfl, (blk_cell BKm.out 21).trans rfl⟩ (fun hHeld => ?_); refine with_tabW roadbookref07_Bare.tab13 roadbookref07_Bare.bits13 (fun HT_ HW_ => ?_)
       generalize World.drew _ = fV at BKm BKx HB hHeld ⊢
       refine pure_ (i := 0) (N := some 99) (v := ?_) (a' := ?_) #[true, false, false, false, false, false, false, false] rfl rfl (any_of HT_.out Z5) (fun _ _ _ h => h) (Or.inl ⟨Z13, ?_⟩) ?_ ?_
       rotate_left
       ·intro w'
        go_simp
        with_reducible rfl
       rotate_left
       ·simp only [Act.put, List.setIfInBounds_toArray, List.set_cons_zero, List.set_cons_succ, i64_w, i32_w]
        rfl
       refine pure_ (i := 2) (N := some 101) (v := ?_) (a' := ?_) #[true, false, true, false, false, false, false, false] rfl rfl (any_of HT_.out Z5) (fun _ _ _ h => h) (Or.inl ⟨Z13, ?_⟩) ?_ ?_
       rotate_left
       ·intro w'
        go_simp
        with_reducible rfl
       rotate_left
       ·simp only [Act.put, List.setIfInBounds_toArray, List.set_cons_zero, List.set_cons_succ, i64_w, i32_w]
        rfl
       refine take_ (i := 1) (N := some 100) (v := ?_) (a' := ?_) #[true, true, true, false, false, false, false, false] rfl rfl (take_ofW HT_.out HW_.out Z5) (fun _ _ _ h => h) (Or.inl ⟨Z13, ?_⟩) hHeld ?_ ?_
       rotate_left
       ·rintro w' ⟨s0, s1⟩
        go_simp
        with_reducible rfl
       rotate_left
       ·simp only [Act.put, List.setIfInBounds_toArray, List.set_cons_zero, List.set_cons_succ, i64_w, i32_w]
        rfl
       refine pure_ (i := 4) (N := some 103) (v := ?_) (a' := ?_) #[true, true, true, false, true, false, false, false] rfl rfl (any_of HT_.out Z5) (fun _ _ _ h => h) (Or.inl ⟨Z13, ?_⟩) ?_ ?_
       rotate_left
       ·intro w'
        go_simp
        with_reducible rfl
       rotate_left
       ·simp only [Act.put, List.setIfInBounds_toArray, List.set_cons_zero, List.set_cons_succ, i64_w, i32_w]
        rfl
       refine take_ (i := 3) (N := some 102) (v := ?_) (a' := ?_) #[true, true, true, true, true, false, false, false] rfl rfl (take_ofW HT_.out HW_.out Z5) (fun _ _ _ h => h) (Or.inl ⟨Z13, ?_⟩) hHeld ?_ ?_
       rotate_left
       ·rintro w' ⟨s0, s1⟩
        go_simp
        with_reducible rfl
       rotate_left
       ·simp only [Act.put, List.setIfInBounds_toArray, List.set_cons_zero, List.set_cons_succ, i64_w, i32_w]
        rfl
       refine one_ (i := 5) (N := none) #[true, true, true, true, true, true, false, false] rfl rfl (one_of HT_.out Z5) Z15 (fun K hK => ?_)
       have hs_ := (blk_cell BKx.out 15).trans (c := some (.int .i64 0)) rfl
       have hf_ := blk_frozen BKx.out 15
       refine skip_ (w1 := ?_) Z13 rfl ?_ ?_
       rotate_left
       ·go_simp
        rfl
       clear hs_ hf_
       refine hK.out _ _ ⟨(cell_far (p := ⟨gx, _, none⟩) NBmx.out _).trans (hHeld.1), (cell_far (p := ⟨gx, _, none⟩) NBmx.out _).trans (hHeld.2)⟩ (fun hHeld => ?_)
       clear hK K
       have aH := Aside0.mk (blk_put (cs' := #[.int .i64 5, .int .i64 0, .int .i64 0, .string ⟨#[]⟩, .int .i64 0, .int .i64 0, .string ⟨#[]⟩, .int .i64 0, .int .i64 0, .string ⟨#[]⟩, .int .i64 0, .string ⟨#[]⟩, .int .i64 0, .int .i64 0, .int .i64 0, .int .i64 ah, .int .i64 0, .int .i64 0, .int .i64 0, .string ⟨#[]⟩, .string ⟨#[]⟩, .slice none 0 0, .int .i64 0, .string ⟨#[]⟩, .slice aI ab.length aJ]) BKx.out 15 (.int .i64 ah) rfl)
       have aK := Aside0.mk (blk_far (p := ⟨gx, 15, none⟩) BKm.out NBmx.out (.int .i64 ah))
       have aL := Aside0.mk (below_set (g := gx) (j := 15) (v := .int .i64 ah) HB.out GEx.out)
       clear BKx BKm HB
       have BKx := aH
       have BKm := aK
       have HB := aL
       clear aH aK aL
       generalize World.setCell _ _ _ = fW at BKx BKm HB hHeld ⊢
       refine pure_ (i := 6) (N := some 104) (v := ?_) (a' := ?_) #[true, true, true, true, true, true, true, false] rfl rfl (any_of HT_.out Z5) (fun _ _ _ h => h) (Or.inl ⟨Z13, ?_⟩) ?_ ?_
       rotate_left
       ·intro w'
        go_simp
        with_reducible rfl
       rotate_left
       ·simp only [Act.put, List.setIfInBounds_toArray, List.set_cons_zero, List.set_cons_succ, i64_w, i32_w]
        rfl
       refine one_ (i := 7) (N := none) #[true, true, true, true, true, true, true, true] rfl rfl (one_of HT_.out Z5) Z15 (fun K hK => ?_)
       have hs_ := (blk_cell BKx.out 21).trans (c := some (.slice none 0 0)) rfl
       have hf_ := blk_frozen BKx.out 21
       refine skip_ (w1 := ?_) Z13 rfl ?_ ?_
       rotate_left
       ·go_simp
        rfl
       clear hs_ hf_
       refine hK.out _ _ ⟨(cell_far (p := ⟨gx, _, none⟩) NBmx.out _).trans (hHeld.1), (cell_far (p := ⟨gx, _, none⟩) NBmx.out _).trans (hHeld.2)⟩ (fun hHeld => ?_)
       clear hK K
       have aH := Aside0.mk (blk_put (cs' := #[.int .i64 5, .int .i64 0, .int .i64 0, .string ⟨#[]⟩, .int .i64 0, .int .i64 0, .string ⟨#[]⟩, .int .i64 0, .int .i64 0, .string ⟨#[]⟩, .int .i64 0, .string ⟨#[]⟩, .int .i64 0, .int .i64 0, .int .i64 0, .int .i64 ah, .int .i64 0, .int .i64 0, .int .i64 0, .string ⟨#[]⟩, .string ⟨#[]⟩, .slice bf af.length bg, .int .i64 0, .string ⟨#[]⟩, .slice aI ab.length aJ]) BKx.out 21 (.slice bf af.length bg) rfl)
       have aK := Aside0.mk (blk_far (p := ⟨gx, 21, none⟩) BKm.out NBmx.out (.slice bf af.length bg))
       have aL := Aside0.mk (below_set (g := gx) (j := 21) (v := .slice bf af.length bg) HB.out GEx.out)
       clear BKx BKm HB
       have BKx := aH
       have BKm := aK
       have HB := aL
       clear aH aK aL
       generalize World.setCell _ _ _ = fX at BKx BKm HB hHeld ⊢
       refine done_ (done_of HT_.out Z5) ?_
       go_wp2
       go_meet
       case rel => exact ⟨5, 0, 0, (⟨#[]⟩ : ByteArray), 0, 0, (⟨#[]⟩ : ByteArray), 0, 0, (⟨#[]⟩ : ByteArray), 0, (⟨#[]⟩ : ByteArray), 0, 0, 0, ah, 0, 0, 0, (⟨#[]⟩ : ByteArray), (⟨#[]⟩ : ByteArray), af, bf, bg, 0, (⟨#[]⟩ : ByteArray), ab, aI, aJ, HRES, ⟨BKm.out⟩, BKx, ⟨HB.out⟩, ⟨Kd.C_below da.out HB.out⟩, cF, ⟨Kd.C_below bW.out HB.out⟩, bU⟩
      ·by_cases c6 : aG = 6
       ·subst c6
        have HRES : Aside0 (roadbookref07_Same.f k 6 0 0 (⟨#[]⟩ : ByteArray) 0 0 (⟨#[]⟩ : ByteArray) 0 0 (⟨#[]⟩ : ByteArray) 0 (⟨#[]⟩ : ByteArray) 0 0 0 0 0 0 0 (⟨#[]⟩ : ByteArray) (⟨#[]⟩ : ByteArray) ([] : List S61) 0 (⟨#[]⟩ : ByteArray) ab 6 aA aB az aC av ax aw aD ay ap an ag aq ai ah ak al ao aj am af ar au ab = some r) := ⟨(roadbookref07_Bare.f6 k aA aB az aC av ax aw aD ay ap an ag aq ai ah ak al ao aj am af ar au ab).symm.trans cB.out⟩
        clear cB
        go_wp2
        go_meet
        case rel => exact ⟨6, 0, 0, (⟨#[]⟩ : ByteArray), 0, 0, (⟨#[]⟩ : ByteArray), 0, 0, (⟨#[]⟩ : ByteArray), 0, (⟨#[]⟩ : ByteArray), 0, 0, 0, 0, 0, 0, 0, (⟨#[]⟩ : ByteArray), (⟨#[]⟩ : ByteArray), ([] : List S61), none, 0, 0, (⟨#[]⟩ : ByteArray), ab, aI, aJ, HRES, ⟨BKm.out⟩, BKx, ⟨HB.out⟩, ⟨Kd.C_nil _ _⟩, ⟨Nat.le_refl 0⟩, ⟨Kd.C_below bW.out HB.out⟩, bU⟩
       ·by_cases c7 : aG = 7
        ·subst c7
         have HRES : Aside0 (roadbookref07_Same.f k 7 0 0 (⟨#[]⟩ : ByteArray) 0 0 (⟨#[]⟩ : ByteArray) 0 0 (⟨#[]⟩ : ByteArray) 0 (⟨#[]⟩ : ByteArray) 0 0 ai 0 0 al 0 (⟨#[]⟩ : ByteArray) (⟨#[]⟩ : ByteArray) ([] : List S61) 0 (⟨#[]⟩ : ByteArray) ab 7 aA aB az aC av ax aw aD ay ap an ag aq ai ah ak al ao aj am af ar au ab = some r) := ⟨(roadbookref07_Bare.f7 k aA aB az aC av ax aw aD ay ap an ag aq ai ah ak al ao aj am af ar au ab).symm.trans cB.out⟩
         clear cB
         have hcm14 := (blk_cell BKm.out 14).trans rfl
         have hcm17 := (blk_cell BKm.out 17).trans rfl
         have hcx14 := (blk_cell BKx.out 14).trans rfl
         have hfx14 := blk_frozen BKx.out 14
         have hcx17 := (blk_cell BKx.out 17).trans rfl
         have hfx17 := blk_frozen BKx.out 17
         go_wp2
         have aH := Aside0.mk (blk_drew BKm.out)
         have aK := Aside0.mk (blk_drew BKx.out)
         have aL := Aside0.mk (below_drew1 HB.out)
         clear BKm BKx HB hcm14 hcm17 hcx14 hfx14 hcx17 hfx17 hcm0
         have BKm := aH
         have BKx := aK
         have HB := aL
         clear aH aK aL
         refine start_ (n := 8) (S := fun w' => w'.cell? ⟨gm, 17, none⟩ = some (.int .i64 al) ∧ w'.cell? ⟨gm, 14, none⟩ = some (.int .i64 ai)) (ds := []) #[false, false, false, false, false, false, false, false] Z5 rfl rfl ⟨(blk_cell BKm.out 17).trans rfl, (blk_cell BKm.out 14).trans rfl⟩ (fun hHeld => ?_); refine with_tabW roadbookref07_Bare.tab16 roadbookref07_Bare.bits16 (fun HT_ HW_ => ?_)
         generalize World.drew _ = fV at BKm BKx HB hHeld ⊢
         refine pure_ (i := 0) (N := some 109) (v := ?_) (a' := ?_) #[true, false, false, false, false, false, false, false] rfl rfl (any_of HT_.out Z5) (fun _ _ _ h => h) (Or.inl ⟨Z13, ?_⟩) ?_ ?_
         rotate_left
         ·intro w'
          go_simp
          with_reducible rfl
         rotate_left
         ·simp only [Act.put, List.setIfInBounds_toArray, List.set_cons_zero, List.set_cons_succ, i64_w, i32_w]
          rfl
         refine pure_ (i := 2) (N := some 111) (v := ?_) (a' := ?_) #[true, false, true, false, false, false, false, false] rfl rfl (any_of HT_.out Z5) (fun _ _ _ h => h) (Or.inl ⟨Z13, ?_⟩) ?_ ?_
         rotate_left
         ·intro w'
          go_simp
          with_reducible rfl
         rotate_left
         ·simp only [Act.put, List.setIfInBounds_toArray, List.set_cons_zero, List.set_cons_succ, i64_w, i32_w]
          rfl
         refine take_ (i := 1) (N := some 110) (v := ?_) (a' := ?_) #[true, true, true, false, false, false, false, false] rfl rfl (take_ofW HT_.out HW_.out Z5) (fun _ _ _ h => h) (Or.inl ⟨Z13, ?_⟩) hHeld ?_ ?_
         rotate_left
         ·rintro w' ⟨s0, s1⟩
          go_simp
          with_reducible rfl
         rotate_left
         ·simp only [Act.put, List.setIfInBounds_toArray, List.set_cons_zero, List.set_cons_succ, i64_w, i32_w]
          rfl
         refine pure_ (i := 4) (N := some 113) (v := ?_) (a' := ?_) #[true, true, true, false, true, false, false, false] rfl rfl (any_of HT_.out Z5) (fun _ _ _ h => h) (Or.inl ⟨Z13, ?_⟩) ?_ ?_
         rotate_left
         ·intro w'
          go_simp
          with_reducible rfl
         rotate_left
         ·simp only [Act.put, List.setIfInBounds_toArray, List.set_cons_zero, List.set_cons_succ, i64_w, i32_w]
          rfl
         refine take_ (i := 3) (N := some 112) (v := ?_) (a' := ?_) #[true, true, true, true, true, false, false, false] rfl rfl (take_ofW HT_.out HW_.out Z5) (fun _ _ _ h => h) (Or.inl ⟨Z13, ?_⟩) hHeld ?_ ?_
         rotate_left
         ·rintro w' ⟨s0, s1⟩
          go_simp
          with_reducible rfl
         rotate_left
         ·simp only [Act.put, List.setIfInBounds_toArray, List.set_cons_zero, List.set_cons_succ, i64_w, i32_w]
          rfl
         refine one_ (i := 5) (N := none) #[true, true, true, true, true, true, false, false] rfl rfl (one_of HT_.out Z5) Z15 (fun K hK => ?_)
         have hs_ := (blk_cell BKx.out 17).trans (c := some (.int .i64 0)) rfl
         have hf_ := blk_frozen BKx.out 17
         refine skip_ (w1 := ?_) Z13 rfl ?_ ?_
         rotate_left
         ·go_simp
          rfl
         clear hs_ hf_
         refine hK.out _ _ ⟨(cell_far (p := ⟨gx, _, none⟩) NBmx.out _).trans (hHeld.1), (cell_far (p := ⟨gx, _, none⟩) NBmx.out _).trans (hHeld.2)⟩ (fun hHeld => ?_)
         clear hK K
         have aH := Aside0.mk (blk_put (cs' := #[.int .i64 7, .int .i64 0, .int .i64 0, .string ⟨#[]⟩, .int .i64 0, .int .i64 0, .string ⟨#[]⟩, .int .i64 0, .int .i64 0, .string ⟨#[]⟩, .int .i64 0, .string ⟨#[]⟩, .int .i64 0, .int .i64 0, .int .i64 0, .int .i64 0, .int .i64 0, .int .i64 al, .int .i64 0, .string ⟨#[]⟩, .string ⟨#[]⟩, .slice none 0 0, .int .i64 0, .string ⟨#[]⟩, .slice aI ab.length aJ]) BKx.out 17 (.int .i64 al) rfl)
         have aK := Aside0.mk (blk_far (p := ⟨gx, 17, none⟩) BKm.out NBmx.out (.int .i64 al))
         have aL := Aside0.mk (below_set (g := gx) (j := 17) (v := .int .i64 al) HB.out GEx.out)
         clear BKx BKm HB
         have BKx := aH
         have BKm := aK
         have HB := aL
         clear aH aK aL
         generalize World.setCell _ _ _ = fW at BKx BKm HB hHeld ⊢
         refine pure_ (i := 6) (N := some 114) (v := ?_) (a' := ?_) #[true, true, true, true, true, true, true, false] rfl rfl (any_of HT_.out Z5) (fun _ _ _ h => h) (Or.inl ⟨Z13, ?_⟩) ?_ ?_
         rotate_left
         ·intro w'
          go_simp
          with_reducible rfl
         rotate_left
         ·simp only [Act.put, List.setIfInBounds_toArray, List.set_cons_zero, List.set_cons_succ, i64_w, i32_w]
          rfl
         refine one_ (i := 7) (N := none) #[true, true, true, true, true, true, true, true] rfl rfl (one_of HT_.out Z5) Z15 (fun K hK => ?_)
         have hs_ := (blk_cell BKx.out 14).trans (c := some (.int .i64 0)) rfl
         have hf_ := blk_frozen BKx.out 14
         refine skip_ (w1 := ?_) Z13 rfl ?_ ?_
         rotate_left
         ·go_simp
          rfl
         clear hs_ hf_
         refine hK.out _ _ ⟨(cell_far (p := ⟨gx, _, none⟩) NBmx.out _).trans (hHeld.1), (cell_far (p := ⟨gx, _, none⟩) NBmx.out _).trans (hHeld.2)⟩ (fun hHeld => ?_)
         clear hK K
         have aH := Aside0.mk (blk_put (cs' := #[.int .i64 7, .int .i64 0, .int .i64 0, .string ⟨#[]⟩, .int .i64 0, .int .i64 0, .string ⟨#[]⟩, .int .i64 0, .int .i64 0, .string ⟨#[]⟩, .int .i64 0, .string ⟨#[]⟩, .int .i64 0, .int .i64 0, .int .i64 ai, .int .i64 0, .int .i64 0, .int .i64 al, .int .i64 0, .string ⟨#[]⟩, .string ⟨#[]⟩, .slice none 0 0, .int .i64 0, .string ⟨#[]⟩, .slice aI ab.length aJ]) BKx.out 14 (.int .i64 ai) rfl)
         have aK := Aside0.mk (blk_far (p := ⟨gx, 14, none⟩) BKm.out NBmx.out (.int .i64 ai))
         have aL := Aside0.mk (below_set (g := gx) (j := 14) (v := .int .i64 ai) HB.out GEx.out)
         clear BKx BKm HB
         have BKx := aH
         have BKm := aK
         have HB := aL
         clear aH aK aL
         generalize World.setCell _ _ _ = fX at BKx BKm HB hHeld ⊢
         refine done_ (done_of HT_.out Z5) ?_
         go_wp2
         go_meet
         case rel => exact ⟨7, 0, 0, (⟨#[]⟩ : ByteArray), 0, 0, (⟨#[]⟩ : ByteArray), 0, 0, (⟨#[]⟩ : ByteArray), 0, (⟨#[]⟩ : ByteArray), 0, 0, ai, 0, 0, al, 0, (⟨#[]⟩ : ByteArray), (⟨#[]⟩ : ByteArray), ([] : List S61), none, 0, 0, (⟨#[]⟩ : ByteArray), ab, aI, aJ, HRES, ⟨BKm.out⟩, BKx, ⟨HB.out⟩, ⟨Kd.C_nil _ _⟩, ⟨Nat.le_refl 0⟩, ⟨Kd.C_below bW.out HB.out⟩, bU⟩
        ·by_cases c8 : aG = 8
         ·subst c8
          have HRES : Aside0 (roadbookref07_Same.f k 8 0 0 (⟨#[]⟩ : ByteArray) 0 0 (⟨#[]⟩ : ByteArray) 0 0 (⟨#[]⟩ : ByteArray) 0 (⟨#[]⟩ : ByteArray) 0 0 0 0 0 al 0 (⟨#[]⟩ : ByteArray) (⟨#[]⟩ : ByteArray) ([] : List S61) 0 (⟨#[]⟩ : ByteArray) ab 8 aA aB az aC av ax aw aD ay ap an ag aq ai ah ak al ao aj am af ar au ab = some r) := ⟨(roadbookref07_Bare.f8 k aA aB az aC av ax aw aD ay ap an ag aq ai ah ak al ao aj am af ar au ab).symm.trans cB.out⟩
          clear cB
          have hcm17 := (blk_cell BKm.out 17).trans rfl
          have hcx17 := (blk_cell BKx.out 17).trans rfl
          have hfx17 := blk_frozen BKx.out 17
          go_wp2
          go_meet
          case rel => exact ⟨8, 0, 0, (⟨#[]⟩ : ByteArray), 0, 0, (⟨#[]⟩ : ByteArray), 0, 0, (⟨#[]⟩ : ByteArray), 0, (⟨#[]⟩ : ByteArray), 0, 0, 0, 0, 0, al, 0, (⟨#[]⟩ : ByteArray), (⟨#[]⟩ : ByteArray), ([] : List S61), none, 0, 0, (⟨#[]⟩ : ByteArray), ab, aI, aJ, HRES, ⟨(blk_far (p := ⟨gx, 17, none⟩) BKm.out NBmx.out (.int .i64 al))⟩, ⟨Pre.heap_norm (blk_set BKx.out 17 (.int .i64 al)) (by simp only [List.setIfInBounds_toArray, List.set_cons_zero, List.set_cons_succ, List.length_nil])⟩, ⟨(below_set (g := gx) (j := 17) (v := .int .i64 al) HB.out GEx.out)⟩, ⟨Kd.C_nil _ _⟩, ⟨Nat.le_refl 0⟩, ⟨Kd.C_below bW.out (below_set (g := gx) (j := 17) (v := .int .i64 al) HB.out GEx.out)⟩, bU⟩
         ·by_cases c9 : aG = 9
          ·subst c9
           have HRES : Aside0 (roadbookref07_Same.f k 9 0 0 (⟨#[]⟩ : ByteArray) 0 0 (⟨#[]⟩ : ByteArray) 0 0 (⟨#[]⟩ : ByteArray) 0 (⟨#[]⟩ : ByteArray) ag 0 ai ah 0 0 0 (⟨#[]⟩ : ByteArray) (⟨#[]⟩ : ByteArray) ([] : List S61) 0 (⟨#[]⟩ : ByteArray) ab 9 aA aB az aC av ax aw aD ay ap an ag aq ai ah ak al ao aj am af ar au ab = some r) := ⟨(roadbookref07_Bare.f9 k aA aB az aC av ax aw aD ay ap an ag aq ai ah ak al ao aj am af ar au ab).symm.trans cB.out⟩
           clear cB
           have hcm12 := (blk_cell BKm.out 12).trans rfl
           have hcm14 := (blk_cell BKm.out 14).trans rfl
           have hcm15 := (blk_cell BKm.out 15).trans rfl
           have hcx12 := (blk_cell BKx.out 12).trans rfl
           have hfx12 := blk_frozen BKx.out 12
           have hcx14 := (blk_cell BKx.out 14).trans rfl
           have hfx14 := blk_frozen BKx.out 14
           have hcx15 := (blk_cell BKx.out 15).trans rfl
           have hfx15 := blk_frozen BKx.out 15
           go_wp2
           have aH := Aside0.mk (blk_drew BKm.out)
           have aK := Aside0.mk (blk_drew BKx.out)
           have aL := Aside0.mk (below_drew1 HB.out)
           clear BKm BKx HB hcm12 hcm14 hcm15 hcx12 hfx12 hcx14 hfx14 hcx15 hfx15 hcm0
           have BKm := aH
           have BKx := aK
           have HB := aL
           clear aH aK aL
           refine start_ (n := 12) (S := fun w' => w'.cell? ⟨gm, 15, none⟩ = some (.int .i64 ah) ∧ w'.cell? ⟨gm, 12, none⟩ = some (.int .i64 ag) ∧ w'.cell? ⟨gm, 14, none⟩ = some (.int .i64 ai)) (ds := []) #[false, false, false, false, false, false, false, false, false, false, false, false] Z5 rfl rfl ⟨(blk_cell BKm.out 15).trans rfl, (blk_cell BKm.out 12).trans rfl, (blk_cell BKm.out 14).trans rfl⟩ (fun hHeld => ?_); refine with_tabW roadbookref07_Bare.tab20 roadbookref07_Bare.bits20 (fun HT_ HW_ => ?_)
           generalize World.drew _ = fV at BKm BKx HB hHeld ⊢
           refine pure_ (i := 0) (N := some 122) (v := ?_) (a' := ?_) #[true, false, false, false, false, false, false, false, false, false, false, false] rfl rfl (any_of HT_.out Z5) (fun _ _ _ h => h) (Or.inl ⟨Z13, ?_⟩) ?_ ?_
           rotate_left
           ·intro w'
            go_simp
            with_reducible rfl
           rotate_left
           ·simp only [Act.put, List.setIfInBounds_toArray, List.set_cons_zero, List.set_cons_succ, i64_w, i32_w]
            rfl
           refine pure_ (i := 2) (N := some 124) (v := ?_) (a' := ?_) #[true, false, true, false, false, false, false, false, false, false, false, false] rfl rfl (any_of HT_.out Z5) (fun _ _ _ h => h) (Or.inl ⟨Z13, ?_⟩) ?_ ?_
           rotate_left
           ·intro w'
            go_simp
            with_reducible rfl
           rotate_left
           ·simp only [Act.put, List.setIfInBounds_toArray, List.set_cons_zero, List.set_cons_succ, i64_w, i32_w]
            rfl
           refine pure_ (i := 4) (N := some 126) (v := ?_) (a' := ?_) #[true, false, true, false, true, false, false, false, false, false, false, false] rfl rfl (any_of HT_.out Z5) (fun _ _ _ h => h) (Or.inl ⟨Z13, ?_⟩) ?_ ?_
           rotate_left
           ·intro w'
            go_simp
            with_reducible rfl
           rotate_left
           ·simp only [Act.put, List.setIfInBounds_toArray, List.set_cons_zero, List.set_cons_succ, i64_w, i32_w]
            rfl
           refine take_ (i := 1) (N := some 123) (v := ?_) (a' := ?_) #[true, true, true, false, true, false, false, false, false, false, false, false] rfl rfl (take_ofW HT_.out HW_.out Z5) (fun _ _ _ h => h) (Or.inl ⟨Z13, ?_⟩) hHeld ?_ ?_
           rotate_left
           ·rintro w' ⟨s0, s1, s2⟩
            go_simp
            with_reducible rfl
           rotate_left
           ·simp only [Act.put, List.setIfInBounds_toArray, List.set_cons_zero, List.set_cons_succ, i64_w, i32_w]
            rfl
           refine pure_ (i := 6) (N := some 128) (v := ?_) (a' := ?_) #[true, true, true, false, true, false, true, false, false, false, false, false] rfl rfl (any_of HT_.out Z5) (fun _ _ _ h => h) (Or.inl ⟨Z13, ?_⟩) ?_ ?_
           rotate_left
           ·intro w'
            go_simp
            with_reducible rfl
           rotate_left
           ·simp only [Act.put, List.setIfInBounds_toArray, List.set_cons_zero, List.set_cons_succ, i64_w, i32_w]
            rfl
           refine take_ (i := 3) (N := some 125) (v := ?_) (a' := ?_) #[true, true, true, true, true, false, true, false, false, false, false, false] rfl rfl (take_ofW HT_.out HW_.out Z5) (fun _ _ _ h => h) (Or.inl ⟨Z13, ?_⟩) hHeld ?_ ?_
           rotate_left
           ·rintro w' ⟨s0, s1, s2⟩
            go_simp
            with_reducible rfl
           rotate_left
           ·simp only [Act.put, List.setIfInBounds_toArray, List.set_cons_zero, List.set_cons_succ, i64_w, i32_w]
            rfl
           refine take_ (i := 5) (N := some 127) (v := ?_) (a' := ?_) #[true, true, true, true, true, true, true, false, false, false, false, false] rfl rfl (take_ofW HT_.out HW_.out Z5) (fun _ _ _ h => h) (Or.inl ⟨Z13, ?_⟩) hHeld ?_ ?_
           rotate_left
           ·rintro w' ⟨s0, s1, s2⟩
            go_simp
            with_reducible rfl
           rotate_left
           ·simp only [Act.put, List.setIfInBounds_toArray, List.set_cons_zero, List.set_cons_succ, i64_w, i32_w]
            rfl
           refine one_ (i := 7) (N := none) #[true, true, true, true, true, true, true, true, false, false, false, false] rfl rfl (one_of HT_.out Z5) Z15 (fun K hK => ?_)
           have hs_ := (blk_cell BKx.out 15).trans (c := some (.int .i64 0)) rfl
           have hf_ := blk_frozen BKx.out 15
           refine skip_ (w1 := ?_) Z13 rfl ?_ ?_
           rotate_left
           ·go_simp
            rfl
           clear hs_ hf_
           refine hK.out _ _ ⟨(cell_far (p := ⟨gx, _, none⟩) NBmx.out _).trans (hHeld.1), (cell_far (p := ⟨gx, _, none⟩) NBmx.out _).trans (hHeld.2.1), (cell_far (p := ⟨gx, _, none⟩) NBmx.out _).trans (hHeld.2.2)⟩ (fun hHeld => ?_)
           clear hK K
           have aH := Aside0.mk (blk_put (cs' := #[.int .i64 9, .int .i64 0, .int .i64 0, .string ⟨#[]⟩, .int .i64 0, .int .i64 0, .string ⟨#[]⟩, .int .i64 0, .int .i64 0, .string ⟨#[]⟩, .int .i64 0, .string ⟨#[]⟩, .int .i64 0, .int .i64 0, .int .i64 0, .int .i64 ah, .int .i64 0, .int .i64 0, .int .i64 0, .string ⟨#[]⟩, .string ⟨#[]⟩, .slice none 0 0, .int .i64 0, .string ⟨#[]⟩, .slice aI ab.length aJ]) BKx.out 15 (.int .i64 ah) rfl)
           have aK := Aside0.mk (blk_far (p := ⟨gx, 15, none⟩) BKm.out NBmx.out (.int .i64 ah))
           have aL := Aside0.mk (below_set (g := gx) (j := 15) (v := .int .i64 ah) HB.out GEx.out)
           clear BKx BKm HB
           have BKx := aH
           have BKm := aK
           have HB := aL
           clear aH aK aL
           generalize World.setCell _ _ _ = fW at BKx BKm HB hHeld ⊢
           refine pure_ (i := 8) (N := some 129) (v := ?_) (a' := ?_) #[true, true, true, true, true, true, true, true, true, false, false, false] rfl rfl (any_of HT_.out Z5) (fun _ _ _ h => h) (Or.inl ⟨Z13, ?_⟩) ?_ ?_
           rotate_left
           ·intro w'
            go_simp
            with_reducible rfl
           rotate_left
           ·simp only [Act.put, List.setIfInBounds_toArray, List.set_cons_zero, List.set_cons_succ, i64_w, i32_w]
            rfl
           refine one_ (i := 9) (N := none) #[true, true, true, true, true, true, true, true, true, true, false, false] rfl rfl (one_of HT_.out Z5) Z15 (fun K hK => ?_)
           have hs_ := (blk_cell BKx.out 12).trans (c := some (.int .i64 0)) rfl
           have hf_ := blk_frozen BKx.out 12
           refine skip_ (w1 := ?_) Z13 rfl ?_ ?_
           rotate_left
           ·go_simp
            rfl
           clear hs_ hf_
           refine hK.out _ _ ⟨(cell_far (p := ⟨gx, _, none⟩) NBmx.out _).trans (hHeld.1), (cell_far (p := ⟨gx, _, none⟩) NBmx.out _).trans (hHeld.2.1), (cell_far (p := ⟨gx, _, none⟩) NBmx.out _).trans (hHeld.2.2)⟩ (fun hHeld => ?_)
           clear hK K
           have aH := Aside0.mk (blk_put (cs' := #[.int .i64 9, .int .i64 0, .int .i64 0, .string ⟨#[]⟩, .int .i64 0, .int .i64 0, .string ⟨#[]⟩, .int .i64 0, .int .i64 0, .string ⟨#[]⟩, .int .i64 0, .string ⟨#[]⟩, .int .i64 ag, .int .i64 0, .int .i64 0, .int .i64 ah, .int .i64 0, .int .i64 0, .int .i64 0, .string ⟨#[]⟩, .string ⟨#[]⟩, .slice none 0 0, .int .i64 0, .string ⟨#[]⟩, .slice aI ab.length aJ]) BKx.out 12 (.int .i64 ag) rfl)
           have aK := Aside0.mk (blk_far (p := ⟨gx, 12, none⟩) BKm.out NBmx.out (.int .i64 ag))
           have aL := Aside0.mk (below_set (g := gx) (j := 12) (v := .int .i64 ag) HB.out GEx.out)
           clear BKx BKm HB
           have BKx := aH
           have BKm := aK
           have HB := aL
           clear aH aK aL
           generalize World.setCell _ _ _ = fX at BKx BKm HB hHeld ⊢
           refine pure_ (i := 10) (N := some 130) (v := ?_) (a' := ?_) #[true, true, true, true, true, true, true, true, true, true, true, false] rfl rfl (any_of HT_.out Z5) (fun _ _ _ h => h) (Or.inl ⟨Z13, ?_⟩) ?_ ?_
           rotate_left
           ·intro w'
            go_simp
            with_reducible rfl
           rotate_left
           ·simp only [Act.put, List.setIfInBounds_toArray, List.set_cons_zero, List.set_cons_succ, i64_w, i32_w]
            rfl
           refine one_ (i := 11) (N := none) #[true, true, true, true, true, true, true, true, true, true, true, true] rfl rfl (one_of HT_.out Z5) Z15 (fun K hK => ?_)
           have hs_ := (blk_cell BKx.out 14).trans (c := some (.int .i64 0)) rfl
           have hf_ := blk_frozen BKx.out 14
           refine skip_ (w1 := ?_) Z13 rfl ?_ ?_
           rotate_left
           ·go_simp
            rfl
           clear hs_ hf_
           refine hK.out _ _ ⟨(cell_far (p := ⟨gx, _, none⟩) NBmx.out _).trans (hHeld.1), (cell_far (p := ⟨gx, _, none⟩) NBmx.out _).trans (hHeld.2.1), (cell_far (p := ⟨gx, _, none⟩) NBmx.out _).trans (hHeld.2.2)⟩ (fun hHeld => ?_)
           clear hK K
           have aH := Aside0.mk (blk_put (cs' := #[.int .i64 9, .int .i64 0, .int .i64 0, .string ⟨#[]⟩, .int .i64 0, .int .i64 0, .string ⟨#[]⟩, .int .i64 0, .int .i64 0, .string ⟨#[]⟩, .int .i64 0, .string ⟨#[]⟩, .int .i64 ag, .int .i64 0, .int .i64 ai, .int .i64 ah, .int .i64 0, .int .i64 0, .int .i64 0, .string ⟨#[]⟩, .string ⟨#[]⟩, .slice none 0 0, .int .i64 0, .string ⟨#[]⟩, .slice aI ab.length aJ]) BKx.out 14 (.int .i64 ai) rfl)
           have aK := Aside0.mk (blk_far (p := ⟨gx, 14, none⟩) BKm.out NBmx.out (.int .i64 ai))
           have aL := Aside0.mk (below_set (g := gx) (j := 14) (v := .int .i64 ai) HB.out GEx.out)
           clear BKx BKm HB
           have BKx := aH
           have BKm := aK
           have HB := aL
           clear aH aK aL
           generalize World.setCell _ _ _ = hB at BKx BKm HB hHeld ⊢
           refine done_ (done_of HT_.out Z5) ?_
           go_wp2
           go_meet
           case rel => exact ⟨9, 0, 0, (⟨#[]⟩ : ByteArray), 0, 0, (⟨#[]⟩ : ByteArray), 0, 0, (⟨#[]⟩ : ByteArray), 0, (⟨#[]⟩ : ByteArray), ag, 0, ai, ah, 0, 0, 0, (⟨#[]⟩ : ByteArray), (⟨#[]⟩ : ByteArray), ([] : List S61), none, 0, 0, (⟨#[]⟩ : ByteArray), ab, aI, aJ, HRES, ⟨BKm.out⟩, BKx, ⟨HB.out⟩, ⟨Kd.C_nil _ _⟩, ⟨Nat.le_refl 0⟩, ⟨Kd.C_below bW.out HB.out⟩, bU⟩
          ·by_cases dx : aG = 10
           ·subst dx
            have HRES : Aside0 (roadbookref07_Same.f k 10 0 0 (⟨#[]⟩ : ByteArray) 0 av (⟨#[]⟩ : ByteArray) 0 0 (⟨#[]⟩ : ByteArray) 0 (⟨#[]⟩ : ByteArray) 0 0 ai 0 0 0 ao aj (⟨#[]⟩ : ByteArray) ([] : List S61) 0 (⟨#[]⟩ : ByteArray) ab 10 aA aB az aC av ax aw aD ay ap an ag aq ai ah ak al ao aj am af ar au ab = some r) := ⟨(roadbookref07_Bare.f10 k aA aB az aC av ax aw aD ay ap an ag aq ai ah ak al ao aj am af ar au ab).symm.trans cB.out⟩
            clear cB
            have hcm5 := (blk_cell BKm.out 5).trans rfl
            have hcm14 := (blk_cell BKm.out 14).trans rfl
            have hcm18 := (blk_cell BKm.out 18).trans rfl
            have hcm19 := (blk_cell BKm.out 19).trans rfl
            have hcx5 := (blk_cell BKx.out 5).trans rfl
            have hfx5 := blk_frozen BKx.out 5
            have hcx14 := (blk_cell BKx.out 14).trans rfl
            have hfx14 := blk_frozen BKx.out 14
            have hcx18 := (blk_cell BKx.out 18).trans rfl
            have hfx18 := blk_frozen BKx.out 18
            have hcx19 := (blk_cell BKx.out 19).trans rfl
            have hfx19 := blk_frozen BKx.out 19
            go_wp2
            have aH := Aside0.mk (blk_drew BKm.out)
            have aK := Aside0.mk (blk_drew BKx.out)
            have aL := Aside0.mk (below_drew1 HB.out)
            clear BKm BKx HB hcm5 hcm14 hcm18 hcm19 hcx5 hfx5 hcx14 hfx14 hcx18 hfx18 hcx19 hfx19 hcm0
            have BKm := aH
            have BKx := aK
            have HB := aL
            clear aH aK aL
            refine start_ (n := 16) (S := fun w' => w'.cell? ⟨gm, 5, none⟩ = some (.int .i64 av) ∧ w'.cell? ⟨gm, 18, none⟩ = some (.int .i64 ao) ∧ w'.cell? ⟨gm, 14, none⟩ = some (.int .i64 ai) ∧ w'.cell? ⟨gm, 19, none⟩ = some (.string aj)) (ds := []) #[false, false, false, false, false, false, false, false, false, false, false, false, false, false, false, false] Z5 rfl rfl ⟨(blk_cell BKm.out 5).trans rfl, (blk_cell BKm.out 18).trans rfl, (blk_cell BKm.out 14).trans rfl, (blk_cell BKm.out 19).trans rfl⟩ (fun hHeld => ?_); refine with_tabW roadbookref07_Bare.tab22 roadbookref07_Bare.bits22 (fun HT_ HW_ => ?_)
            generalize World.drew _ = fV at BKm BKx HB hHeld ⊢
            refine pure_ (i := 0) (N := some 133) (v := ?_) (a' := ?_) #[true, false, false, false, false, false, false, false, false, false, false, false, false, false, false, false] rfl rfl (any_of HT_.out Z5) (fun _ _ _ h => h) (Or.inl ⟨Z13, ?_⟩) ?_ ?_
            rotate_left
            ·intro w'
             go_simp
             with_reducible rfl
            rotate_left
            ·simp only [Act.put, List.setIfInBounds_toArray, List.set_cons_zero, List.set_cons_succ, i64_w, i32_w]
             rfl
            refine pure_ (i := 2) (N := some 135) (v := ?_) (a' := ?_) #[true, false, true, false, false, false, false, false, false, false, false, false, false, false, false, false] rfl rfl (any_of HT_.out Z5) (fun _ _ _ h => h) (Or.inl ⟨Z13, ?_⟩) ?_ ?_
            rotate_left
            ·intro w'
             go_simp
             with_reducible rfl
            rotate_left
            ·simp only [Act.put, List.setIfInBounds_toArray, List.set_cons_zero, List.set_cons_succ, i64_w, i32_w]
             rfl
            refine pure_ (i := 4) (N := some 137) (v := ?_) (a' := ?_) #[true, false, true, false, true, false, false, false, false, false, false, false, false, false, false, false] rfl rfl (any_of HT_.out Z5) (fun _ _ _ h => h) (Or.inl ⟨Z13, ?_⟩) ?_ ?_
            rotate_left
            ·intro w'
             go_simp
             with_reducible rfl
            rotate_left
            ·simp only [Act.put, List.setIfInBounds_toArray, List.set_cons_zero, List.set_cons_succ, i64_w, i32_w]
             rfl
            refine pure_ (i := 6) (N := some 139) (v := ?_) (a' := ?_) #[true, false, true, false, true, false, true, false, false, false, false, false, false, false, false, false] rfl rfl (any_of HT_.out Z5) (fun _ _ _ h => h) (Or.inl ⟨Z13, ?_⟩) ?_ ?_
            rotate_left
            ·intro w'
             go_simp
             with_reducible rfl
            rotate_left
            ·simp only [Act.put, List.setIfInBounds_toArray, List.set_cons_zero, List.set_cons_succ, i64_w, i32_w]
             rfl
            refine take_ (i := 1) (N := some 134) (v := ?_) (a' := ?_) #[true, true, true, false, true, false, true, false, false, false, false, false, false, false, false, false] rfl rfl (take_ofW HT_.out HW_.out Z5) (fun _ _ _ h => h) (Or.inl ⟨Z13, ?_⟩) hHeld ?_ ?_
            rotate_left
            ·rintro w' ⟨s0, s1, s2, s3⟩
             go_simp
             with_reducible rfl
            rotate_left
            ·simp only [Act.put, List.setIfInBounds_toArray, List.set_cons_zero, List.set_cons_succ, i64_w, i32_w]
             rfl
            refine pure_ (i := 8) (N := some 141) (v := ?_) (a' := ?_) #[true, true, true, false, true, false, true, false, true, false, false, false, false, false, false, false] rfl rfl (any_of HT_.out Z5) (fun _ _ _ h => h) (Or.inl ⟨Z13, ?_⟩) ?_ ?_
            rotate_left
            ·intro w'
             go_simp
             with_reducible rfl
            rotate_left
            ·simp only [Act.put, List.setIfInBounds_toArray, List.set_cons_zero, List.set_cons_succ, i64_w, i32_w]
             rfl
            refine take_ (i := 3) (N := some 136) (v := ?_) (a' := ?_) #[true, true, true, true, true, false, true, false, true, false, false, false, false, false, false, false] rfl rfl (take_ofW HT_.out HW_.out Z5) (fun _ _ _ h => h) (Or.inl ⟨Z13, ?_⟩) hHeld ?_ ?_
            rotate_left
            ·rintro w' ⟨s0, s1, s2, s3⟩
             go_simp
             with_reducible rfl
            rotate_left
            ·simp only [Act.put, List.setIfInBounds_toArray, List.set_cons_zero, List.set_cons_succ, i64_w, i32_w]
             rfl
            refine take_ (i := 5) (N := some 138) (v := ?_) (a' := ?_) #[true, true, true, true, true, true, true, false, true, false, false, false, false, false, false, false] rfl rfl (take_ofW HT_.out HW_.out Z5) (fun _ _ _ h => h) (Or.inl ⟨Z13, ?_⟩) hHeld ?_ ?_
            rotate_left
            ·rintro w' ⟨s0, s1, s2, s3⟩
             go_simp
             with_reducible rfl
            rotate_left
            ·simp only [Act.put, List.setIfInBounds_toArray, List.set_cons_zero, List.set_cons_succ, i64_w, i32_w]
             rfl
            refine take_ (i := 7) (N := some 140) (v := ?_) (a' := ?_) #[true, true, true, true, true, true, true, true, true, false, false, false, false, false, false, false] rfl rfl (take_ofW HT_.out HW_.out Z5) (fun _ _ _ h => h) (Or.inl ⟨Z13, ?_⟩) hHeld ?_ ?_
            rotate_left
            ·rintro w' ⟨s0, s1, s2, s3⟩
             go_simp
             with_reducible rfl
            rotate_left
            ·simp only [Act.put, List.setIfInBounds_toArray, List.set_cons_zero, List.set_cons_succ, i64_w, i32_w]
             rfl
            refine one_ (i := 9) (N := none) #[true, true, true, true, true, true, true, true, true, true, false, false, false, false, false, false] rfl rfl (one_of HT_.out Z5) Z15 (fun K hK => ?_)
            have hs_ := (blk_cell BKx.out 5).trans (c := some (.int .i64 0)) rfl
            have hf_ := blk_frozen BKx.out 5
            refine skip_ (w1 := ?_) Z13 rfl ?_ ?_
            rotate_left
            ·go_simp
             rfl
            clear hs_ hf_
            refine hK.out _ _ ⟨(cell_far (p := ⟨gx, _, none⟩) NBmx.out _).trans (hHeld.1), (cell_far (p := ⟨gx, _, none⟩) NBmx.out _).trans (hHeld.2.1), (cell_far (p := ⟨gx, _, none⟩) NBmx.out _).trans (hHeld.2.2.1), (cell_far (p := ⟨gx, _, none⟩) NBmx.out _).trans (hHeld.2.2.2)⟩ (fun hHeld => ?_)
            clear hK K
            have aH := Aside0.mk (blk_put (cs' := #[.int .i64 10, .int .i64 0, .int .i64 0, .string ⟨#[]⟩, .int .i64 0, .int .i64 av, .string ⟨#[]⟩, .int .i64 0, .int .i64 0, .string ⟨#[]⟩, .int .i64 0, .string ⟨#[]⟩, .int .i64 0, .int .i64 0, .int .i64 0, .int .i64 0, .int .i64 0, .int .i64 0, .int .i64 0, .string ⟨#[]⟩, .string ⟨#[]⟩, .slice none 0 0, .int .i64 0, .string ⟨#[]⟩, .slice aI ab.length aJ]) BKx.out 5 (.int .i64 av) rfl)
            have aK := Aside0.mk (blk_far (p := ⟨gx, 5, none⟩) BKm.out NBmx.out (.int .i64 av))
            have aL := Aside0.mk (below_set (g := gx) (j := 5) (v := .int .i64 av) HB.out GEx.out)
            clear BKx BKm HB
            have BKx := aH
            have BKm := aK
            have HB := aL
            clear aH aK aL
            generalize World.setCell _ _ _ = fW at BKx BKm HB hHeld ⊢
            refine pure_ (i := 10) (N := some 142) (v := ?_) (a' := ?_) #[true, true, true, true, true, true, true, true, true, true, true, false, false, false, false, false] rfl rfl (any_of HT_.out Z5) (fun _ _ _ h => h) (Or.inl ⟨Z13, ?_⟩) ?_ ?_
            rotate_left
            ·intro w'
             go_simp
             with_reducible rfl
            rotate_left
            ·simp only [Act.put, List.setIfInBounds_toArray, List.set_cons_zero, List.set_cons_succ, i64_w, i32_w]
             rfl
            refine one_ (i := 11) (N := none) #[true, true, true, true, true, true, true, true, true, true, true, true, false, false, false, false] rfl rfl (one_of HT_.out Z5) Z15 (fun K hK => ?_)
            have hs_ := (blk_cell BKx.out 18).trans (c := some (.int .i64 0)) rfl
            have hf_ := blk_frozen BKx.out 18
            refine skip_ (w1 := ?_) Z13 rfl ?_ ?_
            rotate_left
            ·go_simp
             rfl
            clear hs_ hf_
            refine hK.out _ _ ⟨(cell_far (p := ⟨gx, _, none⟩) NBmx.out _).trans (hHeld.1), (cell_far (p := ⟨gx, _, none⟩) NBmx.out _).trans (hHeld.2.1), (cell_far (p := ⟨gx, _, none⟩) NBmx.out _).trans (hHeld.2.2.1), (cell_far (p := ⟨gx, _, none⟩) NBmx.out _).trans (hHeld.2.2.2)⟩ (fun hHeld => ?_)
            clear hK K
            have aH := Aside0.mk (blk_put (cs' := #[.int .i64 10, .int .i64 0, .int .i64 0, .string ⟨#[]⟩, .int .i64 0, .int .i64 av, .string ⟨#[]⟩, .int .i64 0, .int .i64 0, .string ⟨#[]⟩, .int .i64 0, .string ⟨#[]⟩, .int .i64 0, .int .i64 0, .int .i64 0, .int .i64 0, .int .i64 0, .int .i64 0, .int .i64 ao, .string ⟨#[]⟩, .string ⟨#[]⟩, .slice none 0 0, .int .i64 0, .string ⟨#[]⟩, .slice aI ab.length aJ]) BKx.out 18 (.int .i64 ao) rfl)
            have aK := Aside0.mk (blk_far (p := ⟨gx, 18, none⟩) BKm.out NBmx.out (.int .i64 ao))
            have aL := Aside0.mk (below_set (g := gx) (j := 18) (v := .int .i64 ao) HB.out GEx.out)
            clear BKx BKm HB
            have BKx := aH
            have BKm := aK
            have HB := aL
            clear aH aK aL
            generalize World.setCell _ _ _ = fX at BKx BKm HB hHeld ⊢
            refine pure_ (i := 12) (N := some 143) (v := ?_) (a' := ?_) #[true, true, true, true, true, true, true, true, true, true, true, true, true, false, false, false] rfl rfl (any_of HT_.out Z5) (fun _ _ _ h => h) (Or.inl ⟨Z13, ?_⟩) ?_ ?_
            rotate_left
            ·intro w'
             go_simp
             with_reducible rfl
            rotate_left
            ·simp only [Act.put, List.setIfInBounds_toArray, List.set_cons_zero, List.set_cons_succ, i64_w, i32_w]
             rfl
            refine one_ (i := 13) (N := none) #[true, true, true, true, true, true, true, true, true, true, true, true, true, true, false, false] rfl rfl (one_of HT_.out Z5) Z15 (fun K hK => ?_)
            have hs_ := (blk_cell BKx.out 14).trans (c := some (.int .i64 0)) rfl
            have hf_ := blk_frozen BKx.out 14
            refine skip_ (w1 := ?_) Z13 rfl ?_ ?_
            rotate_left
            ·go_simp
             rfl
            clear hs_ hf_
            refine hK.out _ _ ⟨(cell_far (p := ⟨gx, _, none⟩) NBmx.out _).trans (hHeld.1), (cell_far (p := ⟨gx, _, none⟩) NBmx.out _).trans (hHeld.2.1), (cell_far (p := ⟨gx, _, none⟩) NBmx.out _).trans (hHeld.2.2.1), (cell_far (p := ⟨gx, _, none⟩) NBmx.out _).trans (hHeld.2.2.2)⟩ (fun hHeld => ?_)
            clear hK K
            have aH := Aside0.mk (blk_put (cs' := #[.int .i64 10, .int .i64 0, .int .i64 0, .string ⟨#[]⟩, .int .i64 0, .int .i64 av, .string ⟨#[]⟩, .int .i64 0, .int .i64 0, .string ⟨#[]⟩, .int .i64 0, .string ⟨#[]⟩, .int .i64 0, .int .i64 0, .int .i64 ai, .int .i64 0, .int .i64 0, .int .i64 0, .int .i64 ao, .string ⟨#[]⟩, .string ⟨#[]⟩, .slice none 0 0, .int .i64 0, .string ⟨#[]⟩, .slice aI ab.length aJ]) BKx.out 14 (.int .i64 ai) rfl)
            have aK := Aside0.mk (blk_far (p := ⟨gx, 14, none⟩) BKm.out NBmx.out (.int .i64 ai))
            have aL := Aside0.mk (below_set (g := gx) (j := 14) (v := .int .i64 ai) HB.out GEx.out)
            clear BKx BKm HB
            have BKx := aH
            have BKm := aK
            have HB := aL
            clear aH aK aL
            generalize World.setCell _ _ _ = hB at BKx BKm HB hHeld ⊢
            refine pure_ (i := 14) (N := some 144) (v := ?_) (a' := ?_) #[true, true, true, true, true, true, true, true, true, true, true, true, true, true, true, false] rfl rfl (any_of HT_.out Z5) (fun _ _ _ h => h) (Or.inl ⟨Z13, ?_⟩) ?_ ?_
            rotate_left
            ·intro w'
             go_simp
             with_reducible rfl
            rotate_left
            ·simp only [Act.put, List.setIfInBounds_toArray, List.set_cons_zero, List.set_cons_succ, i64_w, i32_w]
             rfl
            refine one_ (i := 15) (N := none) #[true, true, true, true, true, true, true, true, true, true, true, true, true, true, true, true] rfl rfl (one_of HT_.out Z5) Z15 (fun K hK => ?_)
            have hs_ := (blk_cell BKx.out 19).trans (c := some (.string ⟨#[]⟩)) rfl
            have hf_ := blk_frozen BKx.out 19
            refine skip_ (w1 := ?_) Z13 rfl ?_ ?_
            rotate_left
            ·go_simp
             rfl
            clear hs_ hf_
            refine hK.out _ _ ⟨(cell_far (p := ⟨gx, _, none⟩) NBmx.out _).trans (hHeld.1), (cell_far (p := ⟨gx, _, none⟩) NBmx.out _).trans (hHeld.2.1), (cell_far (p := ⟨gx, _, none⟩) NBmx.out _).trans (hHeld.2.2.1), (cell_far (p := ⟨gx, _, none⟩) NBmx.out _).trans (hHeld.2.2.2)⟩ (fun hHeld => ?_)
            clear hK K
            have aH := Aside0.mk (blk_put (cs' := #[.int .i64 10, .int .i64 0, .int .i64 0, .string ⟨#[]⟩, .int .i64 0, .int .i64 av, .string ⟨#[]⟩, .int .i64 0, .int .i64 0, .string ⟨#[]⟩, .int .i64 0, .string ⟨#[]⟩, .int .i64 0, .int .i64 0, .int .i64 ai, .int .i64 0, .int .i64 0, .int .i64 0, .int .i64 ao, .string aj, .string ⟨#[]⟩, .slice none 0 0, .int .i64 0, .string ⟨#[]⟩, .slice aI ab.length aJ]) BKx.out 19 (.string aj) rfl)
            have aK := Aside0.mk (blk_far (p := ⟨gx, 19, none⟩) BKm.out NBmx.out (.string aj))
            have aL := Aside0.mk (below_set (g := gx) (j := 19) (v := .string aj) HB.out GEx.out)
            clear BKx BKm HB
            have BKx := aH
            have BKm := aK
            have HB := aL
            clear aH aK aL
            generalize World.setCell _ _ _ = ij at BKx BKm HB hHeld ⊢
            refine done_ (done_of HT_.out Z5) ?_
            go_wp2
            go_meet
            case rel => exact ⟨10, 0, 0, (⟨#[]⟩ : ByteArray), 0, av, (⟨#[]⟩ : ByteArray), 0, 0, (⟨#[]⟩ : ByteArray), 0, (⟨#[]⟩ : ByteArray), 0, 0, ai, 0, 0, 0, ao, aj, (⟨#[]⟩ : ByteArray), ([] : List S61), none, 0, 0, (⟨#[]⟩ : ByteArray), ab, aI, aJ, HRES, ⟨BKm.out⟩, BKx, ⟨HB.out⟩, ⟨Kd.C_nil _ _⟩, ⟨Nat.le_refl 0⟩, ⟨Kd.C_below bW.out HB.out⟩, bU⟩
           ·by_cases fq : aG = 11
            ·subst fq
             have HRES : Aside0 (roadbookref07_Same.f k 11 0 0 (⟨#[]⟩ : ByteArray) 0 av ax aw 0 ay ap an ag 0 ai 0 0 0 0 (⟨#[]⟩ : ByteArray) (⟨#[]⟩ : ByteArray) ([] : List S61) 0 (⟨#[]⟩ : ByteArray) ab 11 aA aB az aC av ax aw aD ay ap an ag aq ai ah ak al ao aj am af ar au ab = some r) := ⟨(roadbookref07_Bare.f11 k aA aB az aC av ax aw aD ay ap an ag aq ai ah ak al ao aj am af ar au ab).symm.trans cB.out⟩
             clear cB
             have hcm5 := (blk_cell BKm.out 5).trans rfl
             have hcm6 := (blk_cell BKm.out 6).trans rfl
             have hcm7 := (blk_cell BKm.out 7).trans rfl
             have hcm9 := (blk_cell BKm.out 9).trans rfl
             have hcm10 := (blk_cell BKm.out 10).trans rfl
             have hcm11 := (blk_cell BKm.out 11).trans rfl
             have hcm12 := (blk_cell BKm.out 12).trans rfl
             have hcm14 := (blk_cell BKm.out 14).trans rfl
             have hcx5 := (blk_cell BKx.out 5).trans rfl
             have hfx5 := blk_frozen BKx.out 5
             have hcx6 := (blk_cell BKx.out 6).trans rfl
             have hfx6 := blk_frozen BKx.out 6
             have hcx7 := (blk_cell BKx.out 7).trans rfl
             have hfx7 := blk_frozen BKx.out 7
             have hcx9 := (blk_cell BKx.out 9).trans rfl
             have hfx9 := blk_frozen BKx.out 9
             have hcx10 := (blk_cell BKx.out 10).trans rfl
             have hfx10 := blk_frozen BKx.out 10
             have hcx11 := (blk_cell BKx.out 11).trans rfl
             have hfx11 := blk_frozen BKx.out 11
             have hcx12 := (blk_cell BKx.out 12).trans rfl
             have hfx12 := blk_frozen BKx.out 12
             have hcx14 := (blk_cell BKx.out 14).trans rfl
             have hfx14 := blk_frozen BKx.out 14
             go_wp2
             have aH := Aside0.mk (blk_drew BKm.out)
             have aK := Aside0.mk (blk_drew BKx.out)
             have aL := Aside0.mk (below_drew1 HB.out)
             clear BKm BKx HB hcm5 hcm6 hcm7 hcm9 hcm10 hcm11 hcm12 hcm14 hcx5 hfx5 hcx6 hfx6 hcx7 hfx7 hcx9 hfx9 hcx10 hfx10 hcx11 hfx11 hcx12 hfx12 hcx14 hfx14 hcm0
             have BKm := aH
             have BKx := aK
             have HB := aL
             clear aH aK aL
             refine start_ (n := 32) (S := fun w' => w'.cell? ⟨gm, 5, none⟩ = some (.int .i64 av) ∧ w'.cell? ⟨gm, 6, none⟩ = some (.string ax) ∧ w'.cell? ⟨gm, 7, none⟩ = some (.int .i64 aw) ∧ w'.cell? ⟨gm, 14, none⟩ = some (.int .i64 ai) ∧ w'.cell? ⟨gm, 12, none⟩ = some (.int .i64 ag) ∧ w'.cell? ⟨gm, 10, none⟩ = some (.int .i64 ap) ∧ w'.cell? ⟨gm, 11, none⟩ = some (.string an) ∧ w'.cell? ⟨gm, 9, none⟩ = some (.string ay)) (ds := []) #[false, false, false, false, false, false, false, false, false, false, false, false, false, false, false, false, false, false, false, false, false, false, false, false, false, false, false, false, false, false, false, false] Z5 rfl rfl ⟨(blk_cell BKm.out 5).trans rfl, (blk_cell BKm.out 6).trans rfl, (blk_cell BKm.out 7).trans rfl, (blk_cell BKm.out 14).trans rfl, (blk_cell BKm.out 12).trans rfl, (blk_cell BKm.out 10).trans rfl, (blk_cell BKm.out 11).trans rfl, (blk_cell BKm.out 9).trans rfl⟩ (fun hHeld => ?_); refine with_tabW roadbookref07_Bare.tab24 roadbookref07_Bare.bits24 (fun HT_ HW_ => ?_)
             generalize World.drew _ = fV at BKm BKx HB hHeld ⊢
             refine pure_ (i := 0) (N := some 147) (v := ?_) (a' := ?_) #[true, false, false, false, false, false, false, false, false, false, false, false, false, false, false, false, false, false, false, false, false, false, false, false, false, false, false, false, false, false, false, false] rfl rfl (any_of HT_.out Z5) (fun _ _ _ h => h) (Or.inl ⟨Z13, ?_⟩) ?_ ?_
             rotate_left
             ·intro w'
              go_simp
              with_reducible rfl
             rotate_left
             ·simp only [Act.put, List.setIfInBounds_toArray, List.set_cons_zero, List.set_cons_succ, i64_w, i32_w]
              rfl
             refine pure_ (i := 2) (N := some 149) (v := ?_) (a' := ?_) #[true, false, true, false, false, false, false, false, false, false, false, false, false, false, false, false, false, false, false, false, false, false, false, false, false, false, false, false, false, false, false, false] rfl rfl (any_of HT_.out Z5) (fun _ _ _ h => h) (Or.inl ⟨Z13, ?_⟩) ?_ ?_
             rotate_left
             ·intro w'
              go_simp
              with_reducible rfl
             rotate_left
             ·simp only [Act.put, List.setIfInBounds_toArray, List.set_cons_zero, List.set_cons_succ, i64_w, i32_w]
              rfl
             refine pure_ (i := 4) (N := some 151) (v := ?_) (a' := ?_) #[true, false, true, false, true, false, false, false, false, false, false, false, false, false, false, false, false, false, false, false, false, false, false, false, false, false, false, false, false, false, false, false] rfl rfl (any_of HT_.out Z5) (fun _ _ _ h => h) (Or.inl ⟨Z13, ?_⟩) ?_ ?_
             rotate_left
             ·intro w'
              go_simp
              with_reducible rfl
             rotate_left
             ·simp only [Act.put, List.setIfInBounds_toArray, List.set_cons_zero, List.set_cons_succ, i64_w, i32_w]
              rfl
             refine pure_ (i := 6) (N := some 153) (v := ?_) (a' := ?_) #[true, false, true, false, true, false, true, false, false, false, false, false, false, false, false, false, false, false, false, false, false, false, false, false, false, false, false, false, false, false, false, false] rfl rfl (any_of HT_.out Z5) (fun _ _ _ h => h) (Or.inl ⟨Z13, ?_⟩) ?_ ?_
             rotate_left
             ·intro w'
              go_simp
              with_reducible rfl
             rotate_left
             ·simp only [Act.put, List.setIfInBounds_toArray, List.set_cons_zero, List.set_cons_succ, i64_w, i32_w]
              rfl
             refine pure_ (i := 8) (N := some 155) (v := ?_) (a' := ?_) #[true, false, true, false, true, false, true, false, true, false, false, false, false, false, false, false, false, false, false, false, false, false, false, false, false, false, false, false, false, false, false, false] rfl rfl (any_of HT_.out Z5) (fun _ _ _ h => h) (Or.inl ⟨Z13, ?_⟩) ?_ ?_
             rotate_left
             ·intro w'
              go_simp
              with_reducible rfl
             rotate_left
             ·simp only [Act.put, List.setIfInBounds_toArray, List.set_cons_zero, List.set_cons_succ, i64_w, i32_w]
              rfl
             refine pure_ (i := 10) (N := some 157) (v := ?_) (a' := ?_) #[true, false, true, false, true, false, true, false, true, false, true, false, false, false, false, false, false, false, false, false, false, false, false, false, false, false, false, false, false, false, false, false] rfl rfl (any_of HT_.out Z5) (fun _ _ _ h => h) (Or.inl ⟨Z13, ?_⟩) ?_ ?_
             rotate_left
             ·intro w'
              go_simp
              with_reducible rfl
             rotate_left
             ·simp only [Act.put, List.setIfInBounds_toArray, List.set_cons_zero, List.set_cons_succ, i64_w, i32_w]
              rfl
             refine pure_ (i := 12) (N := some 159) (v := ?_) (a' := ?_) #[true, false, true, false, true, false, true, false, true, false, true, false, true, false, false, false, false, false, false, false, false, false, false, false, false, false, false, false, false, false, false, false] rfl rfl (any_of HT_.out Z5) (fun _ _ _ h => h) (Or.inl ⟨Z13, ?_⟩) ?_ ?_
             rotate_left
             ·intro w'
              go_simp
              with_reducible rfl
             rotate_left
             ·simp only [Act.put, List.setIfInBounds_toArray, List.set_cons_zero, List.set_cons_succ, i64_w, i32_w]
              rfl
             refine pure_ (i := 14) (N := some 161) (v := ?_) (a' := ?_) #[true, false, true, false, true, false, true, false, true, false, true, false, true, false, true, false, false, false, false, false, false, false, false, false, false, false, false, false, false, false, false, false] rfl rfl (any_of HT_.out Z5) (fun _ _ _ h => h) (Or.inl ⟨Z13, ?_⟩) ?_ ?_
             rotate_left
             ·intro w'
              go_simp
              with_reducible rfl
             rotate_left
             ·simp only [Act.put, List.setIfInBounds_toArray, List.set_cons_zero, List.set_cons_succ, i64_w, i32_w]
              rfl
             refine take_ (i := 1) (N := some 148) (v := ?_) (a' := ?_) #[true, true, true, false, true, false, true, false, true, false, true, false, true, false, true, false, false, false, false, false, false, false, false, false, false, false, false, false, false, false, false, false] rfl rfl (take_ofW HT_.out HW_.out Z5) (fun _ _ _ h => h) (Or.inl ⟨Z13, ?_⟩) hHeld ?_ ?_
             rotate_left
             ·rintro w' ⟨s0, s1, s2, s3, s4, s5, s6, s7⟩
              go_simp
              with_reducible rfl
             rotate_left
             ·simp only [Act.put, List.setIfInBounds_toArray, List.set_cons_zero, List.set_cons_succ, i64_w, i32_w]
              rfl
             refine pure_ (i := 16) (N := some 163) (v := ?_) (a' := ?_) #[true, true, true, false, true, false, true, false, true, false, true, false, true, false, true, false, true, false, false, false, false, false, false, false, false, false, false, false, false, false, false, false] rfl rfl (any_of HT_.out Z5) (fun _ _ _ h => h) (Or.inl ⟨Z13, ?_⟩) ?_ ?_
             rotate_left
             ·intro w'
              go_simp
              with_reducible rfl
             rotate_left
             ·simp only [Act.put, List.setIfInBounds_toArray, List.set_cons_zero, List.set_cons_succ, i64_w, i32_w]
              rfl
             refine take_ (i := 3) (N := some 150) (v := ?_) (a' := ?_) #[true, true, true, true, true, false, true, false, true, false, true, false, true, false, true, false, true, false, false, false, false, false, false, false, false, false, false, false, false, false, false, false] rfl rfl (take_ofW HT_.out HW_.out Z5) (fun _ _ _ h => h) (Or.inl ⟨Z13, ?_⟩) hHeld ?_ ?_
             rotate_left
             ·rintro w' ⟨s0, s1, s2, s3, s4, s5, s6, s7⟩
              go_simp
              with_reducible rfl
             rotate_left
             ·simp only [Act.put, List.setIfInBounds_toArray, List.set_cons_zero, List.set_cons_succ, i64_w, i32_w]
              rfl
             refine take_ (i := 5) (N := some 152) (v := ?_) (a' := ?_) #[true, true, true, true, true, true, true, false, true, false, true, false, true, false, true, false, true, false, false, false, false, false, false, false, false, false, false, false, false, false, false, false] rfl rfl (take_ofW HT_.out HW_.out Z5) (fun _ _ _ h => h) (Or.inl ⟨Z13, ?_⟩) hHeld ?_ ?_
             rotate_left
             ·rintro w' ⟨s0, s1, s2, s3, s4, s5, s6, s7⟩
              go_simp
              with_reducible rfl
             rotate_left
             ·simp only [Act.put, List.setIfInBounds_toArray, List.set_cons_zero, List.set_cons_succ, i64_w, i32_w]
              rfl
             refine take_ (i := 7) (N := some 154) (v := ?_) (a' := ?_) #[true, true, true, true, true, true, true, true, true, false, true, false, true, false, true, false, true, false, false, false, false, false, false, false, false, false, false, false, false, false, false, false] rfl rfl (take_ofW HT_.out HW_.out Z5) (fun _ _ _ h => h) (Or.inl ⟨Z13, ?_⟩) hHeld ?_ ?_
             rotate_left
             ·rintro w' ⟨s0, s1, s2, s3, s4, s5, s6, s7⟩
              go_simp
              with_reducible rfl
             rotate_left
             ·simp only [Act.put, List.setIfInBounds_toArray, List.set_cons_zero, List.set_cons_succ, i64_w, i32_w]
              rfl
             refine take_ (i := 9) (N := some 156) (v := ?_) (a' := ?_) #[true, true, true, true, true, true, true, true, true, true, true, false, true, false, true, false, true, false, false, false, false, false, false, false, false, false, false, false, false, false, false, false] rfl rfl (take_ofW HT_.out HW_.out Z5) (fun _ _ _ h => h) (Or.inl ⟨Z13, ?_⟩) hHeld ?_ ?_
             rotate_left
             ·rintro w' ⟨s0, s1, s2, s3, s4, s5, s6, s7⟩
              go_simp
              with_reducible rfl
             rotate_left
             ·simp only [Act.put, List.setIfInBounds_toArray, List.set_cons_zero, List.set_cons_succ, i64_w, i32_w]
              rfl
             refine take_ (i := 11) (N := some 158) (v := ?_) (a' := ?_) #[true, true, true, true, true, true, true, true, true, true, true, true, true, false, true, false, true, false, false, false, false, false, false, false, false, false, false, false, false, false, false, false] rfl rfl (take_ofW HT_.out HW_.out Z5) (fun _ _ _ h => h) (Or.inl ⟨Z13, ?_⟩) hHeld ?_ ?_
             rotate_left
             ·rintro w' ⟨s0, s1, s2, s3, s4, s5, s6, s7⟩
              go_simp
              with_reducible rfl
             rotate_left
             ·simp only [Act.put, List.setIfInBounds_toArray, List.set_cons_zero, List.set_cons_succ, i64_w, i32_w]
              rfl
             refine take_ (i := 13) (N := some 160) (v := ?_) (a' := ?_) #[true, true, true, true, true, true, true, true, true, true, true, true, true, true, true, false, true, false, false, false, false, false, false, false, false, false, false, false, false, false, false, false] rfl rfl (take_ofW HT_.out HW_.out Z5) (fun _ _ _ h => h) (Or.inl ⟨Z13, ?_⟩) hHeld ?_ ?_
             rotate_left
             ·rintro w' ⟨s0, s1, s2, s3, s4, s5, s6, s7⟩
              go_simp
              with_reducible rfl
             rotate_left
             ·simp only [Act.put, List.setIfInBounds_toArray, List.set_cons_zero, List.set_cons_succ, i64_w, i32_w]
              rfl
             refine take_ (i := 15) (N := some 162) (v := ?_) (a' := ?_) #[true, true, true, true, true, true, true, true, true, true, true, true, true, true, true, true, true, false, false, false, false, false, false, false, false, false, false, false, false, false, false, false] rfl rfl (take_ofW HT_.out HW_.out Z5) (fun _ _ _ h => h) (Or.inl ⟨Z13, ?_⟩) hHeld ?_ ?_
             rotate_left
             ·rintro w' ⟨s0, s1, s2, s3, s4, s5, s6, s7⟩
              go_simp
              with_reducible rfl
             rotate_left
             ·simp only [Act.put, List.setIfInBounds_toArray, List.set_cons_zero, List.set_cons_succ, i64_w, i32_w]
              rfl
             refine one_ (i := 17) (N := none) #[true, true, true, true, true, true, true, true, true, true, true, true, true, true, true, true, true, true, false, false, false, false, false, false, false, false, false, false, false, false, false, false] rfl rfl (one_of HT_.out Z5) Z15 (fun K hK => ?_)
             have hs_ := (blk_cell BKx.out 5).trans (c := some (.int .i64 0)) rfl
             have hf_ := blk_frozen BKx.out 5
             refine skip_ (w1 := ?_) Z13 rfl ?_ ?_
             rotate_left
             ·go_simp
              rfl
             clear hs_ hf_
             refine hK.out _ _ ⟨(cell_far (p := ⟨gx, _, none⟩) NBmx.out _).trans (hHeld.1), (cell_far (p := ⟨gx, _, none⟩) NBmx.out _).trans (hHeld.2.1), (cell_far (p := ⟨gx, _, none⟩) NBmx.out _).trans (hHeld.2.2.1), (cell_far (p := ⟨gx, _, none⟩) NBmx.out _).trans (hHeld.2.2.2.1), (cell_far (p := ⟨gx, _, none⟩) NBmx.out _).trans (hHeld.2.2.2.2.1), (cell_far (p := ⟨gx, _, none⟩) NBmx.out _).trans (hHeld.2.2.2.2.2.1), (cell_far (p := ⟨gx, _, none⟩) NBmx.out _).trans (hHeld.2.2.2.2.2.2.1), (cell_far (p := ⟨gx, _, none⟩) NBmx.out _).trans (hHeld.2.2.2.2.2.2.2)⟩ (fun hHeld => ?_)
             clear hK K
             have aH := Aside0.mk (blk_put (cs' := #[.int .i64 11, .int .i64 0, .int .i64 0, .string ⟨#[]⟩, .int .i64 0, .int .i64 av, .string ⟨#[]⟩, .int .i64 0, .int .i64 0, .string ⟨#[]⟩, .int .i64 0, .string ⟨#[]⟩, .int .i64 0, .int .i64 0, .int .i64 0, .int .i64 0, .int .i64 0, .int .i64 0, .int .i64 0, .string ⟨#[]⟩, .string ⟨#[]⟩, .slice none 0 0, .int .i64 0, .string ⟨#[]⟩, .slice aI ab.length aJ]) BKx.out 5 (.int .i64 av) rfl)
             have aK := Aside0.mk (blk_far (p := ⟨gx, 5, none⟩) BKm.out NBmx.out (.int .i64 av))
             have aL := Aside0.mk (below_set (g := gx) (j := 5) (v := .int .i64 av) HB.out GEx.out)
             clear BKx BKm HB
             have BKx := aH
             have BKm := aK
             have HB := aL
             clear aH aK aL
             generalize World.setCell _ _ _ = fW at BKx BKm HB hHeld ⊢
             refine pure_ (i := 18) (N := some 164) (v := ?_) (a' := ?_) #[true, true, true, true, true, true, true, true, true, true, true, true, true, true, true, true, true, true, true, false, false, false, false, false, false, false, false, false, false, false, false, false] rfl rfl (any_of HT_.out Z5) (fun _ _ _ h => h) (Or.inl ⟨Z13, ?_⟩) ?_ ?_
             rotate_left
             ·intro w'
              go_simp
              with_reducible rfl
             rotate_left
             ·simp only [Act.put, List.setIfInBounds_toArray, List.set_cons_zero, List.set_cons_succ, i64_w, i32_w]
              rfl
             refine one_ (i := 19) (N := none) #[true, true, true, true, true, true, true, true, true, true, true, true, true, true, true, true, true, true, true, true, false, false, false, false, false, false, false, false, false, false, false, false] rfl rfl (one_of HT_.out Z5) Z15 (fun K hK => ?_)
             have hs_ := (blk_cell BKx.out 6).trans (c := some (.string ⟨#[]⟩)) rfl
             have hf_ := blk_frozen BKx.out 6
             refine skip_ (w1 := ?_) Z13 rfl ?_ ?_
             rotate_left
             ·go_simp
              rfl
             clear hs_ hf_
             refine hK.out _ _ ⟨(cell_far (p := ⟨gx, _, none⟩) NBmx.out _).trans (hHeld.1), (cell_far (p := ⟨gx, _, none⟩) NBmx.out _).trans (hHeld.2.1), (cell_far (p := ⟨gx, _, none⟩) NBmx.out _).trans (hHeld.2.2.1), (cell_far (p := ⟨gx, _, none⟩) NBmx.out _).trans (hHeld.2.2.2.1), (cell_far (p := ⟨gx, _, none⟩) NBmx.out _).trans (hHeld.2.2.2.2.1), (cell_far (p := ⟨gx, _, none⟩) NBmx.out _).trans (hHeld.2.2.2.2.2.1), (cell_far (p := ⟨gx, _, none⟩) NBmx.out _).trans (hHeld.2.2.2.2.2.2.1), (cell_far (p := ⟨gx, _, none⟩) NBmx.out _).trans (hHeld.2.2.2.2.2.2.2)⟩ (fun hHeld => ?_)
             clear hK K
             have aH := Aside0.mk (blk_put (cs' := #[.int .i64 11, .int .i64 0, .int .i64 0, .string ⟨#[]⟩, .int .i64 0, .int .i64 av, .string ax, .int .i64 0, .int .i64 0, .string ⟨#[]⟩, .int .i64 0, .string ⟨#[]⟩, .int .i64 0, .int .i64 0, .int .i64 0, .int .i64 0, .int .i64 0, .int .i64 0, .int .i64 0, .string ⟨#[]⟩, .string ⟨#[]⟩, .slice none 0 0, .int .i64 0, .string ⟨#[]⟩, .slice aI ab.length aJ]) BKx.out 6 (.string ax) rfl)
             have aK := Aside0.mk (blk_far (p := ⟨gx, 6, none⟩) BKm.out NBmx.out (.string ax))
             have aL := Aside0.mk (below_set (g := gx) (j := 6) (v := .string ax) HB.out GEx.out)
             clear BKx BKm HB
             have BKx := aH
             have BKm := aK
             have HB := aL
             clear aH aK aL
             generalize World.setCell _ _ _ = fX at BKx BKm HB hHeld ⊢
             refine pure_ (i := 20) (N := some 165) (v := ?_) (a' := ?_) #[true, true, true, true, true, true, true, true, true, true, true, true, true, true, true, true, true, true, true, true, true, false, false, false, false, false, false, false, false, false, false, false] rfl rfl (any_of HT_.out Z5) (fun _ _ _ h => h) (Or.inl ⟨Z13, ?_⟩) ?_ ?_
             rotate_left
             ·intro w'
              go_simp
              with_reducible rfl
             rotate_left
             ·simp only [Act.put, List.setIfInBounds_toArray, List.set_cons_zero, List.set_cons_succ, i64_w, i32_w]
              rfl
             refine one_ (i := 21) (N := none) #[true, true, true, true, true, true, true, true, true, true, true, true, true, true, true, true, true, true, true, true, true, true, false, false, false, false, false, false, false, false, false, false] rfl rfl (one_of HT_.out Z5) Z15 (fun K hK => ?_)
             have hs_ := (blk_cell BKx.out 7).trans (c := some (.int .i64 0)) rfl
             have hf_ := blk_frozen BKx.out 7
             refine skip_ (w1 := ?_) Z13 rfl ?_ ?_
             rotate_left
             ·go_simp
              rfl
             clear hs_ hf_
             refine hK.out _ _ ⟨(cell_far (p := ⟨gx, _, none⟩) NBmx.out _).trans (hHeld.1), (cell_far (p := ⟨gx, _, none⟩) NBmx.out _).trans (hHeld.2.1), (cell_far (p := ⟨gx, _, none⟩) NBmx.out _).trans (hHeld.2.2.1), (cell_far (p := ⟨gx, _, none⟩) NBmx.out _).trans (hHeld.2.2.2.1), (cell_far (p := ⟨gx, _, none⟩) NBmx.out _).trans (hHeld.2.2.2.2.1), (cell_far (p := ⟨gx, _, none⟩) NBmx.out _).trans (hHeld.2.2.2.2.2.1), (cell_far (p := ⟨gx, _, none⟩) NBmx.out _).trans (hHeld.2.2.2.2.2.2.1), (cell_far (p := ⟨gx, _, none⟩) NBmx.out _).trans (hHeld.2.2.2.2.2.2.2)⟩ (fun hHeld => ?_)
             clear hK K
             have aH := Aside0.mk (blk_put (cs' := #[.int .i64 11, .int .i64 0, .int .i64 0, .string ⟨#[]⟩, .int .i64 0, .int .i64 av, .string ax, .int .i64 aw, .int .i64 0, .string ⟨#[]⟩, .int .i64 0, .string ⟨#[]⟩, .int .i64 0, .int .i64 0, .int .i64 0, .int .i64 0, .int .i64 0, .int .i64 0, .int .i64 0, .string ⟨#[]⟩, .string ⟨#[]⟩, .slice none 0 0, .int .i64 0, .string ⟨#[]⟩, .slice aI ab.length aJ]) BKx.out 7 (.int .i64 aw) rfl)
             have aK := Aside0.mk (blk_far (p := ⟨gx, 7, none⟩) BKm.out NBmx.out (.int .i64 aw))
             have aL := Aside0.mk (below_set (g := gx) (j := 7) (v := .int .i64 aw) HB.out GEx.out)
             clear BKx BKm HB
             have BKx := aH
             have BKm := aK
             have HB := aL
             clear aH aK aL
             generalize World.setCell _ _ _ = hB at BKx BKm HB hHeld ⊢
             refine pure_ (i := 22) (N := some 166) (v := ?_) (a' := ?_) #[true, true, true, true, true, true, true, true, true, true, true, true, true, true, true, true, true, true, true, true, true, true, true, false, false, false, false, false, false, false, false, false] rfl rfl (any_of HT_.out Z5) (fun _ _ _ h => h) (Or.inl ⟨Z13, ?_⟩) ?_ ?_
             rotate_left
             ·intro w'
              go_simp
              with_reducible rfl
             rotate_left
             ·simp only [Act.put, List.setIfInBounds_toArray, List.set_cons_zero, List.set_cons_succ, i64_w, i32_w]
              rfl
             refine one_ (i := 23) (N := none) #[true, true, true, true, true, true, true, true, true, true, true, true, true, true, true, true, true, true, true, true, true, true, true, true, false, false, false, false, false, false, false, false] rfl rfl (one_of HT_.out Z5) Z15 (fun K hK => ?_)
             have hs_ := (blk_cell BKx.out 14).trans (c := some (.int .i64 0)) rfl
             have hf_ := blk_frozen BKx.out 14
             refine skip_ (w1 := ?_) Z13 rfl ?_ ?_
             rotate_left
             ·go_simp
              rfl
             clear hs_ hf_
             refine hK.out _ _ ⟨(cell_far (p := ⟨gx, _, none⟩) NBmx.out _).trans (hHeld.1), (cell_far (p := ⟨gx, _, none⟩) NBmx.out _).trans (hHeld.2.1), (cell_far (p := ⟨gx, _, none⟩) NBmx.out _).trans (hHeld.2.2.1), (cell_far (p := ⟨gx, _, none⟩) NBmx.out _).trans (hHeld.2.2.2.1), (cell_far (p := ⟨gx, _, none⟩) NBmx.out _).trans (hHeld.2.2.2.2.1), (cell_far (p := ⟨gx, _, none⟩) NBmx.out _).trans (hHeld.2.2.2.2.2.1), (cell_far (p := ⟨gx, _, none⟩) NBmx.out _).trans (hHeld.2.2.2.2.2.2.1), (cell_far (p := ⟨gx, _, none⟩) NBmx.out _).trans (hHeld.2.2.2.2.2.2.2)⟩ (fun hHeld => ?_)
             clear hK K
             have aH := Aside0.mk (blk_put (cs' := #[.int .i64 11, .int .i64 0, .int .i64 0, .string ⟨#[]⟩, .int .i64 0, .int .i64 av, .string ax, .int .i64 aw, .int .i64 0, .string ⟨#[]⟩, .int .i64 0, .string ⟨#[]⟩, .int .i64 0, .int .i64 0, .int .i64 ai, .int .i64 0, .int .i64 0, .int .i64 0, .int .i64 0, .string ⟨#[]⟩, .string ⟨#[]⟩, .slice none 0 0, .int .i64 0, .string ⟨#[]⟩, .slice aI ab.length aJ]) BKx.out 14 (.int .i64 ai) rfl)
             have aK := Aside0.mk (blk_far (p := ⟨gx, 14, none⟩) BKm.out NBmx.out (.int .i64 ai))
             have aL := Aside0.mk (below_set (g := gx) (j := 14) (v := .int .i64 ai) HB.out GEx.out)
             clear BKx BKm HB
             have BKx := aH
             have BKm := aK
             have HB := aL
             clear aH aK aL
             generalize World.setCell _ _ _ = ij at BKx BKm HB hHeld ⊢
             refine pure_ (i := 24) (N := some 167) (v := ?_) (a' := ?_) #[true, true, true, true, true, true, true, true, true, true, true, true, true, true, true, true, true, true, true, true, true, true, true, true, true, false, false, false, false, false, false, false] rfl rfl (any_of HT_.out Z5) (fun _ _ _ h => h) (Or.inl ⟨Z13, ?_⟩) ?_ ?_
             rotate_left
             ·intro w'
              go_simp
              with_reducible rfl
             rotate_left
             ·simp only [Act.put, List.setIfInBounds_toArray, List.set_cons_zero, List.set_cons_succ, i64_w, i32_w]
              rfl
             refine one_ (i := 25) (N := none) #[true, true, true, true, true, true, true, true, true, true, true, true, true, true, true, true, true, true, true, true, true, true, true, true, true, true, false, false, false, false, false, false] rfl rfl (one_of HT_.out Z5) Z15 (fun K hK => ?_)
             have hs_ := (blk_cell BKx.out 12).trans (c := some (.int .i64 0)) rfl
             have hf_ := blk_frozen BKx.out 12
             refine skip_ (w1 := ?_) Z13 rfl ?_ ?_
             rotate_left
             ·go_simp
              rfl
             clear hs_ hf_
             refine hK.out _ _ ⟨(cell_far (p := ⟨gx, _, none⟩) NBmx.out _).trans (hHeld.1), (cell_far (p := ⟨gx, _, none⟩) NBmx.out _).trans (hHeld.2.1), (cell_far (p := ⟨gx, _, none⟩) NBmx.out _).trans (hHeld.2.2.1), (cell_far (p := ⟨gx, _, none⟩) NBmx.out _).trans (hHeld.2.2.2.1), (cell_far (p := ⟨gx, _, none⟩) NBmx.out _).trans (hHeld.2.2.2.2.1), (cell_far (p := ⟨gx, _, none⟩) NBmx.out _).trans (hHeld.2.2.2.2.2.1), (cell_far (p := ⟨gx, _, none⟩) NBmx.out _).trans (hHeld.2.2.2.2.2.2.1), (cell_far (p := ⟨gx, _, none⟩) NBmx.out _).trans (hHeld.2.2.2.2.2.2.2)⟩ (fun hHeld => ?_)
             clear hK K
             have aH := Aside0.mk (blk_put (cs' := #[.int .i64 11, .int .i64 0, .int .i64 0, .string ⟨#[]⟩, .int .i64 0, .int .i64 av, .string ax, .int .i64 aw, .int .i64 0, .string ⟨#[]⟩, .int .i64 0, .string ⟨#[]⟩, .int .i64 ag, .int .i64 0, .int .i64 ai, .int .i64 0, .int .i64 0, .int .i64 0, .int .i64 0, .string ⟨#[]⟩, .string ⟨#[]⟩, .slice none 0 0, .int .i64 0, .string ⟨#[]⟩, .slice aI ab.length aJ]) BKx.out 12 (.int .i64 ag) rfl)
             have aK := Aside0.mk (blk_far (p := ⟨gx, 12, none⟩) BKm.out NBmx.out (.int .i64 ag))
             have aL := Aside0.mk (below_set (g := gx) (j := 12) (v := .int .i64 ag) HB.out GEx.out)
             clear BKx BKm HB
             have BKx := aH
             have BKm := aK
             have HB := aL
             clear aH aK aL
             generalize World.setCell _ _ _ = iv at BKx BKm HB hHeld ⊢
             refine pure_ (i := 26) (N := some 168) (v := ?_) (a' := ?_) #[true, true, true, true, true, true, true, true, true, true, true, true, true, true, true, true, true, true, true, true, true, true, true, true, true, true, true, false, false, false, false, false] rfl rfl (any_of HT_.out Z5) (fun _ _ _ h => h) (Or.inl ⟨Z13, ?_⟩) ?_ ?_
             rotate_left
             ·intro w'
              go_simp
              with_reducible rfl
             rotate_left
             ·simp only [Act.put, List.setIfInBounds_toArray, List.set_cons_zero, List.set_cons_succ, i64_w, i32_w]
              rfl
             refine one_ (i := 27) (N := none) #[true, true, true, true, true, true, true, true, true, true, true, true, true, true, true, true, true, true, true, true, true, true, true, true, true, true, true, true, false, false, false, false] rfl rfl (one_of HT_.out Z5) Z15 (fun K hK => ?_)
             have hs_ := (blk_cell BKx.out 10).trans (c := some (.int .i64 0)) rfl
             have hf_ := blk_frozen BKx.out 10
             refine skip_ (w1 := ?_) Z13 rfl ?_ ?_
             rotate_left
             ·go_simp
              rfl
             clear hs_ hf_
             refine hK.out _ _ ⟨(cell_far (p := ⟨gx, _, none⟩) NBmx.out _).trans (hHeld.1), (cell_far (p := ⟨gx, _, none⟩) NBmx.out _).trans (hHeld.2.1), (cell_far (p := ⟨gx, _, none⟩) NBmx.out _).trans (hHeld.2.2.1), (cell_far (p := ⟨gx, _, none⟩) NBmx.out _).trans (hHeld.2.2.2.1), (cell_far (p := ⟨gx, _, none⟩) NBmx.out _).trans (hHeld.2.2.2.2.1), (cell_far (p := ⟨gx, _, none⟩) NBmx.out _).trans (hHeld.2.2.2.2.2.1), (cell_far (p := ⟨gx, _, none⟩) NBmx.out _).trans (hHeld.2.2.2.2.2.2.1), (cell_far (p := ⟨gx, _, none⟩) NBmx.out _).trans (hHeld.2.2.2.2.2.2.2)⟩ (fun hHeld => ?_)
             clear hK K
             have aH := Aside0.mk (blk_put (cs' := #[.int .i64 11, .int .i64 0, .int .i64 0, .string ⟨#[]⟩, .int .i64 0, .int .i64 av, .string ax, .int .i64 aw, .int .i64 0, .string ⟨#[]⟩, .int .i64 ap, .string ⟨#[]⟩, .int .i64 ag, .int .i64 0, .int .i64 ai, .int .i64 0, .int .i64 0, .int .i64 0, .int .i64 0, .string ⟨#[]⟩, .string ⟨#[]⟩, .slice none 0 0, .int .i64 0, .string ⟨#[]⟩, .slice aI ab.length aJ]) BKx.out 10 (.int .i64 ap) rfl)
             have aK := Aside0.mk (blk_far (p := ⟨gx, 10, none⟩) BKm.out NBmx.out (.int .i64 ap))
             have aL := Aside0.mk (below_set (g := gx) (j := 10) (v := .int .i64 ap) HB.out GEx.out)
             clear BKx BKm HB
             have BKx := aH
             have BKm := aK
             have HB := aL
             clear aH aK aL
             generalize World.setCell _ _ _ = iw at BKx BKm HB hHeld ⊢
             refine pure_ (i := 28) (N := some 169) (v := ?_) (a' := ?_) #[true, true, true, true, true, true, true, true, true, true, true, true, true, true, true, true, true, true, true, true, true, true, true, true, true, true, true, true, true, false, false, false] rfl rfl (any_of HT_.out Z5) (fun _ _ _ h => h) (Or.inl ⟨Z13, ?_⟩) ?_ ?_
             rotate_left
             ·intro w'
              go_simp
              with_reducible rfl
             rotate_left
             ·simp only [Act.put, List.setIfInBounds_toArray, List.set_cons_zero, List.set_cons_succ, i64_w, i32_w]
              rfl
             refine one_ (i := 29) (N := none) #[true, true, true, true, true, true, true, true, true, true, true, true, true, true, true, true, true, true, true, true, true, true, true, true, true, true, true, true, true, true, false, false] rfl rfl (one_of HT_.out Z5) Z15 (fun K hK => ?_)
             have hs_ := (blk_cell BKx.out 11).trans (c := some (.string ⟨#[]⟩)) rfl
             have hf_ := blk_frozen BKx.out 11
             refine skip_ (w1 := ?_) Z13 rfl ?_ ?_
             rotate_left
             ·go_simp
              rfl
             clear hs_ hf_
             refine hK.out _ _ ⟨(cell_far (p := ⟨gx, _, none⟩) NBmx.out _).trans (hHeld.1), (cell_far (p := ⟨gx, _, none⟩) NBmx.out _).trans (hHeld.2.1), (cell_far (p := ⟨gx, _, none⟩) NBmx.out _).trans (hHeld.2.2.1), (cell_far (p := ⟨gx, _, none⟩) NBmx.out _).trans (hHeld.2.2.2.1), (cell_far (p := ⟨gx, _, none⟩) NBmx.out _).trans (hHeld.2.2.2.2.1), (cell_far (p := ⟨gx, _, none⟩) NBmx.out _).trans (hHeld.2.2.2.2.2.1), (cell_far (p := ⟨gx, _, none⟩) NBmx.out _).trans (hHeld.2.2.2.2.2.2.1), (cell_far (p := ⟨gx, _, none⟩) NBmx.out _).trans (hHeld.2.2.2.2.2.2.2)⟩ (fun hHeld => ?_)
             clear hK K
             have aH := Aside0.mk (blk_put (cs' := #[.int .i64 11, .int .i64 0, .int .i64 0, .string ⟨#[]⟩, .int .i64 0, .int .i64 av, .string ax, .int .i64 aw, .int .i64 0, .string ⟨#[]⟩, .int .i64 ap, .string an, .int .i64 ag, .int .i64 0, .int .i64 ai, .int .i64 0, .int .i64 0, .int .i64 0, .int .i64 0, .string ⟨#[]⟩, .string ⟨#[]⟩, .slice none 0 0, .int .i64 0, .string ⟨#[]⟩, .slice aI ab.length aJ]) BKx.out 11 (.string an) rfl)
             have aK := Aside0.mk (blk_far (p := ⟨gx, 11, none⟩) BKm.out NBmx.out (.string an))
             have aL := Aside0.mk (below_set (g := gx) (j := 11) (v := .string an) HB.out GEx.out)
             clear BKx BKm HB
             have BKx := aH
             have BKm := aK
             have HB := aL
             clear aH aK aL
             generalize World.setCell _ _ _ = iN at BKx BKm HB hHeld ⊢
             refine pure_ (i := 30) (N := some 170) (v := ?_) (a' := ?_) #[true, true, true, true, true, true, true, true, true, true, true, true, true, true, true, true, true, true, true, true, true, true, true, true, true, true, true, true, true, true, true, false] rfl rfl (any_of HT_.out Z5) (fun _ _ _ h => h) (Or.inl ⟨Z13, ?_⟩) ?_ ?_
             rotate_left
             ·intro w'
              go_simp
              with_reducible rfl
             rotate_left
             ·simp only [Act.put, List.setIfInBounds_toArray, List.set_cons_zero, List.set_cons_succ, i64_w, i32_w]
              rfl
             refine one_ (i := 31) (N := none) #[true, true, true, true, true, true, true, true, true, true, true, true, true, true, true, true, true, true, true, true, true, true, true, true, true, true, true, true, true, true, true, true] rfl rfl (one_of HT_.out Z5) Z15 (fun K hK => ?_)
             have hs_ := (blk_cell BKx.out 9).trans (c := some (.string ⟨#[]⟩)) rfl
             have hf_ := blk_frozen BKx.out 9
             refine skip_ (w1 := ?_) Z13 rfl ?_ ?_
             rotate_left
             ·go_simp
              rfl
             clear hs_ hf_
             refine hK.out _ _ ⟨(cell_far (p := ⟨gx, _, none⟩) NBmx.out _).trans (hHeld.1), (cell_far (p := ⟨gx, _, none⟩) NBmx.out _).trans (hHeld.2.1), (cell_far (p := ⟨gx, _, none⟩) NBmx.out _).trans (hHeld.2.2.1), (cell_far (p := ⟨gx, _, none⟩) NBmx.out _).trans (hHeld.2.2.2.1), (cell_far (p := ⟨gx, _, none⟩) NBmx.out _).trans (hHeld.2.2.2.2.1), (cell_far (p := ⟨gx, _, none⟩) NBmx.out _).trans (hHeld.2.2.2.2.2.1), (cell_far (p := ⟨gx, _, none⟩) NBmx.out _).trans (hHeld.2.2.2.2.2.2.1), (cell_far (p := ⟨gx, _, none⟩) NBmx.out _).trans (hHeld.2.2.2.2.2.2.2)⟩ (fun hHeld => ?_)
             clear hK K
             have aH := Aside0.mk (blk_put (cs' := #[.int .i64 11, .int .i64 0, .int .i64 0, .string ⟨#[]⟩, .int .i64 0, .int .i64 av, .string ax, .int .i64 aw, .int .i64 0, .string ay, .int .i64 ap, .string an, .int .i64 ag, .int .i64 0, .int .i64 ai, .int .i64 0, .int .i64 0, .int .i64 0, .int .i64 0, .string ⟨#[]⟩, .string ⟨#[]⟩, .slice none 0 0, .int .i64 0, .string ⟨#[]⟩, .slice aI ab.length aJ]) BKx.out 9 (.string ay) rfl)
             have aK := Aside0.mk (blk_far (p := ⟨gx, 9, none⟩) BKm.out NBmx.out (.string ay))
             have aL := Aside0.mk (below_set (g := gx) (j := 9) (v := .string ay) HB.out GEx.out)
             clear BKx BKm HB
             have BKx := aH
             have BKm := aK
             have HB := aL
             clear aH aK aL
             generalize World.setCell _ _ _ = w47 at BKx BKm HB hHeld ⊢
             refine done_ (done_of HT_.out Z5) ?_
             go_wp2
             go_meet
             case rel => exact ⟨11, 0, 0, (⟨#[]⟩ : ByteArray), 0, av, ax, aw, 0, ay, ap, an, ag, 0, ai, 0, 0, 0, 0, (⟨#[]⟩ : ByteArray), (⟨#[]⟩ : ByteArray), ([] : List S61), none, 0, 0, (⟨#[]⟩ : ByteArray), ab, aI, aJ, HRES, ⟨BKm.out⟩, BKx, ⟨HB.out⟩, ⟨Kd.C_nil _ _⟩, ⟨Nat.le_refl 0⟩, ⟨Kd.C_below bW.out HB.out⟩, bU⟩
            ·by_cases eU : aG = 12
             ·subst eU
              have HRES : Aside0 (roadbookref07_Same.f k 12 0 0 (⟨#[]⟩ : ByteArray) 0 av ax aw 0 (⟨#[]⟩ : ByteArray) 0 (⟨#[]⟩ : ByteArray) 0 0 0 0 0 0 0 (⟨#[]⟩ : ByteArray) (⟨#[]⟩ : ByteArray) ([] : List S61) 0 (⟨#[]⟩ : ByteArray) ab 12 aA aB az aC av ax aw aD ay ap an ag aq ai ah ak al ao aj am af ar au ab = some r) := ⟨(roadbookref07_Bare.f12 k aA aB az aC av ax aw aD ay ap an ag aq ai ah ak al ao aj am af ar au ab).symm.trans cB.out⟩
              clear cB
              have hcm5 := (blk_cell BKm.out 5).trans rfl
              have hcm6 := (blk_cell BKm.out 6).trans rfl
              have hcm7 := (blk_cell BKm.out 7).trans rfl
              have hcx5 := (blk_cell BKx.out 5).trans rfl
              have hfx5 := blk_frozen BKx.out 5
              have hcx6 := (blk_cell BKx.out 6).trans rfl
              have hfx6 := blk_frozen BKx.out 6
              have hcx7 := (blk_cell BKx.out 7).trans rfl
              have hfx7 := blk_frozen BKx.out 7
              go_wp2
              have aH := Aside0.mk (blk_drew BKm.out)
              have aK := Aside0.mk (blk_drew BKx.out)
              have aL := Aside0.mk (below_drew1 HB.out)
              clear BKm BKx HB hcm5 hcm6 hcm7 hcx5 hfx5 hcx6 hfx6 hcx7 hfx7 hcm0
              have BKm := aH
              have BKx := aK
              have HB := aL
              clear aH aK aL
              refine start_ (n := 12) (S := fun w' => w'.cell? ⟨gm, 5, none⟩ = some (.int .i64 av) ∧ w'.cell? ⟨gm, 6, none⟩ = some (.string ax) ∧ w'.cell? ⟨gm, 7, none⟩ = some (.int .i64 aw)) (ds := []) #[false, false, false, false, false, false, false, false, false, false, false, false] Z5 rfl rfl ⟨(blk_cell BKm.out 5).trans rfl, (blk_cell BKm.out 6).trans rfl, (blk_cell BKm.out 7).trans rfl⟩ (fun hHeld => ?_); refine with_tabW roadbookref07_Bare.tab26 roadbookref07_Bare.bits26 (fun HT_ HW_ => ?_)
              generalize World.drew _ = fV at BKm BKx HB hHeld ⊢
              refine pure_ (i := 0) (N := some 173) (v := ?_) (a' := ?_) #[true, false, false, false, false, false, false, false, false, false, false, false] rfl rfl (any_of HT_.out Z5) (fun _ _ _ h => h) (Or.inl ⟨Z13, ?_⟩) ?_ ?_
              rotate_left
              ·intro w'
               go_simp
               with_reducible rfl
              rotate_left
              ·simp only [Act.put, List.setIfInBounds_toArray, List.set_cons_zero, List.set_cons_succ, i64_w, i32_w]
               rfl
              refine pure_ (i := 2) (N := some 175) (v := ?_) (a' := ?_) #[true, false, true, false, false, false, false, false, false, false, false, false] rfl rfl (any_of HT_.out Z5) (fun _ _ _ h => h) (Or.inl ⟨Z13, ?_⟩) ?_ ?_
              rotate_left
              ·intro w'
               go_simp
               with_reducible rfl
              rotate_left
              ·simp only [Act.put, List.setIfInBounds_toArray, List.set_cons_zero, List.set_cons_succ, i64_w, i32_w]
               rfl
              refine pure_ (i := 4) (N := some 177) (v := ?_) (a' := ?_) #[true, false, true, false, true, false, false, false, false, false, false, false] rfl rfl (any_of HT_.out Z5) (fun _ _ _ h => h) (Or.inl ⟨Z13, ?_⟩) ?_ ?_
              rotate_left
              ·intro w'
               go_simp
               with_reducible rfl
              rotate_left
              ·simp only [Act.put, List.setIfInBounds_toArray, List.set_cons_zero, List.set_cons_succ, i64_w, i32_w]
               rfl
              refine take_ (i := 1) (N := some 174) (v := ?_) (a' := ?_) #[true, true, true, false, true, false, false, false, false, false, false, false] rfl rfl (take_ofW HT_.out HW_.out Z5) (fun _ _ _ h => h) (Or.inl ⟨Z13, ?_⟩) hHeld ?_ ?_
              rotate_left
              ·rintro w' ⟨s0, s1, s2⟩
               go_simp
               with_reducible rfl
              rotate_left
              ·simp only [Act.put, List.setIfInBounds_toArray, List.set_cons_zero, List.set_cons_succ, i64_w, i32_w]
               rfl
              refine pure_ (i := 6) (N := some 179) (v := ?_) (a' := ?_) #[true, true, true, false, true, false, true, false, false, false, false, false] rfl rfl (any_of HT_.out Z5) (fun _ _ _ h => h) (Or.inl ⟨Z13, ?_⟩) ?_ ?_
              rotate_left
              ·intro w'
               go_simp
               with_reducible rfl
              rotate_left
              ·simp only [Act.put, List.setIfInBounds_toArray, List.set_cons_zero, List.set_cons_succ, i64_w, i32_w]
               rfl
              refine take_ (i := 3) (N := some 176) (v := ?_) (a' := ?_) #[true, true, true, true, true, false, true, false, false, false, false, false] rfl rfl (take_ofW HT_.out HW_.out Z5) (fun _ _ _ h => h) (Or.inl ⟨Z13, ?_⟩) hHeld ?_ ?_
              rotate_left
              ·rintro w' ⟨s0, s1, s2⟩
               go_simp
               with_reducible rfl
              rotate_left
              ·simp only [Act.put, List.setIfInBounds_toArray, List.set_cons_zero, List.set_cons_succ, i64_w, i32_w]
               rfl
              refine take_ (i := 5) (N := some 178) (v := ?_) (a' := ?_) #[true, true, true, true, true, true, true, false, false, false, false, false] rfl rfl (take_ofW HT_.out HW_.out Z5) (fun _ _ _ h => h) (Or.inl ⟨Z13, ?_⟩) hHeld ?_ ?_
              rotate_left
              ·rintro w' ⟨s0, s1, s2⟩
               go_simp
               with_reducible rfl
              rotate_left
              ·simp only [Act.put, List.setIfInBounds_toArray, List.set_cons_zero, List.set_cons_succ, i64_w, i32_w]
               rfl
              refine one_ (i := 7) (N := none) #[true, true, true, true, true, true, true, true, false, false, false, false] rfl rfl (one_of HT_.out Z5) Z15 (fun K hK => ?_)
              have hs_ := (blk_cell BKx.out 5).trans (c := some (.int .i64 0)) rfl
              have hf_ := blk_frozen BKx.out 5
              refine skip_ (w1 := ?_) Z13 rfl ?_ ?_
              rotate_left
              ·go_simp
               rfl
              clear hs_ hf_
              refine hK.out _ _ ⟨(cell_far (p := ⟨gx, _, none⟩) NBmx.out _).trans (hHeld.1), (cell_far (p := ⟨gx, _, none⟩) NBmx.out _).trans (hHeld.2.1), (cell_far (p := ⟨gx, _, none⟩) NBmx.out _).trans (hHeld.2.2)⟩ (fun hHeld => ?_)
              clear hK K
              have aH := Aside0.mk (blk_put (cs' := #[.int .i64 12, .int .i64 0, .int .i64 0, .string ⟨#[]⟩, .int .i64 0, .int .i64 av, .string ⟨#[]⟩, .int .i64 0, .int .i64 0, .string ⟨#[]⟩, .int .i64 0, .string ⟨#[]⟩, .int .i64 0, .int .i64 0, .int .i64 0, .int .i64 0, .int .i64 0, .int .i64 0, .int .i64 0, .string ⟨#[]⟩, .string ⟨#[]⟩, .slice none 0 0, .int .i64 0, .string ⟨#[]⟩, .slice aI ab.length aJ]) BKx.out 5 (.int .i64 av) rfl)
              have aK := Aside0.mk (blk_far (p := ⟨gx, 5, none⟩) BKm.out NBmx.out (.int .i64 av))
              have aL := Aside0.mk (below_set (g := gx) (j := 5) (v := .int .i64 av) HB.out GEx.out)
              clear BKx BKm HB
              have BKx := aH
              have BKm := aK
              have HB := aL
              clear aH aK aL
              generalize World.setCell _ _ _ = fW at BKx BKm HB hHeld ⊢
              refine pure_ (i := 8) (N := some 180) (v := ?_) (a' := ?_) #[true, true, true, true, true, true, true, true, true, false, false, false] rfl rfl (any_of HT_.out Z5) (fun _ _ _ h => h) (Or.inl ⟨Z13, ?_⟩) ?_ ?_
              rotate_left
              ·intro w'
               go_simp
               with_reducible rfl
              rotate_left
              ·simp only [Act.put, List.setIfInBounds_toArray, List.set_cons_zero, List.set_cons_succ, i64_w, i32_w]
               rfl
              refine one_ (i := 9) (N := none) #[true, true, true, true, true, true, true, true, true, true, false, false] rfl rfl (one_of HT_.out Z5) Z15 (fun K hK => ?_)
              have hs_ := (blk_cell BKx.out 6).trans (c := some (.string ⟨#[]⟩)) rfl
              have hf_ := blk_frozen BKx.out 6
              refine skip_ (w1 := ?_) Z13 rfl ?_ ?_
              rotate_left
              ·go_simp
               rfl
              clear hs_ hf_
              refine hK.out _ _ ⟨(cell_far (p := ⟨gx, _, none⟩) NBmx.out _).trans (hHeld.1), (cell_far (p := ⟨gx, _, none⟩) NBmx.out _).trans (hHeld.2.1), (cell_far (p := ⟨gx, _, none⟩) NBmx.out _).trans (hHeld.2.2)⟩ (fun hHeld => ?_)
              clear hK K
              have aH := Aside0.mk (blk_put (cs' := #[.int .i64 12, .int .i64 0, .int .i64 0, .string ⟨#[]⟩, .int .i64 0, .int .i64 av, .string ax, .int .i64 0, .int .i64 0, .string ⟨#[]⟩, .int .i64 0, .string ⟨#[]⟩, .int .i64 0, .int .i64 0, .int .i64 0, .int .i64 0, .int .i64 0, .int .i64 0, .int .i64 0, .string ⟨#[]⟩, .string ⟨#[]⟩, .slice none 0 0, .int .i64 0, .string ⟨#[]⟩, .slice aI ab.length aJ]) BKx.out 6 (.string ax) rfl)
              have aK := Aside0.mk (blk_far (p := ⟨gx, 6, none⟩) BKm.out NBmx.out (.string ax))
              have aL := Aside0.mk (below_set (g := gx) (j := 6) (v := .string ax) HB.out GEx.out)
              clear BKx BKm HB
              have BKx := aH
              have BKm := aK
              have HB := aL
              clear aH aK aL
              generalize World.setCell _ _ _ = fX at BKx BKm HB hHeld ⊢
              refine pure_ (i := 10) (N := some 181) (v := ?_) (a' := ?_) #[true, true, true, true, true, true, true, true, true, true, true, false] rfl rfl (any_of HT_.out Z5) (fun _ _ _ h => h) (Or.inl ⟨Z13, ?_⟩) ?_ ?_
              rotate_left
              ·intro w'
               go_simp
               with_reducible rfl
              rotate_left
              ·simp only [Act.put, List.setIfInBounds_toArray, List.set_cons_zero, List.set_cons_succ, i64_w, i32_w]
               rfl
              refine one_ (i := 11) (N := none) #[true, true, true, true, true, true, true, true, true, true, true, true] rfl rfl (one_of HT_.out Z5) Z15 (fun K hK => ?_)
              have hs_ := (blk_cell BKx.out 7).trans (c := some (.int .i64 0)) rfl
              have hf_ := blk_frozen BKx.out 7
              refine skip_ (w1 := ?_) Z13 rfl ?_ ?_
              rotate_left
              ·go_simp
               rfl
              clear hs_ hf_
              refine hK.out _ _ ⟨(cell_far (p := ⟨gx, _, none⟩) NBmx.out _).trans (hHeld.1), (cell_far (p := ⟨gx, _, none⟩) NBmx.out _).trans (hHeld.2.1), (cell_far (p := ⟨gx, _, none⟩) NBmx.out _).trans (hHeld.2.2)⟩ (fun hHeld => ?_)
              clear hK K
              have aH := Aside0.mk (blk_put (cs' := #[.int .i64 12, .int .i64 0, .int .i64 0, .string ⟨#[]⟩, .int .i64 0, .int .i64 av, .string ax, .int .i64 aw, .int .i64 0, .string ⟨#[]⟩, .int .i64 0, .string ⟨#[]⟩, .int .i64 0, .int .i64 0, .int .i64 0, .int .i64 0, .int .i64 0, .int .i64 0, .int .i64 0, .string ⟨#[]⟩, .string ⟨#[]⟩, .slice none 0 0, .int .i64 0, .string ⟨#[]⟩, .slice aI ab.length aJ]) BKx.out 7 (.int .i64 aw) rfl)
              have aK := Aside0.mk (blk_far (p := ⟨gx, 7, none⟩) BKm.out NBmx.out (.int .i64 aw))
              have aL := Aside0.mk (below_set (g := gx) (j := 7) (v := .int .i64 aw) HB.out GEx.out)
              clear BKx BKm HB
              have BKx := aH
              have BKm := aK
              have HB := aL
              clear aH aK aL
              generalize World.setCell _ _ _ = hB at BKx BKm HB hHeld ⊢
              refine done_ (done_of HT_.out Z5) ?_
              go_wp2
              go_meet
              case rel => exact ⟨12, 0, 0, (⟨#[]⟩ : ByteArray), 0, av, ax, aw, 0, (⟨#[]⟩ : ByteArray), 0, (⟨#[]⟩ : ByteArray), 0, 0, 0, 0, 0, 0, 0, (⟨#[]⟩ : ByteArray), (⟨#[]⟩ : ByteArray), ([] : List S61), none, 0, 0, (⟨#[]⟩ : ByteArray), ab, aI, aJ, HRES, ⟨BKm.out⟩, BKx, ⟨HB.out⟩, ⟨Kd.C_nil _ _⟩, ⟨Nat.le_refl 0⟩, ⟨Kd.C_below bW.out HB.out⟩, bU⟩
             ·by_cases eV : aG = 13
              ·subst eV
               have HRES : Aside0 (roadbookref07_Same.f k 13 0 0 (⟨#[]⟩ : ByteArray) 0 av ax aw 0 (⟨#[]⟩ : ByteArray) 0 an ag 0 0 0 ak 0 0 (⟨#[]⟩ : ByteArray) (⟨#[]⟩ : ByteArray) ([] : List S61) 0 (⟨#[]⟩ : ByteArray) ab 13 aA aB az aC av ax aw aD ay ap an ag aq ai ah ak al ao aj am af ar au ab = some r) := ⟨(roadbookref07_Bare.f13 k aA aB az aC av ax aw aD ay ap an ag aq ai ah ak al ao aj am af ar au ab).symm.trans cB.out⟩
               clear cB
               have hcm5 := (blk_cell BKm.out 5).trans rfl
               have hcm6 := (blk_cell BKm.out 6).trans rfl
               have hcm7 := (blk_cell BKm.out 7).trans rfl
               have hcm11 := (blk_cell BKm.out 11).trans rfl
               have hcm12 := (blk_cell BKm.out 12).trans rfl
               have hcm16 := (blk_cell BKm.out 16).trans rfl
               have hcx5 := (blk_cell BKx.out 5).trans rfl
               have hfx5 := blk_frozen BKx.out 5
               have hcx6 := (blk_cell BKx.out 6).trans rfl
               have hfx6 := blk_frozen BKx.out 6
               have hcx7 := (blk_cell BKx.out 7).trans rfl
               have hfx7 := blk_frozen BKx.out 7
               have hcx11 := (blk_cell BKx.out 11).trans rfl
               have hfx11 := blk_frozen BKx.out 11
               have hcx12 := (blk_cell BKx.out 12).trans rfl
               have hfx12 := blk_frozen BKx.out 12
               have hcx16 := (blk_cell BKx.out 16).trans rfl
               have hfx16 := blk_frozen BKx.out 16
               go_wp2
               have aH := Aside0.mk (blk_drew BKm.out)
               have aK := Aside0.mk (blk_drew BKx.out)
               have aL := Aside0.mk (below_drew1 HB.out)
               clear BKm BKx HB hcm5 hcm6 hcm7 hcm11 hcm12 hcm16 hcx5 hfx5 hcx6 hfx6 hcx7 hfx7 hcx11 hfx11 hcx12 hfx12 hcx16 hfx16 hcm0
               have BKm := aH
               have BKx := aK
               have HB := aL
               clear aH aK aL
               refine start_ (n := 24) (S := fun w' => w'.cell? ⟨gm, 5, none⟩ = some (.int .i64 av) ∧ w'.cell? ⟨gm, 6, none⟩ = some (.string ax) ∧ w'.cell? ⟨gm, 7, none⟩ = some (.int .i64 aw) ∧ w'.cell? ⟨gm, 12, none⟩ = some (.int .i64 ag) ∧ w'.cell? ⟨gm, 16, none⟩ = some (.int .i64 ak) ∧ w'.cell? ⟨gm, 11, none⟩ = some (.string an)) (ds := []) #[false, false, false, false, false, false, false, false, false, false, false, false, false, false, false, false, false, false, false, false, false, false, false, false] Z5 rfl rfl ⟨(blk_cell BKm.out 5).trans rfl, (blk_cell BKm.out 6).trans rfl, (blk_cell BKm.out 7).trans rfl, (blk_cell BKm.out 12).trans rfl, (blk_cell BKm.out 16).trans rfl, (blk_cell BKm.out 11).trans rfl⟩ (fun hHeld => ?_); refine with_tabW roadbookref07_Bare.tab28 roadbookref07_Bare.bits28 (fun HT_ HW_ => ?_)
               generalize World.drew _ = fV at BKm BKx HB hHeld ⊢
               refine pure_ (i := 0) (N := some 184) (v := ?_) (a' := ?_) #[true, false, false, false, false, false, false, false, false, false, false, false, false, false, false, false, false, false, false, false, false, false, false, false] rfl rfl (any_of HT_.out Z5) (fun _ _ _ h => h) (Or.inl ⟨Z13, ?_⟩) ?_ ?_
               rotate_left
               ·intro w'
                go_simp
                with_reducible rfl
               rotate_left
               ·simp only [Act.put, List.setIfInBounds_toArray, List.set_cons_zero, List.set_cons_succ, i64_w, i32_w]
                rfl
               refine pure_ (i := 2) (N := some 186) (v := ?_) (a' := ?_) #[true, false, true, false, false, false, false, false, false, false, false, false, false, false, false, false, false, false, false, false, false, false, false, false] rfl rfl (any_of HT_.out Z5) (fun _ _ _ h => h) (Or.inl ⟨Z13, ?_⟩) ?_ ?_
               rotate_left
               ·intro w'
                go_simp
                with_reducible rfl
               rotate_left
               ·simp only [Act.put, List.setIfInBounds_toArray, List.set_cons_zero, List.set_cons_succ, i64_w, i32_w]
                rfl
               refine pure_ (i := 4) (N := some 188) (v := ?_) (a' := ?_) #[true, false, true, false, true, false, false, false, false, false, false, false, false, false, false, false, false, false, false, false, false, false, false, false] rfl rfl (any_of HT_.out Z5) (fun _ _ _ h => h) (Or.inl ⟨Z13, ?_⟩) ?_ ?_
               rotate_left
               ·intro w'
                go_simp
                with_reducible rfl
               rotate_left
               ·simp only [Act.put, List.setIfInBounds_toArray, List.set_cons_zero, List.set_cons_succ, i64_w, i32_w]
                rfl
               refine pure_ (i := 6) (N := some 190) (v := ?_) (a' := ?_) #[true, false, true, false, true, false, true, false, false, false, false, false, false, false, false, false, false, false, false, false, false, false, false, false] rfl rfl (any_of HT_.out Z5) (fun _ _ _ h => h) (Or.inl ⟨Z13, ?_⟩) ?_ ?_
               rotate_left
               ·intro w'
                go_simp
                with_reducible rfl
               rotate_left
               ·simp only [Act.put, List.setIfInBounds_toArray, List.set_cons_zero, List.set_cons_succ, i64_w, i32_w]
                rfl
               refine pure_ (i := 8) (N := some 192) (v := ?_) (a' := ?_) #[true, false, true, false, true, false, true, false, true, false, false, false, false, false, false, false, false, false, false, false, false, false, false, false] rfl rfl (any_of HT_.out Z5) (fun _ _ _ h => h) (Or.inl ⟨Z13, ?_⟩) ?_ ?_
               rotate_left
               ·intro w'
                go_simp
                with_reducible rfl
               rotate_left
               ·simp only [Act.put, List.setIfInBounds_toArray, List.set_cons_zero, List.set_cons_succ, i64_w, i32_w]
                rfl
               refine pure_ (i := 10) (N := some 194) (v := ?_) (a' := ?_) #[true, false, true, false, true, false, true, false, true, false, true, false, false, false, false, false, false, false, false, false, false, false, false, false] rfl rfl (any_of HT_.out Z5) (fun _ _ _ h => h) (Or.inl ⟨Z13, ?_⟩) ?_ ?_
               rotate_left
               ·intro w'
                go_simp
                with_reducible rfl
               rotate_left
               ·simp only [Act.put, List.setIfInBounds_toArray, List.set_cons_zero, List.set_cons_succ, i64_w, i32_w]
                rfl
               refine take_ (i := 1) (N := some 185) (v := ?_) (a' := ?_) #[true, true, true, false, true, false, true, false, true, false, true, false, false, false, false, false, false, false, false, false, false, false, false, false] rfl rfl (take_ofW HT_.out HW_.out Z5) (fun _ _ _ h => h) (Or.inl ⟨Z13, ?_⟩) hHeld ?_ ?_
               rotate_left
               ·rintro w' ⟨s0, s1, s2, s3, s4, s5⟩
                go_simp
                with_reducible rfl
               rotate_left
               ·simp only [Act.put, List.setIfInBounds_toArray, List.set_cons_zero, List.set_cons_succ, i64_w, i32_w]
                rfl
               refine pure_ (i := 12) (N := some 196) (v := ?_) (a' := ?_) #[true, true, true, false, true, false, true, false, true, false, true, false, true, false, false, false, false, false, false, false, false, false, false, false] rfl rfl (any_of HT_.out Z5) (fun _ _ _ h => h) (Or.inl ⟨Z13, ?_⟩) ?_ ?_
               rotate_left
               ·intro w'
                go_simp
                with_reducible rfl
               rotate_left
               ·simp only [Act.put, List.setIfInBounds_toArray, List.set_cons_zero, List.set_cons_succ, i64_w, i32_w]
                rfl
               refine take_ (i := 3) (N := some 187) (v := ?_) (a' := ?_) #[true, true, true, true, true, false, true, false, true, false, true, false, true, false, false, false, false, false, false, false, false, false, false, false] rfl rfl (take_ofW HT_.out HW_.out Z5) (fun _ _ _ h => h) (Or.inl ⟨Z13, ?_⟩) hHeld ?_ ?_
               rotate_left
               ·rintro w' ⟨s0, s1, s2, s3, s4, s5⟩
                go_simp
                with_reducible rfl
               rotate_left
               ·simp only [Act.put, List.setIfInBounds_toArray, List.set_cons_zero, List.set_cons_succ, i64_w, i32_w]
                rfl
               refine take_ (i := 5) (N := some 189) (v := ?_) (a' := ?_) #[true, true, true, true, true, true, true, false, true, false, true, false, true, false, false, false, false, false, false, false, false, false, false, false] rfl rfl (take_ofW HT_.out HW_.out Z5) (fun _ _ _ h => h) (Or.inl ⟨Z13, ?_⟩) hHeld ?_ ?_
               rotate_left
               ·rintro w' ⟨s0, s1, s2, s3, s4, s5⟩
                go_simp
                with_reducible rfl
               rotate_left
               ·simp only [Act.put, List.setIfInBounds_toArray, List.set_cons_zero, List.set_cons_succ, i64_w, i32_w]
                rfl
               refine take_ (i := 7) (N := some 191) (v := ?_) (a' := ?_) #[true, true, true, true, true, true, true, true, true, false, true, false, true, false, false, false, false, false, false, false, false, false, false, false] rfl rfl (take_ofW HT_.out HW_.out Z5) (fun _ _ _ h => h) (Or.inl ⟨Z13, ?_⟩) hHeld ?_ ?_
               rotate_left
               ·rintro w' ⟨s0, s1, s2, s3, s4, s5⟩
                go_simp
                with_reducible rfl
               rotate_left
               ·simp only [Act.put, List.setIfInBounds_toArray, List.set_cons_zero, List.set_cons_succ, i64_w, i32_w]
                rfl
               refine take_ (i := 9) (N := some 193) (v := ?_) (a' := ?_) #[true, true, true, true, true, true, true, true, true, true, true, false, true, false, false, false, false, false, false, false, false, false, false, false] rfl rfl (take_ofW HT_.out HW_.out Z5) (fun _ _ _ h => h) (Or.inl ⟨Z13, ?_⟩) hHeld ?_ ?_
               rotate_left
               ·rintro w' ⟨s0, s1, s2, s3, s4, s5⟩
                go_simp
                with_reducible rfl
               rotate_left
               ·simp only [Act.put, List.setIfInBounds_toArray, List.set_cons_zero, List.set_cons_succ, i64_w, i32_w]
                rfl
               refine take_ (i := 11) (N := some 195) (v := ?_) (a' := ?_) #[true, true, true, true, true, true, true, true, true, true, true, true, true, false, false, false, false, false, false, false, false, false, false, false] rfl rfl (take_ofW HT_.out HW_.out Z5) (fun _ _ _ h => h) (Or.inl ⟨Z13, ?_⟩) hHeld ?_ ?_
               rotate_left
               ·rintro w' ⟨s0, s1, s2, s3, s4, s5⟩
                go_simp
                with_reducible rfl
               rotate_left
               ·simp only [Act.put, List.setIfInBounds_toArray, List.set_cons_zero, List.set_cons_succ, i64_w, i32_w]
                rfl
               refine one_ (i := 13) (N := none) #[true, true, true, true, true, true, true, true, true, true, true, true, true, true, false, false, false, false, false, false, false, false, false, false] rfl rfl (one_of HT_.out Z5) Z15 (fun K hK => ?_)
               have hs_ := (blk_cell BKx.out 5).trans (c := some (.int .i64 0)) rfl
               have hf_ := blk_frozen BKx.out 5
               refine skip_ (w1 := ?_) Z13 rfl ?_ ?_
               rotate_left
               ·go_simp
                rfl
               clear hs_ hf_
               refine hK.out _ _ ⟨(cell_far (p := ⟨gx, _, none⟩) NBmx.out _).trans (hHeld.1), (cell_far (p := ⟨gx, _, none⟩) NBmx.out _).trans (hHeld.2.1), (cell_far (p := ⟨gx, _, none⟩) NBmx.out _).trans (hHeld.2.2.1), (cell_far (p := ⟨gx, _, none⟩) NBmx.out _).trans (hHeld.2.2.2.1), (cell_far (p := ⟨gx, _, none⟩) NBmx.out _).trans (hHeld.2.2.2.2.1), (cell_far (p := ⟨gx, _, none⟩) NBmx.out _).trans (hHeld.2.2.2.2.2)⟩ (fun hHeld => ?_)
               clear hK K
               have aH := Aside0.mk (blk_put (cs' := #[.int .i64 13, .int .i64 0, .int .i64 0, .string ⟨#[]⟩, .int .i64 0, .int .i64 av, .string ⟨#[]⟩, .int .i64 0, .int .i64 0, .string ⟨#[]⟩, .int .i64 0, .string ⟨#[]⟩, .int .i64 0, .int .i64 0, .int .i64 0, .int .i64 0, .int .i64 0, .int .i64 0, .int .i64 0, .string ⟨#[]⟩, .string ⟨#[]⟩, .slice none 0 0, .int .i64 0, .string ⟨#[]⟩, .slice aI ab.length aJ]) BKx.out 5 (.int .i64 av) rfl)
               have aK := Aside0.mk (blk_far (p := ⟨gx, 5, none⟩) BKm.out NBmx.out (.int .i64 av))
               have aL := Aside0.mk (below_set (g := gx) (j := 5) (v := .int .i64 av) HB.out GEx.out)
               clear BKx BKm HB
               have BKx := aH
               have BKm := aK
               have HB := aL
               clear aH aK aL
               generalize World.setCell _ _ _ = fW at BKx BKm HB hHeld ⊢
               refine pure_ (i := 14) (N := some 197) (v := ?_) (a' := ?_) #[true, true, true, true, true, true, true, true, true, true, true, true, true, true, true, false, false, false, false, false, false, false, false, false] rfl rfl (any_of HT_.out Z5) (fun _ _ _ h => h) (Or.inl ⟨Z13, ?_⟩) ?_ ?_
               rotate_left
               ·intro w'
                go_simp
                with_reducible rfl
               rotate_left
               ·simp only [Act.put, List.setIfInBounds_toArray, List.set_cons_zero, List.set_cons_succ, i64_w, i32_w]
                rfl
               refine one_ (i := 15) (N := none) #[true, true, true, true, true, true, true, true, true, true, true, true, true, true, true, true, false, false, false, false, false, false, false, false] rfl rfl (one_of HT_.out Z5) Z15 (fun K hK => ?_)
               have hs_ := (blk_cell BKx.out 6).trans (c := some (.string ⟨#[]⟩)) rfl
               have hf_ := blk_frozen BKx.out 6
               refine skip_ (w1 := ?_) Z13 rfl ?_ ?_
               rotate_left
               ·go_simp
                rfl
               clear hs_ hf_
               refine hK.out _ _ ⟨(cell_far (p := ⟨gx, _, none⟩) NBmx.out _).trans (hHeld.1), (cell_far (p := ⟨gx, _, none⟩) NBmx.out _).trans (hHeld.2.1), (cell_far (p := ⟨gx, _, none⟩) NBmx.out _).trans (hHeld.2.2.1), (cell_far (p := ⟨gx, _, none⟩) NBmx.out _).trans (hHeld.2.2.2.1), (cell_far (p := ⟨gx, _, none⟩) NBmx.out _).trans (hHeld.2.2.2.2.1), (cell_far (p := ⟨gx, _, none⟩) NBmx.out _).trans (hHeld.2.2.2.2.2)⟩ (fun hHeld => ?_)
               clear hK K
               have aH := Aside0.mk (blk_put (cs' := #[.int .i64 13, .int .i64 0, .int .i64 0, .string ⟨#[]⟩, .int .i64 0, .int .i64 av, .string ax, .int .i64 0, .int .i64 0, .string ⟨#[]⟩, .int .i64 0, .string ⟨#[]⟩, .int .i64 0, .int .i64 0, .int .i64 0, .int .i64 0, .int .i64 0, .int .i64 0, .int .i64 0, .string ⟨#[]⟩, .string ⟨#[]⟩, .slice none 0 0, .int .i64 0, .string ⟨#[]⟩, .slice aI ab.length aJ]) BKx.out 6 (.string ax) rfl)
               have aK := Aside0.mk (blk_far (p := ⟨gx, 6, none⟩) BKm.out NBmx.out (.string ax))
               have aL := Aside0.mk (below_set (g := gx) (j := 6) (v := .string ax) HB.out GEx.out)
               clear BKx BKm HB
               have BKx := aH
               have BKm := aK
               have HB := aL
               clear aH aK aL
               generalize World.setCell _ _ _ = fX at BKx BKm HB hHeld ⊢
               refine pure_ (i := 16) (N := some 198) (v := ?_) (a' := ?_) #[true, true, true, true, true, true, true, true, true, true, true, true, true, true, true, true, true, false, false, false, false, false, false, false] rfl rfl (any_of HT_.out Z5) (fun _ _ _ h => h) (Or.inl ⟨Z13, ?_⟩) ?_ ?_
               rotate_left
               ·intro w'
                go_simp
                with_reducible rfl
               rotate_left
               ·simp only [Act.put, List.setIfInBounds_toArray, List.set_cons_zero, List.set_cons_succ, i64_w, i32_w]
                rfl
               refine one_ (i := 17) (N := none) #[true, true, true, true, true, true, true, true, true, true, true, true, true, true, true, true, true, true, false, false, false, false, false, false] rfl rfl (one_of HT_.out Z5) Z15 (fun K hK => ?_)
               have hs_ := (blk_cell BKx.out 7).trans (c := some (.int .i64 0)) rfl
               have hf_ := blk_frozen BKx.out 7
               refine skip_ (w1 := ?_) Z13 rfl ?_ ?_
               rotate_left
               ·go_simp
                rfl
               clear hs_ hf_
               refine hK.out _ _ ⟨(cell_far (p := ⟨gx, _, none⟩) NBmx.out _).trans (hHeld.1), (cell_far (p := ⟨gx, _, none⟩) NBmx.out _).trans (hHeld.2.1), (cell_far (p := ⟨gx, _, none⟩) NBmx.out _).trans (hHeld.2.2.1), (cell_far (p := ⟨gx, _, none⟩) NBmx.out _).trans (hHeld.2.2.2.1), (cell_far (p := ⟨gx, _, none⟩) NBmx.out _).trans (hHeld.2.2.2.2.1), (cell_far (p := ⟨gx, _, none⟩) NBmx.out _).trans (hHeld.2.2.2.2.2)⟩ (fun hHeld => ?_)
               clear hK K
               have aH := Aside0.mk (blk_put (cs' := #[.int .i64 13, .int .i64 0, .int .i64 0, .string ⟨#[]⟩, .int .i64 0, .int .i64 av, .string ax, .int .i64 aw, .int .i64 0, .string ⟨#[]⟩, .int .i64 0, .string ⟨#[]⟩, .int .i64 0, .int .i64 0, .int .i64 0, .int .i64 0, .int .i64 0, .int .i64 0, .int .i64 0, .string ⟨#[]⟩, .string ⟨#[]⟩, .slice none 0 0, .int .i64 0, .string ⟨#[]⟩, .slice aI ab.length aJ]) BKx.out 7 (.int .i64 aw) rfl)
               have aK := Aside0.mk (blk_far (p := ⟨gx, 7, none⟩) BKm.out NBmx.out (.int .i64 aw))
               have aL := Aside0.mk (below_set (g := gx) (j := 7) (v := .int .i64 aw) HB.out GEx.out)
               clear BKx BKm HB
               have BKx := aH
               have BKm := aK
               have HB := aL
               clear aH aK aL
               generalize World.setCell _ _ _ = hB at BKx BKm HB hHeld ⊢
               refine pure_ (i := 18) (N := some 199) (v := ?_) (a' := ?_) #[true, true, true, true, true, true, true, true, true, true, true, true, true, true, true, true, true, true, true, false, false, false, false, false] rfl rfl (any_of HT_.out Z5) (fun _ _ _ h => h) (Or.inl ⟨Z13, ?_⟩) ?_ ?_
               rotate_left
               ·intro w'
                go_simp
                with_reducible rfl
               rotate_left
               ·simp only [Act.put, List.setIfInBounds_toArray, List.set_cons_zero, List.set_cons_succ, i64_w, i32_w]
                rfl
               refine one_ (i := 19) (N := none) #[true, true, true, true, true, true, true, true, true, true, true, true, true, true, true, true, true, true, true, true, false, false, false, false] rfl rfl (one_of HT_.out Z5) Z15 (fun K hK => ?_)
               have hs_ := (blk_cell BKx.out 12).trans (c := some (.int .i64 0)) rfl
               have hf_ := blk_frozen BKx.out 12
               refine skip_ (w1 := ?_) Z13 rfl ?_ ?_
               rotate_left
               ·go_simp
                rfl
               clear hs_ hf_
               refine hK.out _ _ ⟨(cell_far (p := ⟨gx, _, none⟩) NBmx.out _).trans (hHeld.1), (cell_far (p := ⟨gx, _, none⟩) NBmx.out _).trans (hHeld.2.1), (cell_far (p := ⟨gx, _, none⟩) NBmx.out _).trans (hHeld.2.2.1), (cell_far (p := ⟨gx, _, none⟩) NBmx.out _).trans (hHeld.2.2.2.1), (cell_far (p := ⟨gx, _, none⟩) NBmx.out _).trans (hHeld.2.2.2.2.1), (cell_far (p := ⟨gx, _, none⟩) NBmx.out _).trans (hHeld.2.2.2.2.2)⟩ (fun hHeld => ?_)
               clear hK K
               have aH := Aside0.mk (blk_put (cs' := #[.int .i64 13, .int .i64 0, .int .i64 0, .string ⟨#[]⟩, .int .i64 0, .int .i64 av, .string ax, .int .i64 aw, .int .i64 0, .string ⟨#[]⟩, .int .i64 0, .string ⟨#[]⟩, .int .i64 ag, .int .i64 0, .int .i64 0, .int .i64 0, .int .i64 0, .int .i64 0, .int .i64 0, .string ⟨#[]⟩, .string ⟨#[]⟩, .slice none 0 0, .int .i64 0, .string ⟨#[]⟩, .slice aI ab.length aJ]) BKx.out 12 (.int .i64 ag) rfl)
               have aK := Aside0.mk (blk_far (p := ⟨gx, 12, none⟩) BKm.out NBmx.out (.int .i64 ag))
               have aL := Aside0.mk (below_set (g := gx) (j := 12) (v := .int .i64 ag) HB.out GEx.out)
               clear BKx BKm HB
               have BKx := aH
               have BKm := aK
               have HB := aL
               clear aH aK aL
               generalize World.setCell _ _ _ = ij at BKx BKm HB hHeld ⊢
               refine pure_ (i := 20) (N := some 200) (v := ?_) (a' := ?_) #[true, true, true, true, true, true, true, true, true, true, true, true, true, true, true, true, true, true, true, true, true, false, false, false] rfl rfl (any_of HT_.out Z5) (fun _ _ _ h => h) (Or.inl ⟨Z13, ?_⟩) ?_ ?_
               rotate_left
               ·intro w'
                go_simp
                with_reducible rfl
               rotate_left
               ·simp only [Act.put, List.setIfInBounds_toArray, List.set_cons_zero, List.set_cons_succ, i64_w, i32_w]
                rfl
               refine one_ (i := 21) (N := none) #[true, true, true, true, true, true, true, true, true, true, true, true, true, true, true, true, true, true, true, true, true, true, false, false] rfl rfl (one_of HT_.out Z5) Z15 (fun K hK => ?_)
               have hs_ := (blk_cell BKx.out 16).trans (c := some (.int .i64 0)) rfl
               have hf_ := blk_frozen BKx.out 16
               refine skip_ (w1 := ?_) Z13 rfl ?_ ?_
               rotate_left
               ·go_simp
                rfl
               clear hs_ hf_
               refine hK.out _ _ ⟨(cell_far (p := ⟨gx, _, none⟩) NBmx.out _).trans (hHeld.1), (cell_far (p := ⟨gx, _, none⟩) NBmx.out _).trans (hHeld.2.1), (cell_far (p := ⟨gx, _, none⟩) NBmx.out _).trans (hHeld.2.2.1), (cell_far (p := ⟨gx, _, none⟩) NBmx.out _).trans (hHeld.2.2.2.1), (cell_far (p := ⟨gx, _, none⟩) NBmx.out _).trans (hHeld.2.2.2.2.1), (cell_far (p := ⟨gx, _, none⟩) NBmx.out _).trans (hHeld.2.2.2.2.2)⟩ (fun hHeld => ?_)
               clear hK K
               have aH := Aside0.mk (blk_put (cs' := #[.int .i64 13, .int .i64 0, .int .i64 0, .string ⟨#[]⟩, .int .i64 0, .int .i64 av, .string ax, .int .i64 aw, .int .i64 0, .string ⟨#[]⟩, .int .i64 0, .string ⟨#[]⟩, .int .i64 ag, .int .i64 0, .int .i64 0, .int .i64 0, .int .i64 ak, .int .i64 0, .int .i64 0, .string ⟨#[]⟩, .string ⟨#[]⟩, .slice none 0 0, .int .i64 0, .string ⟨#[]⟩, .slice aI ab.length aJ]) BKx.out 16 (.int .i64 ak) rfl)
               have aK := Aside0.mk (blk_far (p := ⟨gx, 16, none⟩) BKm.out NBmx.out (.int .i64 ak))
               have aL := Aside0.mk (below_set (g := gx) (j := 16) (v := .int .i64 ak) HB.out GEx.out)
               clear BKx BKm HB
               have BKx := aH
               have BKm := aK
               have HB := aL
               clear aH aK aL
               generalize World.setCell _ _ _ = iv at BKx BKm HB hHeld ⊢
               refine pure_ (i := 22) (N := some 201) (v := ?_) (a' := ?_) #[true, true, true, true, true, true, true, true, true, true, true, true, true, true, true, true, true, true, true, true, true, true, true, false] rfl rfl (any_of HT_.out Z5) (fun _ _ _ h => h) (Or.inl ⟨Z13, ?_⟩) ?_ ?_
               rotate_left
               ·intro w'
                go_simp
                with_reducible rfl
               rotate_left
               ·simp only [Act.put, List.setIfInBounds_toArray, List.set_cons_zero, List.set_cons_succ, i64_w, i32_w]
                rfl
               refine one_ (i := 23) (N := none) #[true, true, true, true, true, true, true, true, true, true, true, true, true, true, true, true, true, true, true, true, true, true, true, true] rfl rfl (one_of HT_.out Z5) Z15 (fun K hK => ?_)
               have hs_ := (blk_cell BKx.out 11).trans (c := some (.string ⟨#[]⟩)) rfl
               have hf_ := blk_frozen BKx.out 11
               refine skip_ (w1 := ?_) Z13 rfl ?_ ?_
               rotate_left
               ·go_simp
                rfl
               clear hs_ hf_
               refine hK.out _ _ ⟨(cell_far (p := ⟨gx, _, none⟩) NBmx.out _).trans (hHeld.1), (cell_far (p := ⟨gx, _, none⟩) NBmx.out _).trans (hHeld.2.1), (cell_far (p := ⟨gx, _, none⟩) NBmx.out _).trans (hHeld.2.2.1), (cell_far (p := ⟨gx, _, none⟩) NBmx.out _).trans (hHeld.2.2.2.1), (cell_far (p := ⟨gx, _, none⟩) NBmx.out _).trans (hHeld.2.2.2.2.1), (cell_far (p := ⟨gx, _, none⟩) NBmx.out _).trans (hHeld.2.2.2.2.2)⟩ (fun hHeld => ?_)
               clear hK K
               have aH := Aside0.mk (blk_put (cs' := #[.int .i64 13, .int .i64 0, .int .i64 0, .string ⟨#[]⟩, .int .i64 0, .int .i64 av, .string ax, .int .i64 aw, .int .i64 0, .string ⟨#[]⟩, .int .i64 0, .string an, .int .i64 ag, .int .i64 0, .int .i64 0, .int .i64 0, .int .i64 ak, .int .i64 0, .int .i64 0, .string ⟨#[]⟩, .string ⟨#[]⟩, .slice none 0 0, .int .i64 0, .string ⟨#[]⟩, .slice aI ab.length aJ]) BKx.out 11 (.string an) rfl)
               have aK := Aside0.mk (blk_far (p := ⟨gx, 11, none⟩) BKm.out NBmx.out (.string an))
               have aL := Aside0.mk (below_set (g := gx) (j := 11) (v := .string an) HB.out GEx.out)
               clear BKx BKm HB
               have BKx := aH
               have BKm := aK
               have HB := aL
               clear aH aK aL
               generalize World.setCell _ _ _ = iw at BKx BKm HB hHeld ⊢
               refine done_ (done_of HT_.out Z5) ?_
               go_wp2
               go_meet
               case rel => exact ⟨13, 0, 0, (⟨#[]⟩ : ByteArray), 0, av, ax, aw, 0, (⟨#[]⟩ : ByteArray), 0, an, ag, 0, 0, 0, ak, 0, 0, (⟨#[]⟩ : ByteArray), (⟨#[]⟩ : ByteArray), ([] : List S61), none, 0, 0, (⟨#[]⟩ : ByteArray), ab, aI, aJ, HRES, ⟨BKm.out⟩, BKx, ⟨HB.out⟩, ⟨Kd.C_nil _ _⟩, ⟨Nat.le_refl 0⟩, ⟨Kd.C_below bW.out HB.out⟩, bU⟩
              ·by_cases fr : aG = 14
               ·subst fr
                have HRES : Aside0 (roadbookref07_Same.f k 14 0 0 (⟨#[]⟩ : ByteArray) 0 0 (⟨#[]⟩ : ByteArray) 0 0 (⟨#[]⟩ : ByteArray) 0 (⟨#[]⟩ : ByteArray) 0 0 0 0 0 0 0 (⟨#[]⟩ : ByteArray) (⟨#[]⟩ : ByteArray) ([] : List S61) ar au ([] : List S63) 14 aA aB az aC av ax aw aD ay ap an ag aq ai ah ak al ao aj am af ar au ab = some r) := ⟨(roadbookref07_Bare.f14 k aA aB az aC av ax aw aD ay ap an ag aq ai ah ak al ao aj am af ar au ab).symm.trans cB.out⟩
                clear cB
                have hcm22 := (blk_cell BKm.out 22).trans rfl
                have hcm23 := (blk_cell BKm.out 23).trans rfl
                go_wp2_with (first | ((with_reducible refine gate_dst (N := 210) rfl ?_); refine Pre.build_event 210 58 [(0, .tmp 205), (22, .tmp 207), (23, .tmp 209)] rfl rfl rfl (roadbookref07_Bare.bd210 _ _ _) ?_) | ((with_reducible refine Pre.gate_store 58 rfl ?_); refine Pre.store_abs rfl rfl rfl Z13 Z13 Z25 Z5 Z13 Z13 ?_; intro wS hbS sS; have aH := Aside0.mk (sS.blk Z17 NBmx.out); have aK := Aside0.mk (sS.below Z11 GEx.out); have aL := Aside0.mk hbS; clear BKm HB BKx hbS sS; have BKm := aH; have HB := aK; have BKx := aL; clear aH aK aL))
                go_meet
                case rel => exact ⟨14, 0, 0, (⟨#[]⟩ : ByteArray), 0, 0, (⟨#[]⟩ : ByteArray), 0, 0, (⟨#[]⟩ : ByteArray), 0, (⟨#[]⟩ : ByteArray), 0, 0, 0, 0, 0, 0, 0, (⟨#[]⟩ : ByteArray), (⟨#[]⟩ : ByteArray), ([] : List S61), none, 0, ar, au, ([] : List S63), none, 0, HRES, ⟨BKm.out⟩, BKx, ⟨HB.out⟩, ⟨Kd.C_nil _ _⟩, ⟨Nat.le_refl 0⟩, ⟨Kd.C_nil _ _⟩, ⟨Nat.le_refl 0⟩⟩
               ·obtain rfl : r = false := (Option.some.inj (cB.out.symm.trans (roadbookref07_Bare.fno k aG aA aB az aC av ax aw aD ay ap an ag aq ai ah ak al ao aj am af ar au ab Z27)))
                have d1 : (aG == 1) = false := beq_eq_false_iff_ne.mpr c1
                have d2 : (aG == 2) = false := beq_eq_false_iff_ne.mpr c2
                have d3 : (aG == 3) = false := beq_eq_false_iff_ne.mpr c3
                have d4 : (aG == 4) = false := beq_eq_false_iff_ne.mpr c4
                have d5 : (aG == 5) = false := beq_eq_false_iff_ne.mpr c5
                have d6 : (aG == 6) = false := beq_eq_false_iff_ne.mpr c6
                have d7 : (aG == 7) = false := beq_eq_false_iff_ne.mpr c7
                have d8 : (aG == 8) = false := beq_eq_false_iff_ne.mpr c8
                have d9 : (aG == 9) = false := beq_eq_false_iff_ne.mpr c9
                have d10 : (aG == 10) = false := beq_eq_false_iff_ne.mpr dx
                have d11 : (aG == 11) = false := beq_eq_false_iff_ne.mpr fq
                have d12 : (aG == 12) = false := beq_eq_false_iff_ne.mpr eU
                have d13 : (aG == 13) = false := beq_eq_false_iff_ne.mpr eV
                have d14 : (aG == 14) = false := beq_eq_false_iff_ne.mpr fr
                clear c1 c2 c3 c4 c5 c6 c7 c8 c9 dx fq eU eV fr cB
                go_wp2
                go_ret
                exact ⟨rfl, Z20⟩
 case rest =>
  clear hcm0 cB BKm BKx HB
  obtain ⟨p0, p1, p2, p3, p4, p5, p6, p7, p8, p9, p10, p11, p12, p13, p14, p15, p16, p17, p18, p19, p20, p21, P21, C21, p22, p23, p24, P24, C24, HRES, BKm, BKx, HB, HP21, HQ21, HP24, HQ24⟩ := hcut
  go_wp2_with (first | ((with_reducible refine Pre.gate_load 58 rfl ?_); refine Pre.load_event rfl rfl rfl Z13 (by (with_reducible repeat (first | refine blk_drewN ?_ _ | refine blk_drew ?_ | refine blk_alloc ?_ _)); (with_reducible first | exact BKx.out | exact BKm.out)) Try.underlying58 rfl Z5 ?_) | ((with_reducible refine gate_callee (f := 47) rfl ?_); refine goesL_ (some 213) rfl rfl Try.func47 Z5 rfl #[.agg #[.int .i64 p0, .int .i64 p1, .int .i64 p2, .string p3, .int .i64 p4, .int .i64 p5, .string p6, .int .i64 p7, .int .i64 p8, .string p9, .int .i64 p10, .string p11, .int .i64 p12, .int .i64 p13, .int .i64 p14, .int .i64 p15, .int .i64 p16, .int .i64 p17, .int .i64 p18, .string p19, .string p20, .slice P21 p21.length C21, .int .i64 p22, .string p23, .slice P24 p24.length C24], .agg #[.int .i64 aG, .int .i64 aA, .int .i64 aB, .string az, .int .i64 aC, .int .i64 av, .string ax, .int .i64 aw, .int .i64 aD, .string ay, .int .i64 ap, .string an, .int .i64 ag, .int .i64 aq, .int .i64 ai, .int .i64 ah, .int .i64 ak, .int .i64 al, .int .i64 ao, .string aj, .string am, .slice bf af.length bg, .int .i64 ar, .string au, .slice aI ab.length aJ]] rfl (by (try simp only [List.map_toArray, List.map_cons, List.map_nil]); first | done | rfl) ?_; (with_reducible refine (roadbookref07_Same.calls k p0 p1 p2 p3 p4 p5 p6 p7 p8 p9 p10 p11 p12 p13 p14 p15 p16 p17 p18 p19 p20 _ _ p21 p22 p23 _ _ p24 aG aA aB az aC av ax aw aD ay ap an ag aq ai ah ak al ao aj am _ _ af ar au _ _ ab _ _ ?side1 ?side2 ?side3 ?side4 ?side5 ?side6 ?side7 ?side8 HRES.out).mono ?_); (case side1 => exact (by repeat (first | exact HP21.out | (with_reducible refine Kd.C_alloc ?_ _) | (with_reducible refine Kd.C_drewN ?_ _) | (with_reducible refine Kd.C_drew ?_)))); (case side2 => exact HQ21.out); (case side3 => exact (by repeat (first | exact HP24.out | (with_reducible refine Kd.C_alloc ?_ _) | (with_reducible refine Kd.C_drewN ?_ _) | (with_reducible refine Kd.C_drew ?_)))); (case side4 => exact HQ24.out); (case side5 => exact Z12); (case side6 => exact cF.out); (case side7 => exact Z21); (case side8 => exact bU.out); rintro e w6 ⟨rfl, hb⟩; refine ⟨_, rfl, ?_⟩; have aK := Aside0.mk (below_step Z20 hb); replace HB := aK; clear aK; (try clear hb)))
  go_ret
  exact ⟨rfl, Z20⟩

end Go.Proofs.Ytelcciekdoccfaa.PM
