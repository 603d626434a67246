-- Written by mp.py, a program of this work (wip/tools), out of the translation; Lean checks it.
import Derived.Test.YtnifhgackjkkbaaPNxZ
import Derived.Test.YtnifhgackjkkbaaPNxripng
import Derived.Test.YtnifhgackjkkbaaPNxripngEncode
import Derived.Test.YtnifhgackjkkbaaPNxripngRight
import Derived.Test.YtnifhgackjkkbaaPNxstringslite
import Derived.Test.YtnifhgackjkkbaaAbs
import Derived.Test.YtnifhgackjkkbaaLoad
namespace Go.Proofs.Ytnifhgackjkkbaa.PN
open Go.RowKit Go.Proofs.YtnifhgackjkkbaaW.PrintWords Go.Proofs.YtnifhgackjkkbaaW.PrintLast Go.Proofs.YtnifhgackjkkbaaW.PrintMore
attribute [local go_sem] max2_int min2_int max_two min_two max_three min_three max_four min_four   -- for this text's walks alone
set_option linter.unusedVariables false
set_option linter.unusedSimpArgs false

/-! ### roadbooklaw12_awake: function 7 -/
def roadbooklaw12_awake.f (k : Nat)  : Option (Bool) := if 16 ≤ 281474976710656 then ((some (List.replicate 16 0 : List Int)).bind fun eS => ((roadbooklaw12_hop.f).bind fun aJ => ((ripng_Encode.f k (([(⟨2, 2, 0, (⟨#[]⟩ : ByteArray), 0, 0, strOfNums eS, 0, 0, aJ, 1, (⟨#[]⟩ : ByteArray), 0, 0, 0, 0, 0, 0, 0, (⟨#[]⟩ : ByteArray), (⟨#[]⟩ : ByteArray), ([] : List (S66)), 0, (⟨#[]⟩ : ByteArray), ([] : List (S68))⟩ : S34), (⟨2, 2, 0, (⟨#[]⟩ : ByteArray), 0, 0, strOfNums eS, 0, 0, aJ, 1, (⟨#[]⟩ : ByteArray), 0, 0, 0, 0, 0, 0, 0, (⟨#[]⟩ : ByteArray), (⟨#[]⟩ : ByteArray), ([] : List (S66)), 0, (⟨#[]⟩ : ByteArray), ([] : List (S68))⟩ : S34)] : List (S34)))).bind fun bt109 => ((ripng_Parse.f k bt109.1).bind fun bt112 => (if bt109.2.2 = 0 then (if bt112.2.2 = 0 then (if (bt109.1.size : Int) = 64 then (if (bt112.1.length : Int) = 2 then (if 1 < (bt112.1.length : Int) then ((roadbooklaw12_hop.f).bind fun t118 => (if ((rd_T34 bt112.1 1).f9).toList = t118.toList then ((ripng_Right.f k 2 2 0 (⟨#[]⟩ : ByteArray) 0 0 (strOfNums eS) 0 0 aJ 1 (⟨#[]⟩ : ByteArray) 0 0 0 0 0 0 0 (⟨#[]⟩ : ByteArray) (⟨#[]⟩ : ByteArray) ([] : List (S66)) 0 (⟨#[]⟩ : ByteArray) ([] : List (S68))).bind fun t119 => (if t119 = true then (if 4 ≤ 20 then (if 20 ≤ (bt109.1.size : Int) then ((roadbooklaw12_hop.f).bind fun t120 => (if (bt109.1.extract 4 20).toList = t120.toList then (if 23 < (bt109.1.size : Int) then (some ((bt bt109.1 23) == 255)) else (none)) else (some false))) else (none)) else (none)) else (some false))) else (some false))) else (none)) else (some false)) else (some false)) else (some false)) else (some false)))))) else (none)
theorem roadbooklaw12_awake.mono : ∀ k, LeO (roadbooklaw12_awake.f k ) (roadbooklaw12_awake.f (k + 1) ) := by
 intro  k
 unfold roadbooklaw12_awake.f
 have m0 := ripng_Encode.mono
 have m1 := ripng_Parse.mono
 have m2 := ripng_Right.mono
 exact Sq.mo
def roadbooklaw12_awake.T4 : Bool × List (List Nat × List Nat) := (true, [([], []), ([0], [0]), ([1], [1]), ([2], [2]), ([3, 2], [2, 3]), ([2, 4], [2, 4]), ([5, 2], [5]), ([6], [6]), ([7, 6], [6, 7]), ([8, 6], [6, 8]), ([6, 9], [6, 9]), ([10, 6], [10]), ([11], [11]), ([12, 11], [11, 12]), ([13, 11], [11, 13]), ([11, 14], [11, 14]), ([15, 11], [15]), ([16], [16]), ([17, 16], [16, 17]), ([18, 16], [16, 18]), ([19, 16], [16, 19]), ([16, 16], [16]), ([20, 21, 16], [16, 20, 21]), ([16, 22], [16, 22]), ([23, 21], [23]), ([24], [24]), ([25, 24, 24], [24, 25]), ([24, 26], [24, 26]), ([27, 26], [27]), ([28], [28]), ([29, 28], [28, 29]), ([28, 28], [28]), ([30, 31, 28], [28, 30, 31]), ([28, 32], [28, 32]), ([33, 31], [33]), ([34], [34]), ([35, 34], [34, 35]), ([36, 34], [34, 36]), ([34, 37], [34, 37]), ([38, 34, 0, 1, 2, 3, 4, 5, 6, 7, 8, 9, 10, 11, 12, 13, 14, 15, 16, 17, 18, 19, 20, 21, 22, 23, 24, 25, 26, 27, 28, 29, 30, 31, 32, 33, 34, 35, 36, 37, 38], [38])])
def roadbooklaw12_awake.B4 : List Nat := [0, 1, 3, 7, 15, 31, 63, 127, 255, 511, 1023, 2047, 4095, 8191, 16383, 32767, 65535, 131071, 262143, 524287, 1048575, 131071, 4194303, 8388607, 16777215, 33554431, 67108863, 134217727, 268435455, 536870911, 1073741823, 536870911, 4294967295, 8589934591, 17179869183, 34359738367, 68719476735, 137438953471, 274877906943, 549755813887]
theorem roadbooklaw12_awake.tab4 : rtab .any (opsOf Try.f7 4) = roadbooklaw12_awake.T4 := by kernel_rfl
theorem roadbooklaw12_awake.bits4 : waitsOk roadbooklaw12_awake.T4.2 roadbooklaw12_awake.B4 = true := by kernel_rfl
set_option maxRecDepth 100000 in
theorem roadbooklaw12_awake.bd11 (v0 : Int) (v1 : Int) (v6 : ByteArray) (v9 : ByteArray) (fe : Int) : Try.prog.built 34 [(0, .int .i64 v0), (1, .int .i64 v1), (6, .string v6), (9, .string v9), (10, .int .i64 fe)] = some #[.int .i64 v0, .int .i64 v1, .int .i64 0, .string ⟨#[]⟩, .int .i64 0, .int .i64 0, .string v6, .int .i64 0, .int .i64 0, .string v9, .int .i64 fe, .string ⟨#[]⟩, .int .i64 0, .int .i64 0, .int .i64 0, .int .i64 0, .int .i64 0, .int .i64 0, .int .i64 0, .string ⟨#[]⟩, .string ⟨#[]⟩, .slice none 0 0, .int .i64 0, .string ⟨#[]⟩, .slice none 0 0] := by kernel_rfl
set_option maxHeartbeats 8000000 in
set_option maxRecDepth 100000 in
theorem roadbooklaw12_awake.calls (k : Nat)  (r : Bool) (w : World) (hr_ : Aside0 (r = true)) (h : roadbooklaw12_awake.f k  = some r) :
  Calls Try.prog 7 #[] w fun e w' => e = .returned (.bool r) ∧ Below w.heap.size w w' := by
 have fu := Try.underlying34
 have HB := Aside0.mk (Below.refl w.heap.size w)
 have H : (if 16 ≤ 281474976710656 then ((some (List.replicate 16 0 : List Int)).bind fun eS => ((roadbooklaw12_hop.f).bind fun aJ => ((ripng_Encode.f k (([(⟨2, 2, 0, (⟨#[]⟩ : ByteArray), 0, 0, strOfNums eS, 0, 0, aJ, 1, (⟨#[]⟩ : ByteArray), 0, 0, 0, 0, 0, 0, 0, (⟨#[]⟩ : ByteArray), (⟨#[]⟩ : ByteArray), ([] : List (S66)), 0, (⟨#[]⟩ : ByteArray), ([] : List (S68))⟩ : S34), (⟨2, 2, 0, (⟨#[]⟩ : ByteArray), 0, 0, strOfNums eS, 0, 0, aJ, 1, (⟨#[]⟩ : ByteArray), 0, 0, 0, 0, 0, 0, 0, (⟨#[]⟩ : ByteArray), (⟨#[]⟩ : ByteArray), ([] : List (S66)), 0, (⟨#[]⟩ : ByteArray), ([] : List (S68))⟩ : S34)] : List (S34)))).bind fun bt109 => ((ripng_Parse.f k bt109.1).bind fun bt112 => (if bt109.2.2 = 0 then (if bt112.2.2 = 0 then (if (bt109.1.size : Int) = 64 then (if (bt112.1.length : Int) = 2 then (if 1 < (bt112.1.length : Int) then ((roadbooklaw12_hop.f).bind fun t118 => (if ((rd_T34 bt112.1 1).f9).toList = t118.toList then ((ripng_Right.f k 2 2 0 (⟨#[]⟩ : ByteArray) 0 0 (strOfNums eS) 0 0 aJ 1 (⟨#[]⟩ : ByteArray) 0 0 0 0 0 0 0 (⟨#[]⟩ : ByteArray) (⟨#[]⟩ : ByteArray) ([] : List (S66)) 0 (⟨#[]⟩ : ByteArray) ([] : List (S68))).bind fun t119 => (if t119 = true then (if 4 ≤ 20 then (if 20 ≤ (bt109.1.size : Int) then ((roadbooklaw12_hop.f).bind fun t120 => (if (bt109.1.extract 4 20).toList = t120.toList then (if 23 < (bt109.1.size : Int) then (some ((bt bt109.1 23) == 255)) else (none)) else (some false))) else (none)) else (none)) else (some false))) else (some false))) else (none)) else (some false)) else (some false)) else (some false)) else (some false)))))) else (none)) = some r := h
 clear h
 by_cases c1 : 16 ≤ 281474976710656
 ·rw [if_pos c1] at H
  have c1b0 := eq_true c1
  have c1b1 : decide (16 ≤ 281474976710656) = true := decide_eq_true c1
  clear c1
  obtain ⟨eS, hy101⟩ : ∃ y_ : List Int, y_ = (List.replicate 16 0) := ⟨_, rfl⟩
  replace H : ((roadbooklaw12_hop.f).bind fun aJ => ((ripng_Encode.f k (([(⟨2, 2, 0, (⟨#[]⟩ : ByteArray), 0, 0, strOfNums eS, 0, 0, aJ, 1, (⟨#[]⟩ : ByteArray), 0, 0, 0, 0, 0, 0, 0, (⟨#[]⟩ : ByteArray), (⟨#[]⟩ : ByteArray), ([] : List (S66)), 0, (⟨#[]⟩ : ByteArray), ([] : List (S68))⟩ : S34), (⟨2, 2, 0, (⟨#[]⟩ : ByteArray), 0, 0, strOfNums eS, 0, 0, aJ, 1, (⟨#[]⟩ : ByteArray), 0, 0, 0, 0, 0, 0, 0, (⟨#[]⟩ : ByteArray), (⟨#[]⟩ : ByteArray), ([] : List (S66)), 0, (⟨#[]⟩ : ByteArray), ([] : List (S68))⟩ : S34)] : List (S34)))).bind fun bt109 => ((ripng_Parse.f k bt109.1).bind fun bt112 => (if bt109.2.2 = 0 then (if bt112.2.2 = 0 then (if (bt109.1.size : Int) = 64 then (if (bt112.1.length : Int) = 2 then (if 1 < (bt112.1.length : Int) then ((roadbooklaw12_hop.f).bind fun t118 => (if ((rd_T34 bt112.1 1).f9).toList = t118.toList then ((ripng_Right.f k 2 2 0 (⟨#[]⟩ : ByteArray) 0 0 (strOfNums eS) 0 0 aJ 1 (⟨#[]⟩ : ByteArray) 0 0 0 0 0 0 0 (⟨#[]⟩ : ByteArray) (⟨#[]⟩ : ByteArray) ([] : List (S66)) 0 (⟨#[]⟩ : ByteArray) ([] : List (S68))).bind fun t119 => (if t119 = true then (if 4 ≤ 20 then (if 20 ≤ (bt109.1.size : Int) then ((roadbooklaw12_hop.f).bind fun t120 => (if (bt109.1.extract 4 20).toList = t120.toList then (if 23 < (bt109.1.size : Int) then (some ((bt bt109.1 23) == 255)) else (none)) else (some false))) else (none)) else (none)) else (some false))) else (some false))) else (none)) else (some false)) else (some false)) else (some false)) else (some false))))) = some r := by first | (rw [hy101]; with_reducible exact H) | (have H2_ := (Option.bind_some _ _).symm.trans H; rw [hy101]; with_reducible exact H2_) | (have H2_ := (Option.bind_some _ _).symm.trans H; with_reducible exact H2_) | with_reducible exact H | (rw [hy101]; exact H) | exact H
  have Ny101 := Aside0.mk hy101
  clear hy101
  replace H := Option.bind_eq_some_iff.mp H
  obtain ⟨aJ, A20, H⟩ := H
  replace H : ((ripng_Encode.f k (([(⟨2, 2, 0, (⟨#[]⟩ : ByteArray), 0, 0, strOfNums eS, 0, 0, aJ, 1, (⟨#[]⟩ : ByteArray), 0, 0, 0, 0, 0, 0, 0, (⟨#[]⟩ : ByteArray), (⟨#[]⟩ : ByteArray), ([] : List (S66)), 0, (⟨#[]⟩ : ByteArray), ([] : List (S68))⟩ : S34), (⟨2, 2, 0, (⟨#[]⟩ : ByteArray), 0, 0, strOfNums eS, 0, 0, aJ, 1, (⟨#[]⟩ : ByteArray), 0, 0, 0, 0, 0, 0, 0, (⟨#[]⟩ : ByteArray), (⟨#[]⟩ : ByteArray), ([] : List (S66)), 0, (⟨#[]⟩ : ByteArray), ([] : List (S68))⟩ : S34)] : List (S34)))).bind fun bt109 => ((ripng_Parse.f k bt109.1).bind fun bt112 => (if bt109.2.2 = 0 then (if bt112.2.2 = 0 then (if (bt109.1.size : Int) = 64 then (if (bt112.1.length : Int) = 2 then (if 1 < (bt112.1.length : Int) then ((roadbooklaw12_hop.f).bind fun t118 => (if ((rd_T34 bt112.1 1).f9).toList = t118.toList then ((ripng_Right.f k 2 2 0 (⟨#[]⟩ : ByteArray) 0 0 (strOfNums eS) 0 0 aJ 1 (⟨#[]⟩ : ByteArray) 0 0 0 0 0 0 0 (⟨#[]⟩ : ByteArray) (⟨#[]⟩ : ByteArray) ([] : List (S66)) 0 (⟨#[]⟩ : ByteArray) ([] : List (S68))).bind fun t119 => (if t119 = true then (if 4 ≤ 20 then (if 20 ≤ (bt109.1.size : Int) then ((roadbooklaw12_hop.f).bind fun t120 => (if (bt109.1.extract 4 20).toList = t120.toList then (if 23 < (bt109.1.size : Int) then (some ((bt bt109.1 23) == 255)) else (none)) else (some false))) else (none)) else (none)) else (some false))) else (some false))) else (none)) else (some false)) else (some false)) else (some false)) else (some false)))) = some r := H
  have A2 := Aside0.mk A20
  clear A20
  obtain ⟨fY, hy106⟩ : ∃ y_ : List (S34), y_ = (([(⟨2, 2, 0, (⟨#[]⟩ : ByteArray), 0, 0, strOfNums eS, 0, 0, aJ, 1, (⟨#[]⟩ : ByteArray), 0, 0, 0, 0, 0, 0, 0, (⟨#[]⟩ : ByteArray), (⟨#[]⟩ : ByteArray), ([] : List (S66)), 0, (⟨#[]⟩ : ByteArray), ([] : List (S68))⟩ : S34), (⟨2, 2, 0, (⟨#[]⟩ : ByteArray), 0, 0, strOfNums eS, 0, 0, aJ, 1, (⟨#[]⟩ : ByteArray), 0, 0, 0, 0, 0, 0, 0, (⟨#[]⟩ : ByteArray), (⟨#[]⟩ : ByteArray), ([] : List (S66)), 0, (⟨#[]⟩ : ByteArray), ([] : List (S68))⟩ : S34)] : List (S34))) := ⟨_, rfl⟩
  replace H : ((ripng_Encode.f k fY).bind fun bt109 => ((ripng_Parse.f k bt109.1).bind fun bt112 => (if bt109.2.2 = 0 then (if bt112.2.2 = 0 then (if (bt109.1.size : Int) = 64 then (if (bt112.1.length : Int) = 2 then (if 1 < (bt112.1.length : Int) then ((roadbooklaw12_hop.f).bind fun t118 => (if ((rd_T34 bt112.1 1).f9).toList = t118.toList then ((ripng_Right.f k 2 2 0 (⟨#[]⟩ : ByteArray) 0 0 (strOfNums eS) 0 0 aJ 1 (⟨#[]⟩ : ByteArray) 0 0 0 0 0 0 0 (⟨#[]⟩ : ByteArray) (⟨#[]⟩ : ByteArray) ([] : List (S66)) 0 (⟨#[]⟩ : ByteArray) ([] : List (S68))).bind fun t119 => (if t119 = true then (if 4 ≤ 20 then (if 20 ≤ (bt109.1.size : Int) then ((roadbooklaw12_hop.f).bind fun t120 => (if (bt109.1.extract 4 20).toList = t120.toList then (if 23 < (bt109.1.size : Int) then (some ((bt bt109.1 23) == 255)) else (none)) else (some false))) else (none)) else (none)) else (some false))) else (some false))) else (none)) else (some false)) else (some false)) else (some false)) else (some false)))) = some r := by first | (rw [hy106]; with_reducible exact H) | (have H2_ := (Option.bind_some _ _).symm.trans H; rw [hy106]; with_reducible exact H2_) | (have H2_ := (Option.bind_some _ _).symm.trans H; with_reducible exact H2_) | with_reducible exact H | (rw [hy106]; exact H) | exact H
  have Ny106 := Aside0.mk hy106
  clear hy106
  replace H := Option.bind_eq_some_iff.mp H
  obtain ⟨⟨t109, dT, ef⟩, eT, H⟩ := H
  replace H : ((ripng_Parse.f k t109).bind fun bt112 => (if ef = 0 then (if bt112.2.2 = 0 then (if (t109.size : Int) = 64 then (if (bt112.1.length : Int) = 2 then (if 1 < (bt112.1.length : Int) then ((roadbooklaw12_hop.f).bind fun t118 => (if ((rd_T34 bt112.1 1).f9).toList = t118.toList then ((ripng_Right.f k 2 2 0 (⟨#[]⟩ : ByteArray) 0 0 (strOfNums eS) 0 0 aJ 1 (⟨#[]⟩ : ByteArray) 0 0 0 0 0 0 0 (⟨#[]⟩ : ByteArray) (⟨#[]⟩ : ByteArray) ([] : List (S66)) 0 (⟨#[]⟩ : ByteArray) ([] : List (S68))).bind fun t119 => (if t119 = true then (if 4 ≤ 20 then (if 20 ≤ (t109.size : Int) then ((roadbooklaw12_hop.f).bind fun t120 => (if (t109.extract 4 20).toList = t120.toList then (if 23 < (t109.size : Int) then (some ((bt t109 23) == 255)) else (none)) else (some false))) else (none)) else (none)) else (some false))) else (some false))) else (none)) else (some false)) else (some false)) else (some false)) else (some false))) = some r := H
  have A3 := Aside0.mk eT
  clear eT
  replace H := Option.bind_eq_some_iff.mp H
  obtain ⟨⟨eU, t113, t114⟩, jG, H⟩ := H
  replace H : (if ef = 0 then (if t114 = 0 then (if (t109.size : Int) = 64 then (if (eU.length : Int) = 2 then (if 1 < (eU.length : Int) then ((roadbooklaw12_hop.f).bind fun t118 => (if ((rd_T34 eU 1).f9).toList = t118.toList then ((ripng_Right.f k 2 2 0 (⟨#[]⟩ : ByteArray) 0 0 (strOfNums eS) 0 0 aJ 1 (⟨#[]⟩ : ByteArray) 0 0 0 0 0 0 0 (⟨#[]⟩ : ByteArray) (⟨#[]⟩ : ByteArray) ([] : List (S66)) 0 (⟨#[]⟩ : ByteArray) ([] : List (S68))).bind fun t119 => (if t119 = true then (if 4 ≤ 20 then (if 20 ≤ (t109.size : Int) then ((roadbooklaw12_hop.f).bind fun t120 => (if (t109.extract 4 20).toList = t120.toList then (if 23 < (t109.size : Int) then (some ((bt t109 23) == 255)) else (none)) else (some false))) else (none)) else (none)) else (some false))) else (some false))) else (none)) else (some false)) else (some false)) else (some false)) else (some false)) = some r := H
  have A4 := Aside0.mk jG
  clear jG
  by_cases c5 : ef = 0
  ·rw [if_pos c5] at H
   have cY : (ef == 0) = true := beq_iff_eq.mpr c5
   have eR : (ef != 0) = false := bne_eq_false_iff_eq.mpr c5
   clear c5
   by_cases c6 : t114 = 0
   ·rw [if_pos c6] at H
    have fc : (t114 == 0) = true := beq_iff_eq.mpr c6
    have iO : (t114 != 0) = false := bne_eq_false_iff_eq.mpr c6
    clear c6
    by_cases c7 : (t109.size : Int) = 64
    ·rw [if_pos c7] at H
     have dn : ((t109.size : Int) == 64) = true := beq_iff_eq.mpr c7
     have eY : ((t109.size : Int) != 64) = false := bne_eq_false_iff_eq.mpr c7
     clear c7
     by_cases c8 : (eU.length : Int) = 2
     ·rw [if_pos c8] at H
      have dS : ((eU.length : Int) == 2) = true := beq_iff_eq.mpr c8
      have ft : ((eU.length : Int) != 2) = false := bne_eq_false_iff_eq.mpr c8
      clear c8
      by_cases c9 : 1 < (eU.length : Int)
      ·rw [if_pos c9] at H
       have ha : decide (1 < (eU.length : Int)) = true := decide_eq_true c9
       have c9b1 : decide (1 < eU.length) = true := decide_eq_true Z25
       clear c9
       replace H := Option.bind_eq_some_iff.mp H
       obtain ⟨t118, hD, H⟩ := H
       replace H : (if ((rd_T34 eU 1).f9).toList = t118.toList then ((ripng_Right.f k 2 2 0 (⟨#[]⟩ : ByteArray) 0 0 (strOfNums eS) 0 0 aJ 1 (⟨#[]⟩ : ByteArray) 0 0 0 0 0 0 0 (⟨#[]⟩ : ByteArray) (⟨#[]⟩ : ByteArray) ([] : List (S66)) 0 (⟨#[]⟩ : ByteArray) ([] : List (S68))).bind fun t119 => (if t119 = true then (if 4 ≤ 20 then (if 20 ≤ (t109.size : Int) then ((roadbooklaw12_hop.f).bind fun t120 => (if (t109.extract 4 20).toList = t120.toList then (if 23 < (t109.size : Int) then (some ((bt t109 23) == 255)) else (none)) else (some false))) else (none)) else (none)) else (some false))) else (some false)) = some r := H
       have fz := Aside0.mk hD
       clear hD
       by_cases eI : ((rd_T34 eU 1).f9).toList = t118.toList
       ·rw [if_pos eI] at H
        have c11b0 : (((rd_T34 eU 1).f9).toList == t118.toList) = true := beq_iff_eq.mpr eI
        have c11b1 : (((rd_T34 eU 1).f9).toList != t118.toList) = false := bne_eq_false_iff_eq.mpr eI
        clear eI
        replace H := Option.bind_eq_some_iff.mp H
        obtain ⟨t119, A120, H⟩ := H
        replace H : (if t119 = true then (if 4 ≤ 20 then (if 20 ≤ (t109.size : Int) then ((roadbooklaw12_hop.f).bind fun t120 => (if (t109.extract 4 20).toList = t120.toList then (if 23 < (t109.size : Int) then (some ((bt t109 23) == 255)) else (none)) else (some false))) else (none)) else (none)) else (some false)) = some r := H
        have A12 := Aside0.mk A120
        clear A120
        by_cases eD : t119 = true
        ·subst eD
         replace H := Sq.itT H
         by_cases dR : 4 ≤ 20
         ·rw [if_pos dR] at H
          have dW := eq_true dR
          have fa : decide (4 ≤ 20) = true := decide_eq_true dR
          clear dR
          by_cases c15 : 20 ≤ (t109.size : Int)
          ·rw [if_pos c15] at H
           have c15b0 := eq_true c15
           have c15b1 : decide (20 ≤ (t109.size : Int)) = true := decide_eq_true c15
           clear c15
           replace H := Option.bind_eq_some_iff.mp H
           obtain ⟨t120, A160, H⟩ := H
           replace H : (if (t109.extract 4 20).toList = t120.toList then (if 23 < (t109.size : Int) then (some ((bt t109 23) == 255)) else (none)) else (some false)) = some r := H
           have A16 := Aside0.mk A160
           clear A160
           by_cases eE : (t109.extract 4 20).toList = t120.toList
           ·rw [if_pos eE] at H
            have eF : ((t109.extract 4 20).toList == t120.toList) = true := beq_iff_eq.mpr eE
            have eG : ((t109.extract 4 20).toList != t120.toList) = false := bne_eq_false_iff_eq.mpr eE
            clear eE
            by_cases c18 : 23 < (t109.size : Int)
            ·rw [if_pos c18] at H
             have c18b0 : decide (23 < (t109.size : Int)) = true := decide_eq_true c18
             have c18b1 : decide (23 < t109.size) = true := decide_eq_true Z25
             clear c18
             obtain rfl := Option.some.inj H
             go_enter Try.func7, Try.ntmps7
             try go_wp2_with (first | ((with_reducible refine gate_dst (N := 11) rfl ?_); refine Pre.build_event 11 34 [(0, Go.Operand.const (Go.Value.int Go.IntKind.i64 2)), (1, Go.Operand.const (Go.Value.int Go.IntKind.i64 2)), (6, Go.Operand.tmp 9), (9, Go.Operand.tmp 10), (10, Go.Operand.const (Go.Value.int Go.IntKind.i64 1))] rfl rfl rfl (roadbooklaw12_awake.bd11 _ _ _ _ _) ?_) | ((with_reducible refine Pre.gate_store 34 rfl ?_); refine Pre.store_event rfl rfl rfl Z27 Z27 (by first | ((with_reducible repeat (first | refine blk_drewN ?_ _ | refine blk_drew ?_ | refine blk_alloc ?_ _)); (with_reducible first | exact BK105.out)) | (apply Pre.heap_norm; ((with_reducible repeat (first | refine blk_drewN ?_ _ | refine blk_drew ?_ | refine blk_alloc ?_ _ | apply Pre.blk_set_)); (with_reducible first | exact BK105.out)); (first | (simp only [Sq.s1, Sq.s2, Sq.s3]; done) | (simp only [Sq.s1, Sq.s2, Sq.s3]; rfl) | rfl))) Z16 Z27 Z27 ?_; simp only [World.setCells, Nat.zero_add, Nat.reduceAdd]) | ((with_reducible refine Pre.gate_load 34 rfl ?_); (try (refine gate_guard Z27 ?_; dsimp only)); refine Pre.load_event rfl rfl rfl Z27 (by first | ((with_reducible repeat (first | refine blk_drewN ?_ _ | refine blk_drew ?_ | refine blk_alloc ?_ _)); (with_reducible first | exact BK105.out)) | (apply Pre.heap_norm; ((with_reducible repeat (first | refine blk_drewN ?_ _ | refine blk_drew ?_ | refine blk_alloc ?_ _ | apply Pre.blk_set_)); (with_reducible first | exact BK105.out)); (first | (simp only [Sq.s1, Sq.s2, Sq.s3]; done) | (simp only [Sq.s1, Sq.s2, Sq.s3]; rfl) | rfl))) Try.underlying34 rfl Z16 ?_) | ((with_reducible refine Pre.gate_load 34 rfl ?_); (try (refine gate_guard Z27 ?_; dsimp only)); refine Pre.load_event_a rfl rfl rfl Z27 Pre.range25 Try.underlying34 rfl Z16 ?_))
             have cQ := Aside0.mk (below_drew1 HB.out)
             clear HB
             have HB := cQ
             clear cQ
             refine start_ (n := 6) (S := fun w' => True) (ds := []) (Sq.b 6 0) Z16 rfl rfl trivial (fun hHeld => ?_)
             generalize w.drew = jN at HB hHeld ⊢
             refine join_ (σ := Value × Nat) 1 (Sq.b 6 31) (fun s_ => [(8, s_.1), (9, .string (strOfNums eS)), (10, .string aJ), (1, .pointer (some ⟨s_.2, 0, none⟩)), (11, .agg #[.int .i64 2, .int .i64 2, .int .i64 0, .string ⟨#[]⟩, .int .i64 0, .int .i64 0, .string (strOfNums eS), .int .i64 0, .int .i64 0, .string aJ, .int .i64 1, .string ⟨#[]⟩, .int .i64 0, .int .i64 0, .int .i64 0, .int .i64 0, .int .i64 0, .int .i64 0, .int .i64 0, .string ⟨#[]⟩, .string ⟨#[]⟩, .slice none 0 0, .int .i64 0, .string ⟨#[]⟩, .slice none 0 0])]) (fun s_ w' => (Kd.R (Kd.int .u8) 5 w' w.heap.size (fun _ => True) s_.1 eS) ∧ (w'.heap[s_.2]? = some (.cells #[.int .i64 0, .int .i64 0, .int .i64 0, .string ⟨#[]⟩, .int .i64 0, .int .i64 0, .string ⟨#[]⟩, .int .i64 0, .int .i64 0, .string ⟨#[]⟩, .int .i64 0, .string ⟨#[]⟩, .int .i64 0, .int .i64 0, .int .i64 0, .int .i64 0, .int .i64 0, .int .i64 0, .int .i64 0, .string ⟨#[]⟩, .string ⟨#[]⟩, .slice none 0 0, .int .i64 0, .string ⟨#[]⟩, .slice none 0 0] 34 (0, 0))) ∧ (w.heap.size ≤ s_.2) ∧ (w.heap.size ≤ s_.2) ∧ (Below w.heap.size w w')) ?_ ?_
             rotate_left
             ·intro hJ0_1_2_4
              refine join_ (σ := Value) 2 (Sq.b 6 15) (fun s_ => [(8, s_), (9, .string (strOfNums eS)), (10, .string aJ), (11, .agg #[.int .i64 2, .int .i64 2, .int .i64 0, .string ⟨#[]⟩, .int .i64 0, .int .i64 0, .string (strOfNums eS), .int .i64 0, .int .i64 0, .string aJ, .int .i64 1, .string ⟨#[]⟩, .int .i64 0, .int .i64 0, .int .i64 0, .int .i64 0, .int .i64 0, .int .i64 0, .int .i64 0, .string ⟨#[]⟩, .string ⟨#[]⟩, .slice none 0 0, .int .i64 0, .string ⟨#[]⟩, .slice none 0 0])]) (fun s_ w' => (Kd.R (Kd.int .u8) 5 w' w.heap.size (fun _ => True) s_ eS) ∧ (Below w.heap.size w w')) ?_ ?_
              rotate_left
              ·intro hJ0_1_2
               refine join_ (σ := Value × Nat) 3 (Sq.b 6 19) (fun s_ => [(8, s_.1), (9, .string (strOfNums eS)), (1, .pointer (some ⟨s_.2, 0, none⟩))]) (fun s_ w' => (Kd.R (Kd.int .u8) 5 w' w.heap.size (fun _ => True) s_.1 eS) ∧ (w'.heap[s_.2]? = some (.cells #[.int .i64 0, .int .i64 0, .int .i64 0, .string ⟨#[]⟩, .int .i64 0, .int .i64 0, .string ⟨#[]⟩, .int .i64 0, .int .i64 0, .string ⟨#[]⟩, .int .i64 0, .string ⟨#[]⟩, .int .i64 0, .int .i64 0, .int .i64 0, .int .i64 0, .int .i64 0, .int .i64 0, .int .i64 0, .string ⟨#[]⟩, .string ⟨#[]⟩, .slice none 0 0, .int .i64 0, .string ⟨#[]⟩, .slice none 0 0] 34 (0, 0))) ∧ (w.heap.size ≤ s_.2) ∧ (w.heap.size ≤ s_.2) ∧ (Below w.heap.size w w')) ?_ ?_
               rotate_left
               ·intro hJ0_1_4
                refine join_ (σ := Value × Nat) 3 (Sq.b 6 21) (fun s_ => [(8, s_.1), (10, .string aJ), (1, .pointer (some ⟨s_.2, 0, none⟩))]) (fun s_ w' => (Kd.R (Kd.int .u8) 5 w' w.heap.size (fun _ => True) s_.1 eS) ∧ (w'.heap[s_.2]? = some (.cells #[.int .i64 0, .int .i64 0, .int .i64 0, .string ⟨#[]⟩, .int .i64 0, .int .i64 0, .string ⟨#[]⟩, .int .i64 0, .int .i64 0, .string ⟨#[]⟩, .int .i64 0, .string ⟨#[]⟩, .int .i64 0, .int .i64 0, .int .i64 0, .int .i64 0, .int .i64 0, .int .i64 0, .int .i64 0, .string ⟨#[]⟩, .string ⟨#[]⟩, .slice none 0 0, .int .i64 0, .string ⟨#[]⟩, .slice none 0 0] 34 (0, 0))) ∧ (w.heap.size ≤ s_.2) ∧ (w.heap.size ≤ s_.2) ∧ (Below w.heap.size w w')) ?_ ?_
                rotate_left
                ·intro hJ0_2_4
                 refine join_ (σ := Value) 4 (Sq.b 6 3) (fun s_ => [(8, s_), (9, .string (strOfNums eS))]) (fun s_ w' => (Kd.R (Kd.int .u8) 5 w' w.heap.size (fun _ => True) s_ eS) ∧ (Below w.heap.size w w')) ?_ ?_
                 rotate_left
                 ·intro hJ0_1
                  refine join_ (σ := Value) 4 (Sq.b 6 5) (fun s_ => [(8, s_), (10, .string aJ)]) (fun s_ w' => (Kd.R (Kd.int .u8) 5 w' w.heap.size (fun _ => True) s_ eS) ∧ (Below w.heap.size w w')) ?_ ?_
                  rotate_left
                  ·intro hJ0_2
                   refine join_ (σ := Value × Nat) 4 (Sq.b 6 17) (fun s_ => [(8, s_.1), (1, .pointer (some ⟨s_.2, 0, none⟩))]) (fun s_ w' => (Kd.R (Kd.int .u8) 5 w' w.heap.size (fun _ => True) s_.1 eS) ∧ (w'.heap[s_.2]? = some (.cells #[.int .i64 0, .int .i64 0, .int .i64 0, .string ⟨#[]⟩, .int .i64 0, .int .i64 0, .string ⟨#[]⟩, .int .i64 0, .int .i64 0, .string ⟨#[]⟩, .int .i64 0, .string ⟨#[]⟩, .int .i64 0, .int .i64 0, .int .i64 0, .int .i64 0, .int .i64 0, .int .i64 0, .int .i64 0, .string ⟨#[]⟩, .string ⟨#[]⟩, .slice none 0 0, .int .i64 0, .string ⟨#[]⟩, .slice none 0 0] 34 (0, 0))) ∧ (w.heap.size ≤ s_.2) ∧ (w.heap.size ≤ s_.2) ∧ (Below w.heap.size w w')) ?_ ?_
                   rotate_left
                   ·intro hJ0_4
                    refine join_ (σ := Nat) 4 (Sq.b 6 20) (fun s_ => [(10, .string aJ), (1, .pointer (some ⟨s_, 0, none⟩))]) (fun s_ w' => (w'.heap[s_]? = some (.cells #[.int .i64 0, .int .i64 0, .int .i64 0, .string ⟨#[]⟩, .int .i64 0, .int .i64 0, .string ⟨#[]⟩, .int .i64 0, .int .i64 0, .string ⟨#[]⟩, .int .i64 0, .string ⟨#[]⟩, .int .i64 0, .int .i64 0, .int .i64 0, .int .i64 0, .int .i64 0, .int .i64 0, .int .i64 0, .string ⟨#[]⟩, .string ⟨#[]⟩, .slice none 0 0, .int .i64 0, .string ⟨#[]⟩, .slice none 0 0] 34 (0, 0))) ∧ (w.heap.size ≤ s_) ∧ (w.heap.size ≤ s_) ∧ (Below w.heap.size w w')) ?_ ?_
                    rotate_left
                    ·intro hJ2_4
                     refine join_ (σ := Value) 5 (Sq.b 6 1) (fun s_ => [(8, s_)]) (fun s_ w' => (Kd.R (Kd.int .u8) 5 w' w.heap.size (fun _ => True) s_ eS) ∧ (Below w.heap.size w w')) ?_ ?_
                     rotate_left
                     ·intro hJ0
                      refine join_ (σ := Unit) 5 (Sq.b 6 4) (fun s_ => [(10, .string aJ)]) (fun s_ w' => (Below w.heap.size w w')) ?_ ?_
                      rotate_left
                      ·intro hJ2
                       refine join_ (σ := Nat) 5 (Sq.b 6 16) (fun s_ => [(1, .pointer (some ⟨s_, 0, none⟩))]) (fun s_ w' => (w'.heap[s_]? = some (.cells #[.int .i64 0, .int .i64 0, .int .i64 0, .string ⟨#[]⟩, .int .i64 0, .int .i64 0, .string ⟨#[]⟩, .int .i64 0, .int .i64 0, .string ⟨#[]⟩, .int .i64 0, .string ⟨#[]⟩, .int .i64 0, .int .i64 0, .int .i64 0, .int .i64 0, .int .i64 0, .int .i64 0, .int .i64 0, .string ⟨#[]⟩, .string ⟨#[]⟩, .slice none 0 0, .int .i64 0, .string ⟨#[]⟩, .slice none 0 0] 34 (0, 0))) ∧ (w.heap.size ≤ s_) ∧ (w.heap.size ≤ s_) ∧ (Below w.heap.size w w')) ?_ ?_
                       rotate_left
                       ·intro hJ4
                        refine three_ (i := 0) (j := 2) (k := 4) (Ni := some 8) (Nj := some 10) (Nk := some 1) (Sq.b 6 1) (Sq.b 6 4) (Sq.b 6 16) rfl rfl rfl rfl rfl rfl Z16 Z18 Z18 Z18 (fun K hK => ?_) (fun K hK => ?_) (fun K hK => ?_)
                        ·skip
                         refine Kd.R_make_step (Kd.int .u8) _ 5 Z27 (N := 8) rfl 38 _ _ rfl 16 rfl rfl Try.underlying38 (.int .u8 0) 1 info5 rfl Z18 Z25 0 (ok := fun _ => True) (okp := fun _ => True) rfl (fun _ hk => hk) trivial Z25 Z25 (Below.refl _ _) (Nat.le_refl _) ?_
                         intro fd hG ho22 hb hg_ hnew_
                         clear hg_ hnew_
                         (first | rw [← Ny101.out] at ho22 | (simp only [Int.reduceToNat] at ho22; rw [← Ny101.out] at ho22))
                         have cQ := Aside0.mk (Kd.R_lower ho22 (below_size Z0))
                         have de := Aside0.mk (below_step Z0 hb)
                         clear HB
                         have ee := cQ
                         have HB := de
                         clear cQ de
                         clear hb ho22
                         refine hK.out _ _ trivial (fun hHeld => ?_)
                         clear hK K
                         refine norm_ (a' := ?_) ?_ ?_
                         rotate_left
                         ·show Act.put _ (some 8) _ = _
                          simp only [Act.put, Sq.s1, Sq.s2, Sq.s3, i64_w, i32_w]
                          rfl
                         exact norm_ (by first | (simp only [putAll, Act.put, Sq.s1, Sq.s2, Sq.s3]; done) | (simp only [putAll, Act.put, Sq.s1, Sq.s2, Sq.s3]; rfl)) (hJ0 (fd) _ ⟨(by (with_reducible repeat (first | apply Kd.R_alloc | apply Kd.R_drewN | apply Kd.R_drew)); exact ee.out), Z0⟩)
                        ·skip
                         refine goes_ Try.func16 Z16 rfl #[] Z27 rfl rfl Z4 ?_
                         with_reducible refine (roadbooklaw12_hop.calls  aJ _ A2.out).mono ?_
                         rintro e w' ⟨rfl, ⟨nd, rfl⟩⟩
                         refine ⟨_, rfl, ?_⟩
                         refine hK.out _ _ trivial (fun hHeld => ?_)
                         clear hK K
                         refine norm_ (a' := ?_) ?_ ?_
                         rotate_left
                         ·show Act.put _ (some 10) _ = _
                          simp only [Act.put, Sq.s1, Sq.s2, Sq.s3, i64_w, i32_w]
                          rfl
                         exact norm_ (by first | (simp only [putAll, Act.put, Sq.s1, Sq.s2, Sq.s3]; done) | (simp only [putAll, Act.put, Sq.s1, Sq.s2, Sq.s3]; rfl)) (hJ2 () _ Z0)
                        ·skip
                         refine box_step ?hg (N := 1) ?hd (cs := #[.int .i64 0, .int .i64 0, .int .i64 0, .string ⟨#[]⟩, .int .i64 0, .int .i64 0, .string ⟨#[]⟩, .int .i64 0, .int .i64 0, .string ⟨#[]⟩, .int .i64 0, .string ⟨#[]⟩, .int .i64 0, .int .i64 0, .int .i64 0, .int .i64 0, .int .i64 0, .int .i64 0, .int .i64 0, .string ⟨#[]⟩, .string ⟨#[]⟩, .slice none 0 0, .int .i64 0, .string ⟨#[]⟩, .slice none 0 0]) (t := 34) ?hr ?_; (case hd => rfl); (case hg => rfl); (case hr => first | (go_simp; done) | (go_simp; rfl))
                         intro gb105 hg hG hbox hb
                         have cQ := Aside0.mk (below_step Z0 hb)
                         have de := Aside0.mk (hbox)
                         have eH := Aside0.mk ((by rw [hg]; exact (below_size Z0) : w.heap.size ≤ gb105))
                         have n3_ := Aside0.mk ((by rw [hg]; exact (below_size Z0) : w.heap.size ≤ gb105))
                         clear HB
                         have HB := cQ
                         have BK105 := de
                         have GW105 := eH
                         have GE105 := n3_
                         clear cQ de eH n3_
                         clear hb hbox hg
                         refine hK.out _ _ trivial (fun hHeld => ?_)
                         clear hK K
                         refine norm_ (a' := ?_) ?_ ?_
                         rotate_left
                         ·show Act.put _ (some 1) _ = _
                          simp only [Act.put, Sq.s1, Sq.s2, Sq.s3, i64_w, i32_w]
                          rfl
                         exact norm_ (by first | (simp only [putAll, Act.put, Sq.s1, Sq.s2, Sq.s3]; done) | (simp only [putAll, Act.put, Sq.s1, Sq.s2, Sq.s3]; rfl)) (hJ4 (gb105) _ ⟨(by (with_reducible repeat (first | refine blk_drewN ?_ _ | refine blk_drew ?_ | refine blk_alloc ?_ _)); exact BK105.out), GW105.out, GE105.out, (by repeat (first | (with_reducible first | exact HB.out | apply below_alloc | apply pw_below_drewN | apply below_drew1 | refine below_set ?_ GE105.out) | exact HB.out))⟩)
                       ·skip
                        rintro gb105 w22 ⟨h0_, h1_, h2_, h3_⟩
                        have cQ : Aside0 (w22.heap[gb105]? = some (.cells #[.int .i64 0, .int .i64 0, .int .i64 0, .string ⟨#[]⟩, .int .i64 0, .int .i64 0, .string ⟨#[]⟩, .int .i64 0, .int .i64 0, .string ⟨#[]⟩, .int .i64 0, .string ⟨#[]⟩, .int .i64 0, .int .i64 0, .int .i64 0, .int .i64 0, .int .i64 0, .int .i64 0, .int .i64 0, .string ⟨#[]⟩, .string ⟨#[]⟩, .slice none 0 0, .int .i64 0, .string ⟨#[]⟩, .slice none 0 0] 34 (0, 0))) := ⟨h0_⟩
                        have de : Aside0 (w.heap.size ≤ gb105) := ⟨h1_⟩
                        have eH : Aside0 (w.heap.size ≤ gb105) := ⟨h2_⟩
                        have n3_ : Aside0 (Below w.heap.size w w22) := ⟨h3_⟩
                        clear HB
                        clear h0_ h1_ h2_ h3_
                        have BK105 := cQ
                        have GW105 := de
                        have GE105 := eH
                        have HB := n3_
                        clear cQ de eH n3_
                        have hHeld := trivial
                        refine norm_ (a' := ?_) ?_ ?_
                        rotate_left
                        ·simp only [putAll, Act.put, Sq.s1, Sq.s2, Sq.s3]
                         rfl
                        refine two_ (i := 0) (j := 2) (Ni := some 8) (Nj := some 10) (Sq.b 6 17) (Sq.b 6 20) rfl rfl rfl rfl Z16 Z18 Z18 (fun K hK => ?_) (fun K hK => ?_)
                        ·skip
                         refine Kd.R_make_step (Kd.int .u8) _ 5 Z27 (N := 8) rfl 38 _ _ rfl 16 rfl rfl Try.underlying38 (.int .u8 0) 1 info5 rfl Z18 Z25 0 (ok := fun _ => True) (okp := fun _ => True) rfl (fun _ hk => hk) trivial Z25 Z25 (Below.refl _ _) (Nat.le_refl _) ?_
                         intro fd w23 ho24 hb hg_ hnew_
                         clear hg_ hnew_
                         (first | rw [← Ny101.out] at ho24 | (simp only [Int.reduceToNat] at ho24; rw [← Ny101.out] at ho24))
                         have cQ := Aside0.mk (Kd.R_lower ho24 (below_size (by repeat (first | (with_reducible first | exact HB.out | apply below_alloc | apply pw_below_drewN | apply below_drew1 | refine below_set ?_ GE105.out) | exact HB.out))))
                         have de := Aside0.mk (blk_below (g := gb105) (by (with_reducible repeat (first | refine blk_drewN ?_ _ | refine blk_drew ?_ | refine blk_alloc ?_ _)); exact BK105.out) hb)
                         have eH := Aside0.mk (below_step (by repeat (first | (with_reducible first | exact HB.out | apply below_alloc | apply pw_below_drewN | apply below_drew1 | refine below_set ?_ GE105.out) | exact HB.out)) hb)
                         clear BK105
                         clear HB
                         have ee := cQ
                         have BK105 := de
                         have HB := eH
                         clear cQ de eH
                         clear hb ho24
                         refine hK.out _ _ trivial (fun hHeld => ?_)
                         clear hK K
                         refine norm_ (a' := ?_) ?_ ?_
                         rotate_left
                         ·show Act.put _ (some 8) _ = _
                          simp only [Act.put, Sq.s1, Sq.s2, Sq.s3, i64_w, i32_w]
                          rfl
                         exact norm_ (by first | (simp only [putAll, Act.put, Sq.s1, Sq.s2, Sq.s3]; done) | (simp only [putAll, Act.put, Sq.s1, Sq.s2, Sq.s3]; rfl)) (hJ0_4 (fd, gb105) _ ⟨(by (with_reducible repeat (first | apply Kd.R_alloc | apply Kd.R_drewN | apply Kd.R_drew)); exact ee.out), (by (with_reducible repeat (first | refine blk_drewN ?_ _ | refine blk_drew ?_ | refine blk_alloc ?_ _)); exact BK105.out), GW105.out, GE105.out, (by repeat (first | (with_reducible first | exact HB.out | apply below_alloc | apply pw_below_drewN | apply below_drew1 | refine below_set ?_ GE105.out) | exact HB.out))⟩)
                        ·skip
                         refine goes_ Try.func16 Z16 rfl #[] Z27 rfl rfl Z4 ?_
                         with_reducible refine (roadbooklaw12_hop.calls  aJ _ A2.out).mono ?_
                         rintro e w' ⟨rfl, ⟨nd, rfl⟩⟩
                         refine ⟨_, rfl, ?_⟩
                         refine hK.out _ _ trivial (fun hHeld => ?_)
                         clear hK K
                         refine norm_ (a' := ?_) ?_ ?_
                         rotate_left
                         ·show Act.put _ (some 10) _ = _
                          simp only [Act.put, Sq.s1, Sq.s2, Sq.s3, i64_w, i32_w]
                          rfl
                         exact norm_ (by first | (simp only [putAll, Act.put, Sq.s1, Sq.s2, Sq.s3]; done) | (simp only [putAll, Act.put, Sq.s1, Sq.s2, Sq.s3]; rfl)) (hJ2_4 (gb105) _ ⟨(by (with_reducible repeat (first | refine blk_drewN ?_ _ | refine blk_drew ?_ | refine blk_alloc ?_ _)); exact BK105.out), GW105.out, GE105.out, (by repeat (first | (with_reducible first | exact HB.out | apply below_alloc | apply pw_below_drewN | apply below_drew1 | refine below_set ?_ GE105.out) | exact HB.out))⟩)
                      ·skip
                       rintro _ hG h0_
                       have cQ : Aside0 (Below w.heap.size w hG) := ⟨h0_⟩
                       clear HB
                       clear h0_
                       have HB := cQ
                       clear cQ
                       have hHeld := trivial
                       refine norm_ (a' := ?_) ?_ ?_
                       rotate_left
                       ·simp only [putAll, Act.put, Sq.s1, Sq.s2, Sq.s3]
                        rfl
                       refine two_ (i := 0) (j := 4) (Ni := some 8) (Nj := some 1) (Sq.b 6 5) (Sq.b 6 20) rfl rfl rfl rfl Z16 Z18 Z18 (fun K hK => ?_) (fun K hK => ?_)
                       ·skip
                        refine Kd.R_make_step (Kd.int .u8) _ 5 Z27 (N := 8) rfl 38 _ _ rfl 16 rfl rfl Try.underlying38 (.int .u8 0) 1 info5 rfl Z18 Z25 0 (ok := fun _ => True) (okp := fun _ => True) rfl (fun _ hk => hk) trivial Z25 Z25 (Below.refl _ _) (Nat.le_refl _) ?_
                        intro fd w22 ho23 hb hg_ hnew_
                        clear hg_ hnew_
                        (first | rw [← Ny101.out] at ho23 | (simp only [Int.reduceToNat] at ho23; rw [← Ny101.out] at ho23))
                        have cQ := Aside0.mk (Kd.R_lower ho23 (below_size Z0))
                        have de := Aside0.mk (below_step Z0 hb)
                        clear HB
                        have ee := cQ
                        have HB := de
                        clear cQ de
                        clear hb ho23
                        refine hK.out _ _ trivial (fun hHeld => ?_)
                        clear hK K
                        refine norm_ (a' := ?_) ?_ ?_
                        rotate_left
                        ·show Act.put _ (some 8) _ = _
                         simp only [Act.put, Sq.s1, Sq.s2, Sq.s3, i64_w, i32_w]
                         rfl
                        exact norm_ (by first | (simp only [putAll, Act.put, Sq.s1, Sq.s2, Sq.s3]; done) | (simp only [putAll, Act.put, Sq.s1, Sq.s2, Sq.s3]; rfl)) (hJ0_2 (fd) _ ⟨(by (with_reducible repeat (first | apply Kd.R_alloc | apply Kd.R_drewN | apply Kd.R_drew)); exact ee.out), Z0⟩)
                       ·skip
                        refine box_step ?hg (N := 1) ?hd (cs := #[.int .i64 0, .int .i64 0, .int .i64 0, .string ⟨#[]⟩, .int .i64 0, .int .i64 0, .string ⟨#[]⟩, .int .i64 0, .int .i64 0, .string ⟨#[]⟩, .int .i64 0, .string ⟨#[]⟩, .int .i64 0, .int .i64 0, .int .i64 0, .int .i64 0, .int .i64 0, .int .i64 0, .int .i64 0, .string ⟨#[]⟩, .string ⟨#[]⟩, .slice none 0 0, .int .i64 0, .string ⟨#[]⟩, .slice none 0 0]) (t := 34) ?hr ?_; (case hd => rfl); (case hg => rfl); (case hr => first | (go_simp; done) | (go_simp; rfl))
                        intro gb105 hg w22 hbox hb
                        have cQ := Aside0.mk (below_step Z0 hb)
                        have de := Aside0.mk (hbox)
                        have eH := Aside0.mk ((by rw [hg]; exact (below_size Z0) : w.heap.size ≤ gb105))
                        have n3_ := Aside0.mk ((by rw [hg]; exact (below_size Z0) : w.heap.size ≤ gb105))
                        clear HB
                        have HB := cQ
                        have BK105 := de
                        have GW105 := eH
                        have GE105 := n3_
                        clear cQ de eH n3_
                        clear hb hbox hg
                        refine hK.out _ _ trivial (fun hHeld => ?_)
                        clear hK K
                        refine norm_ (a' := ?_) ?_ ?_
                        rotate_left
                        ·show Act.put _ (some 1) _ = _
                         simp only [Act.put, Sq.s1, Sq.s2, Sq.s3, i64_w, i32_w]
                         rfl
                        exact norm_ (by first | (simp only [putAll, Act.put, Sq.s1, Sq.s2, Sq.s3]; done) | (simp only [putAll, Act.put, Sq.s1, Sq.s2, Sq.s3]; rfl)) (hJ2_4 (gb105) _ ⟨(by (with_reducible repeat (first | refine blk_drewN ?_ _ | refine blk_drew ?_ | refine blk_alloc ?_ _)); exact BK105.out), GW105.out, GE105.out, (by repeat (first | (with_reducible first | exact HB.out | apply below_alloc | apply pw_below_drewN | apply below_drew1 | refine below_set ?_ GE105.out) | exact HB.out))⟩)
                     ·skip
                      rintro fd w23 ⟨h0_, h1_⟩
                      have cQ : Aside0 (Kd.R (Kd.int .u8) 5 w23 w.heap.size (fun _ => True) fd eS) := ⟨h0_⟩
                      have de : Aside0 (Below w.heap.size w w23) := ⟨h1_⟩
                      clear HB
                      clear h0_ h1_
                      have ee := cQ
                      have HB := de
                      clear cQ de
                      have hHeld := trivial
                      refine norm_ (a' := ?_) ?_ ?_
                      rotate_left
                      ·simp only [putAll, Act.put, Sq.s1, Sq.s2, Sq.s3]
                       rfl
                      refine three_ (i := 1) (j := 2) (k := 4) (Ni := some 9) (Nj := some 10) (Nk := some 1) (Sq.b 6 3) (Sq.b 6 5) (Sq.b 6 17) rfl rfl rfl rfl rfl rfl Z16 Z18 Z18 Z18 (fun K hK => ?_) (fun K hK => ?_) (fun K hK => ?_)
                      ·skip
                       have hcv24 := own_string (P := Try.prog) Try.underlying38 Try.underlying5 Try.underlying9 (Kd.own_of_R ee.out)
                       refine value_ (w1 := ?_) (v := ?_) Z27 rfl ?_ ?_
                       rotate_left 2
                       ·go_simp
                        constructor
                        ·rfl
                        ·rfl
                       clear hcv24
                       refine hK.out _ _ trivial (fun hHeld => ?_)
                       clear hK K
                       refine norm_ (a' := ?_) ?_ ?_
                       rotate_left
                       ·show Act.put _ (some 9) _ = _
                        simp only [Act.put, Sq.s1, Sq.s2, Sq.s3, i64_w, i32_w]
                        rfl
                       exact norm_ (by first | (simp only [putAll, Act.put, Sq.s1, Sq.s2, Sq.s3]; done) | (simp only [putAll, Act.put, Sq.s1, Sq.s2, Sq.s3]; rfl)) (hJ0_1 (fd) _ ⟨(by (with_reducible repeat (first | apply Kd.R_alloc | apply Kd.R_drewN | apply Kd.R_drew)); exact ee.out), Z0⟩)
                      ·skip
                       refine goes_ Try.func16 Z16 rfl #[] Z27 rfl rfl Z4 ?_
                       with_reducible refine (roadbooklaw12_hop.calls  aJ _ A2.out).mono ?_
                       rintro e w' ⟨rfl, ⟨nd, rfl⟩⟩
                       refine ⟨_, rfl, ?_⟩
                       refine hK.out _ _ trivial (fun hHeld => ?_)
                       clear hK K
                       refine norm_ (a' := ?_) ?_ ?_
                       rotate_left
                       ·show Act.put _ (some 10) _ = _
                        simp only [Act.put, Sq.s1, Sq.s2, Sq.s3, i64_w, i32_w]
                        rfl
                       exact norm_ (by first | (simp only [putAll, Act.put, Sq.s1, Sq.s2, Sq.s3]; done) | (simp only [putAll, Act.put, Sq.s1, Sq.s2, Sq.s3]; rfl)) (hJ0_2 (fd) _ ⟨(by (with_reducible repeat (first | apply Kd.R_alloc | apply Kd.R_drewN | apply Kd.R_drew)); exact ee.out), Z0⟩)
                      ·skip
                       refine box_step ?hg (N := 1) ?hd (cs := #[.int .i64 0, .int .i64 0, .int .i64 0, .string ⟨#[]⟩, .int .i64 0, .int .i64 0, .string ⟨#[]⟩, .int .i64 0, .int .i64 0, .string ⟨#[]⟩, .int .i64 0, .string ⟨#[]⟩, .int .i64 0, .int .i64 0, .int .i64 0, .int .i64 0, .int .i64 0, .int .i64 0, .int .i64 0, .string ⟨#[]⟩, .string ⟨#[]⟩, .slice none 0 0, .int .i64 0, .string ⟨#[]⟩, .slice none 0 0]) (t := 34) ?hr ?_; (case hd => rfl); (case hg => rfl); (case hr => first | (go_simp; done) | (go_simp; rfl))
                       intro gb105 hg w24 hbox hb
                       have cQ := Aside0.mk (Kd.R_below (by (with_reducible repeat (first | apply Kd.R_alloc | apply Kd.R_drewN | apply Kd.R_drew)); exact ee.out) hb)
                       have de := Aside0.mk (below_step Z0 hb)
                       have eH := Aside0.mk (hbox)
                       have n3_ := Aside0.mk ((by rw [hg]; exact (below_size Z0) : w.heap.size ≤ gb105))
                       have n4_ := Aside0.mk ((by rw [hg]; exact (below_size Z0) : w.heap.size ≤ gb105))
                       clear ee
                       clear HB
                       have ee := cQ
                       have HB := de
                       have BK105 := eH
                       have GW105 := n3_
                       have GE105 := n4_
                       clear cQ de eH n3_ n4_
                       clear hb hbox hg
                       refine hK.out _ _ trivial (fun hHeld => ?_)
                       clear hK K
                       refine norm_ (a' := ?_) ?_ ?_
                       rotate_left
                       ·show Act.put _ (some 1) _ = _
                        simp only [Act.put, Sq.s1, Sq.s2, Sq.s3, i64_w, i32_w]
                        rfl
                       exact norm_ (by first | (simp only [putAll, Act.put, Sq.s1, Sq.s2, Sq.s3]; done) | (simp only [putAll, Act.put, Sq.s1, Sq.s2, Sq.s3]; rfl)) (hJ0_4 (fd, gb105) _ ⟨(by (with_reducible repeat (first | apply Kd.R_alloc | apply Kd.R_drewN | apply Kd.R_drew)); exact ee.out), (by (with_reducible repeat (first | refine blk_drewN ?_ _ | refine blk_drew ?_ | refine blk_alloc ?_ _)); exact BK105.out), GW105.out, GE105.out, (by repeat (first | (with_reducible first | exact HB.out | apply below_alloc | apply pw_below_drewN | apply below_drew1 | refine below_set ?_ GE105.out) | exact HB.out))⟩)
                    ·skip
                     rintro gb105 w22 ⟨h0_, h1_, h2_, h3_⟩
                     have cQ : Aside0 (w22.heap[gb105]? = some (.cells #[.int .i64 0, .int .i64 0, .int .i64 0, .string ⟨#[]⟩, .int .i64 0, .int .i64 0, .string ⟨#[]⟩, .int .i64 0, .int .i64 0, .string ⟨#[]⟩, .int .i64 0, .string ⟨#[]⟩, .int .i64 0, .int .i64 0, .int .i64 0, .int .i64 0, .int .i64 0, .int .i64 0, .int .i64 0, .string ⟨#[]⟩, .string ⟨#[]⟩, .slice none 0 0, .int .i64 0, .string ⟨#[]⟩, .slice none 0 0] 34 (0, 0))) := ⟨h0_⟩
                     have de : Aside0 (w.heap.size ≤ gb105) := ⟨h1_⟩
                     have eH : Aside0 (w.heap.size ≤ gb105) := ⟨h2_⟩
                     have n3_ : Aside0 (Below w.heap.size w w22) := ⟨h3_⟩
                     clear HB
                     clear h0_ h1_ h2_ h3_
                     have BK105 := cQ
                     have GW105 := de
                     have GE105 := eH
                     have HB := n3_
                     clear cQ de eH n3_
                     have hHeld := trivial
                     refine norm_ (a' := ?_) ?_ ?_
                     rotate_left
                     ·simp only [putAll, Act.put, Sq.s1, Sq.s2, Sq.s3]
                      rfl
                     refine one_ (i := 0) (N := some 8) (Sq.b 6 21) rfl rfl Z16 Z18 (fun K hK => ?_)
                     refine Kd.R_make_step (Kd.int .u8) _ 5 Z27 (N := 8) rfl 38 _ _ rfl 16 rfl rfl Try.underlying38 (.int .u8 0) 1 info5 rfl Z18 Z25 0 (ok := fun _ => True) (okp := fun _ => True) rfl (fun _ hk => hk) trivial Z25 Z25 (Below.refl _ _) (Nat.le_refl _) ?_
                     intro fd w23 ho24 hb hg_ hnew_
                     clear hg_ hnew_
                     (first | rw [← Ny101.out] at ho24 | (simp only [Int.reduceToNat] at ho24; rw [← Ny101.out] at ho24))
                     have cQ := Aside0.mk (Kd.R_lower ho24 (below_size (by repeat (first | (with_reducible first | exact HB.out | apply below_alloc | apply pw_below_drewN | apply below_drew1 | refine below_set ?_ GE105.out) | exact HB.out))))
                     have de := Aside0.mk (blk_below (g := gb105) (by (with_reducible repeat (first | refine blk_drewN ?_ _ | refine blk_drew ?_ | refine blk_alloc ?_ _)); exact BK105.out) hb)
                     have eH := Aside0.mk (below_step (by repeat (first | (with_reducible first | exact HB.out | apply below_alloc | apply pw_below_drewN | apply below_drew1 | refine below_set ?_ GE105.out) | exact HB.out)) hb)
                     clear BK105
                     clear HB
                     have ee := cQ
                     have BK105 := de
                     have HB := eH
                     clear cQ de eH
                     clear hb ho24
                     refine hK.out _ _ trivial (fun hHeld => ?_)
                     clear hK K
                     refine norm_ (a' := ?_) ?_ ?_
                     rotate_left
                     ·show Act.put _ (some 8) _ = _
                      simp only [Act.put, Sq.s1, Sq.s2, Sq.s3, i64_w, i32_w]
                      rfl
                     exact norm_ (by first | (simp only [putAll, Act.put, Sq.s1, Sq.s2, Sq.s3]; done) | (simp only [putAll, Act.put, Sq.s1, Sq.s2, Sq.s3]; rfl)) (hJ0_2_4 (fd, gb105) _ ⟨(by (with_reducible repeat (first | apply Kd.R_alloc | apply Kd.R_drewN | apply Kd.R_drew)); exact ee.out), (by (with_reducible repeat (first | refine blk_drewN ?_ _ | refine blk_drew ?_ | refine blk_alloc ?_ _)); exact BK105.out), GW105.out, GE105.out, (by repeat (first | (with_reducible first | exact HB.out | apply below_alloc | apply pw_below_drewN | apply below_drew1 | refine below_set ?_ GE105.out) | exact HB.out))⟩)
                   ·skip
                    rintro ⟨fd, gb105⟩ w24 ⟨h0_, h1_, h2_, h3_, h4_⟩
                    have cQ : Aside0 (Kd.R (Kd.int .u8) 5 w24 w.heap.size (fun _ => True) fd eS) := ⟨h0_⟩
                    have de : Aside0 (w24.heap[gb105]? = some (.cells #[.int .i64 0, .int .i64 0, .int .i64 0, .string ⟨#[]⟩, .int .i64 0, .int .i64 0, .string ⟨#[]⟩, .int .i64 0, .int .i64 0, .string ⟨#[]⟩, .int .i64 0, .string ⟨#[]⟩, .int .i64 0, .int .i64 0, .int .i64 0, .int .i64 0, .int .i64 0, .int .i64 0, .int .i64 0, .string ⟨#[]⟩, .string ⟨#[]⟩, .slice none 0 0, .int .i64 0, .string ⟨#[]⟩, .slice none 0 0] 34 (0, 0))) := ⟨h1_⟩
                    have eH : Aside0 (w.heap.size ≤ gb105) := ⟨h2_⟩
                    have n3_ : Aside0 (w.heap.size ≤ gb105) := ⟨h3_⟩
                    have n4_ : Aside0 (Below w.heap.size w w24) := ⟨h4_⟩
                    clear HB
                    clear h0_ h1_ h2_ h3_ h4_
                    have ee := cQ
                    have BK105 := de
                    have GW105 := eH
                    have GE105 := n3_
                    have HB := n4_
                    clear cQ de eH n3_ n4_
                    have hHeld := trivial
                    refine norm_ (a' := ?_) ?_ ?_
                    rotate_left
                    ·simp only [putAll, Act.put, Sq.s1, Sq.s2, Sq.s3]
                     rfl
                    refine two_ (i := 1) (j := 2) (Ni := some 9) (Nj := some 10) (Sq.b 6 19) (Sq.b 6 21) rfl rfl rfl rfl Z16 Z18 Z18 (fun K hK => ?_) (fun K hK => ?_)
                    ·skip
                     have hcv25 := own_string (P := Try.prog) Try.underlying38 Try.underlying5 Try.underlying9 (Kd.own_of_R ee.out)
                     refine value_ (w1 := ?_) (v := ?_) Z27 rfl ?_ ?_
                     rotate_left 2
                     ·go_simp
                      constructor
                      ·rfl
                      ·rfl
                     clear hcv25
                     refine hK.out _ _ trivial (fun hHeld => ?_)
                     clear hK K
                     refine norm_ (a' := ?_) ?_ ?_
                     rotate_left
                     ·show Act.put _ (some 9) _ = _
                      simp only [Act.put, Sq.s1, Sq.s2, Sq.s3, i64_w, i32_w]
                      rfl
                     exact norm_ (by first | (simp only [putAll, Act.put, Sq.s1, Sq.s2, Sq.s3]; done) | (simp only [putAll, Act.put, Sq.s1, Sq.s2, Sq.s3]; rfl)) (hJ0_1_4 (fd, gb105) _ ⟨(by (with_reducible repeat (first | apply Kd.R_alloc | apply Kd.R_drewN | apply Kd.R_drew)); exact ee.out), (by (with_reducible repeat (first | refine blk_drewN ?_ _ | refine blk_drew ?_ | refine blk_alloc ?_ _)); exact BK105.out), GW105.out, GE105.out, (by repeat (first | (with_reducible first | exact HB.out | apply below_alloc | apply pw_below_drewN | apply below_drew1 | refine below_set ?_ GE105.out) | exact HB.out))⟩)
                    ·skip
                     refine goes_ Try.func16 Z16 rfl #[] Z27 rfl rfl Z4 ?_
                     with_reducible refine (roadbooklaw12_hop.calls  aJ _ A2.out).mono ?_
                     rintro e w' ⟨rfl, ⟨nd, rfl⟩⟩
                     refine ⟨_, rfl, ?_⟩
                     refine hK.out _ _ trivial (fun hHeld => ?_)
                     clear hK K
                     refine norm_ (a' := ?_) ?_ ?_
                     rotate_left
                     ·show Act.put _ (some 10) _ = _
                      simp only [Act.put, Sq.s1, Sq.s2, Sq.s3, i64_w, i32_w]
                      rfl
                     exact norm_ (by first | (simp only [putAll, Act.put, Sq.s1, Sq.s2, Sq.s3]; done) | (simp only [putAll, Act.put, Sq.s1, Sq.s2, Sq.s3]; rfl)) (hJ0_2_4 (fd, gb105) _ ⟨(by (with_reducible repeat (first | apply Kd.R_alloc | apply Kd.R_drewN | apply Kd.R_drew)); exact ee.out), (by (with_reducible repeat (first | refine blk_drewN ?_ _ | refine blk_drew ?_ | refine blk_alloc ?_ _)); exact BK105.out), GW105.out, GE105.out, (by repeat (first | (with_reducible first | exact HB.out | apply below_alloc | apply pw_below_drewN | apply below_drew1 | refine below_set ?_ GE105.out) | exact HB.out))⟩)
                  ·skip
                   rintro fd w23 ⟨h0_, h1_⟩
                   have cQ : Aside0 (Kd.R (Kd.int .u8) 5 w23 w.heap.size (fun _ => True) fd eS) := ⟨h0_⟩
                   have de : Aside0 (Below w.heap.size w w23) := ⟨h1_⟩
                   clear HB
                   clear h0_ h1_
                   have ee := cQ
                   have HB := de
                   clear cQ de
                   have hHeld := trivial
                   refine norm_ (a' := ?_) ?_ ?_
                   rotate_left
                   ·simp only [putAll, Act.put, Sq.s1, Sq.s2, Sq.s3]
                    rfl
                   refine two_ (i := 1) (j := 4) (Ni := some 9) (Nj := some 1) (Sq.b 6 7) (Sq.b 6 21) rfl rfl rfl rfl Z16 Z18 Z18 (fun K hK => ?_) (fun K hK => ?_)
                   ·skip
                    have hcv24 := own_string (P := Try.prog) Try.underlying38 Try.underlying5 Try.underlying9 (Kd.own_of_R ee.out)
                    refine value_ (w1 := ?_) (v := ?_) Z27 rfl ?_ ?_
                    rotate_left 2
                    ·go_simp
                     constructor
                     ·rfl
                     ·rfl
                    clear hcv24
                    refine hK.out _ _ trivial (fun hHeld => ?_)
                    clear hK K
                    refine norm_ (a' := ?_) ?_ ?_
                    rotate_left
                    ·show Act.put _ (some 9) _ = _
                     simp only [Act.put, Sq.s1, Sq.s2, Sq.s3, i64_w, i32_w]
                     rfl
                    refine pure_ (i := 3) (N := some 11) (v := ?_) (a' := ?_) (Sq.b 6 15) rfl rfl Z16 (fun _ _ _ h => h) (Or.inl ⟨Z27, ?_⟩) ?_ ?_
                    rotate_left
                    ·intro w'
                     refine Eq.trans (Pre.build_run 34 [(0, Go.Operand.const (Go.Value.int Go.IntKind.i64 2)), (1, Go.Operand.const (Go.Value.int Go.IntKind.i64 2)), (6, Go.Operand.tmp 9), (9, Go.Operand.tmp 10), (10, Go.Operand.const (Go.Value.int Go.IntKind.i64 1))] rfl (roadbooklaw12_awake.bd11 _ _ _ _ _)) ?_
                     with_reducible rfl
                    rotate_left
                    ·simp only [Act.put, Sq.s1, Sq.s2, Sq.s3, i64_w, i32_w]
                     rfl
                    exact norm_ (by first | (simp only [putAll, Act.put, Sq.s1, Sq.s2, Sq.s3]; done) | (simp only [putAll, Act.put, Sq.s1, Sq.s2, Sq.s3]; rfl)) (hJ0_1_2 (fd) _ ⟨(by (with_reducible repeat (first | apply Kd.R_alloc | apply Kd.R_drewN | apply Kd.R_drew)); exact ee.out), Z0⟩)
                   ·skip
                    refine box_step ?hg (N := 1) ?hd (cs := #[.int .i64 0, .int .i64 0, .int .i64 0, .string ⟨#[]⟩, .int .i64 0, .int .i64 0, .string ⟨#[]⟩, .int .i64 0, .int .i64 0, .string ⟨#[]⟩, .int .i64 0, .string ⟨#[]⟩, .int .i64 0, .int .i64 0, .int .i64 0, .int .i64 0, .int .i64 0, .int .i64 0, .int .i64 0, .string ⟨#[]⟩, .string ⟨#[]⟩, .slice none 0 0, .int .i64 0, .string ⟨#[]⟩, .slice none 0 0]) (t := 34) ?hr ?_; (case hd => rfl); (case hg => rfl); (case hr => first | (go_simp; done) | (go_simp; rfl))
                    intro gb105 hg w24 hbox hb
                    have cQ := Aside0.mk (Kd.R_below (by (with_reducible repeat (first | apply Kd.R_alloc | apply Kd.R_drewN | apply Kd.R_drew)); exact ee.out) hb)
                    have de := Aside0.mk (below_step Z0 hb)
                    have eH := Aside0.mk (hbox)
                    have n3_ := Aside0.mk ((by rw [hg]; exact (below_size Z0) : w.heap.size ≤ gb105))
                    have n4_ := Aside0.mk ((by rw [hg]; exact (below_size Z0) : w.heap.size ≤ gb105))
                    clear ee
                    clear HB
                    have ee := cQ
                    have HB := de
                    have BK105 := eH
                    have GW105 := n3_
                    have GE105 := n4_
                    clear cQ de eH n3_ n4_
                    clear hb hbox hg
                    refine hK.out _ _ trivial (fun hHeld => ?_)
                    clear hK K
                    refine norm_ (a' := ?_) ?_ ?_
                    rotate_left
                    ·show Act.put _ (some 1) _ = _
                     simp only [Act.put, Sq.s1, Sq.s2, Sq.s3, i64_w, i32_w]
                     rfl
                    exact norm_ (by first | (simp only [putAll, Act.put, Sq.s1, Sq.s2, Sq.s3]; done) | (simp only [putAll, Act.put, Sq.s1, Sq.s2, Sq.s3]; rfl)) (hJ0_2_4 (fd, gb105) _ ⟨(by (with_reducible repeat (first | apply Kd.R_alloc | apply Kd.R_drewN | apply Kd.R_drew)); exact ee.out), (by (with_reducible repeat (first | refine blk_drewN ?_ _ | refine blk_drew ?_ | refine blk_alloc ?_ _)); exact BK105.out), GW105.out, GE105.out, (by repeat (first | (with_reducible first | exact HB.out | apply below_alloc | apply pw_below_drewN | apply below_drew1 | refine below_set ?_ GE105.out) | exact HB.out))⟩)
                 ·skip
                  rintro fd w24 ⟨h0_, h1_⟩
                  have cQ : Aside0 (Kd.R (Kd.int .u8) 5 w24 w.heap.size (fun _ => True) fd eS) := ⟨h0_⟩
                  have de : Aside0 (Below w.heap.size w w24) := ⟨h1_⟩
                  clear HB
                  clear h0_ h1_
                  have ee := cQ
                  have HB := de
                  clear cQ de
                  have hHeld := trivial
                  refine norm_ (a' := ?_) ?_ ?_
                  rotate_left
                  ·simp only [putAll, Act.put, Sq.s1, Sq.s2, Sq.s3]
                   rfl
                  refine two_ (i := 2) (j := 4) (Ni := some 10) (Nj := some 1) (Sq.b 6 7) (Sq.b 6 19) rfl rfl rfl rfl Z16 Z18 Z18 (fun K hK => ?_) (fun K hK => ?_)
                  ·skip
                   refine goes_ Try.func16 Z16 rfl #[] Z27 rfl rfl Z4 ?_
                   with_reducible refine (roadbooklaw12_hop.calls  aJ _ A2.out).mono ?_
                   rintro e w' ⟨rfl, ⟨nd, rfl⟩⟩
                   refine ⟨_, rfl, ?_⟩
                   refine hK.out _ _ trivial (fun hHeld => ?_)
                   clear hK K
                   refine norm_ (a' := ?_) ?_ ?_
                   rotate_left
                   ·show Act.put _ (some 10) _ = _
                    simp only [Act.put, Sq.s1, Sq.s2, Sq.s3, i64_w, i32_w]
                    rfl
                   refine pure_ (i := 3) (N := some 11) (v := ?_) (a' := ?_) (Sq.b 6 15) rfl rfl Z16 (fun _ _ _ h => h) (Or.inl ⟨Z27, ?_⟩) ?_ ?_
                   rotate_left
                   ·intro w'
                    refine Eq.trans (Pre.build_run 34 [(0, Go.Operand.const (Go.Value.int Go.IntKind.i64 2)), (1, Go.Operand.const (Go.Value.int Go.IntKind.i64 2)), (6, Go.Operand.tmp 9), (9, Go.Operand.tmp 10), (10, Go.Operand.const (Go.Value.int Go.IntKind.i64 1))] rfl (roadbooklaw12_awake.bd11 _ _ _ _ _)) ?_
                    with_reducible rfl
                   rotate_left
                   ·simp only [Act.put, Sq.s1, Sq.s2, Sq.s3, i64_w, i32_w]
                    rfl
                   exact norm_ (by first | (simp only [putAll, Act.put, Sq.s1, Sq.s2, Sq.s3]; done) | (simp only [putAll, Act.put, Sq.s1, Sq.s2, Sq.s3]; rfl)) (hJ0_1_2 (fd) _ ⟨(by (with_reducible repeat (first | apply Kd.R_alloc | apply Kd.R_drewN | apply Kd.R_drew)); exact ee.out), Z0⟩)
                  ·skip
                   refine box_step ?hg (N := 1) ?hd (cs := #[.int .i64 0, .int .i64 0, .int .i64 0, .string ⟨#[]⟩, .int .i64 0, .int .i64 0, .string ⟨#[]⟩, .int .i64 0, .int .i64 0, .string ⟨#[]⟩, .int .i64 0, .string ⟨#[]⟩, .int .i64 0, .int .i64 0, .int .i64 0, .int .i64 0, .int .i64 0, .int .i64 0, .int .i64 0, .string ⟨#[]⟩, .string ⟨#[]⟩, .slice none 0 0, .int .i64 0, .string ⟨#[]⟩, .slice none 0 0]) (t := 34) ?hr ?_; (case hd => rfl); (case hg => rfl); (case hr => first | (go_simp; done) | (go_simp; rfl))
                   intro gb105 hg w25 hbox hb
                   have cQ := Aside0.mk (Kd.R_below (by (with_reducible repeat (first | apply Kd.R_alloc | apply Kd.R_drewN | apply Kd.R_drew)); exact ee.out) hb)
                   have de := Aside0.mk (below_step Z0 hb)
                   have eH := Aside0.mk (hbox)
                   have n3_ := Aside0.mk ((by rw [hg]; exact (below_size Z0) : w.heap.size ≤ gb105))
                   have n4_ := Aside0.mk ((by rw [hg]; exact (below_size Z0) : w.heap.size ≤ gb105))
                   clear ee
                   clear HB
                   have ee := cQ
                   have HB := de
                   have BK105 := eH
                   have GW105 := n3_
                   have GE105 := n4_
                   clear cQ de eH n3_ n4_
                   clear hb hbox hg
                   refine hK.out _ _ trivial (fun hHeld => ?_)
                   clear hK K
                   refine norm_ (a' := ?_) ?_ ?_
                   rotate_left
                   ·show Act.put _ (some 1) _ = _
                    simp only [Act.put, Sq.s1, Sq.s2, Sq.s3, i64_w, i32_w]
                    rfl
                   exact norm_ (by first | (simp only [putAll, Act.put, Sq.s1, Sq.s2, Sq.s3]; done) | (simp only [putAll, Act.put, Sq.s1, Sq.s2, Sq.s3]; rfl)) (hJ0_1_4 (fd, gb105) _ ⟨(by (with_reducible repeat (first | apply Kd.R_alloc | apply Kd.R_drewN | apply Kd.R_drew)); exact ee.out), (by (with_reducible repeat (first | refine blk_drewN ?_ _ | refine blk_drew ?_ | refine blk_alloc ?_ _)); exact BK105.out), GW105.out, GE105.out, (by repeat (first | (with_reducible first | exact HB.out | apply below_alloc | apply pw_below_drewN | apply below_drew1 | refine below_set ?_ GE105.out) | exact HB.out))⟩)
                ·skip
                 rintro ⟨fd, gb105⟩ w24 ⟨h0_, h1_, h2_, h3_, h4_⟩
                 have cQ : Aside0 (Kd.R (Kd.int .u8) 5 w24 w.heap.size (fun _ => True) fd eS) := ⟨h0_⟩
                 have de : Aside0 (w24.heap[gb105]? = some (.cells #[.int .i64 0, .int .i64 0, .int .i64 0, .string ⟨#[]⟩, .int .i64 0, .int .i64 0, .string ⟨#[]⟩, .int .i64 0, .int .i64 0, .string ⟨#[]⟩, .int .i64 0, .string ⟨#[]⟩, .int .i64 0, .int .i64 0, .int .i64 0, .int .i64 0, .int .i64 0, .int .i64 0, .int .i64 0, .string ⟨#[]⟩, .string ⟨#[]⟩, .slice none 0 0, .int .i64 0, .string ⟨#[]⟩, .slice none 0 0] 34 (0, 0))) := ⟨h1_⟩
                 have eH : Aside0 (w.heap.size ≤ gb105) := ⟨h2_⟩
                 have n3_ : Aside0 (w.heap.size ≤ gb105) := ⟨h3_⟩
                 have n4_ : Aside0 (Below w.heap.size w w24) := ⟨h4_⟩
                 clear HB
                 clear h0_ h1_ h2_ h3_ h4_
                 have ee := cQ
                 have BK105 := de
                 have GW105 := eH
                 have GE105 := n3_
                 have HB := n4_
                 clear cQ de eH n3_ n4_
                 have hHeld := trivial
                 refine norm_ (a' := ?_) ?_ ?_
                 rotate_left
                 ·simp only [putAll, Act.put, Sq.s1, Sq.s2, Sq.s3]
                  rfl
                 refine one_ (i := 1) (N := some 9) (Sq.b 6 23) rfl rfl Z16 Z18 (fun K hK => ?_)
                 have hcv25 := own_string (P := Try.prog) Try.underlying38 Try.underlying5 Try.underlying9 (Kd.own_of_R ee.out)
                 refine value_ (w1 := ?_) (v := ?_) Z27 rfl ?_ ?_
                 rotate_left 2
                 ·go_simp
                  constructor
                  ·rfl
                  ·rfl
                 clear hcv25
                 refine hK.out _ _ trivial (fun hHeld => ?_)
                 clear hK K
                 refine norm_ (a' := ?_) ?_ ?_
                 rotate_left
                 ·show Act.put _ (some 9) _ = _
                  simp only [Act.put, Sq.s1, Sq.s2, Sq.s3, i64_w, i32_w]
                  rfl
                 refine pure_ (i := 3) (N := some 11) (v := ?_) (a' := ?_) (Sq.b 6 31) rfl rfl Z16 (fun _ _ _ h => h) (Or.inl ⟨Z27, ?_⟩) ?_ ?_
                 rotate_left
                 ·intro w'
                  refine Eq.trans (Pre.build_run 34 [(0, Go.Operand.const (Go.Value.int Go.IntKind.i64 2)), (1, Go.Operand.const (Go.Value.int Go.IntKind.i64 2)), (6, Go.Operand.tmp 9), (9, Go.Operand.tmp 10), (10, Go.Operand.const (Go.Value.int Go.IntKind.i64 1))] rfl (roadbooklaw12_awake.bd11 _ _ _ _ _)) ?_
                  with_reducible rfl
                 rotate_left
                 ·simp only [Act.put, Sq.s1, Sq.s2, Sq.s3, i64_w, i32_w]
                  rfl
                 exact norm_ (by first | (simp only [putAll, Act.put, Sq.s1, Sq.s2, Sq.s3]; done) | (simp only [putAll, Act.put, Sq.s1, Sq.s2, Sq.s3]; rfl)) (hJ0_1_2_4 (fd, gb105) _ ⟨(by (with_reducible repeat (first | apply Kd.R_alloc | apply Kd.R_drewN | apply Kd.R_drew)); exact ee.out), (by (with_reducible repeat (first | refine blk_drewN ?_ _ | refine blk_drew ?_ | refine blk_alloc ?_ _)); exact BK105.out), GW105.out, GE105.out, (by repeat (first | (with_reducible first | exact HB.out | apply below_alloc | apply pw_below_drewN | apply below_drew1 | refine below_set ?_ GE105.out) | exact HB.out))⟩)
               ·skip
                rintro ⟨fd, gb105⟩ w25 ⟨h0_, h1_, h2_, h3_, h4_⟩
                have cQ : Aside0 (Kd.R (Kd.int .u8) 5 w25 w.heap.size (fun _ => True) fd eS) := ⟨h0_⟩
                have de : Aside0 (w25.heap[gb105]? = some (.cells #[.int .i64 0, .int .i64 0, .int .i64 0, .string ⟨#[]⟩, .int .i64 0, .int .i64 0, .string ⟨#[]⟩, .int .i64 0, .int .i64 0, .string ⟨#[]⟩, .int .i64 0, .string ⟨#[]⟩, .int .i64 0, .int .i64 0, .int .i64 0, .int .i64 0, .int .i64 0, .int .i64 0, .int .i64 0, .string ⟨#[]⟩, .string ⟨#[]⟩, .slice none 0 0, .int .i64 0, .string ⟨#[]⟩, .slice none 0 0] 34 (0, 0))) := ⟨h1_⟩
                have eH : Aside0 (w.heap.size ≤ gb105) := ⟨h2_⟩
                have n3_ : Aside0 (w.heap.size ≤ gb105) := ⟨h3_⟩
                have n4_ : Aside0 (Below w.heap.size w w25) := ⟨h4_⟩
                clear HB
                clear h0_ h1_ h2_ h3_ h4_
                have ee := cQ
                have BK105 := de
                have GW105 := eH
                have GE105 := n3_
                have HB := n4_
                clear cQ de eH n3_ n4_
                have hHeld := trivial
                refine norm_ (a' := ?_) ?_ ?_
                rotate_left
                ·simp only [putAll, Act.put, Sq.s1, Sq.s2, Sq.s3]
                 rfl
                refine one_ (i := 2) (N := some 10) (Sq.b 6 23) rfl rfl Z16 Z18 (fun K hK => ?_)
                refine goes_ Try.func16 Z16 rfl #[] Z27 rfl rfl Z4 ?_
                with_reducible refine (roadbooklaw12_hop.calls  aJ _ A2.out).mono ?_
                rintro e w' ⟨rfl, ⟨nd, rfl⟩⟩
                refine ⟨_, rfl, ?_⟩
                refine hK.out _ _ trivial (fun hHeld => ?_)
                clear hK K
                refine norm_ (a' := ?_) ?_ ?_
                rotate_left
                ·show Act.put _ (some 10) _ = _
                 simp only [Act.put, Sq.s1, Sq.s2, Sq.s3, i64_w, i32_w]
                 rfl
                refine pure_ (i := 3) (N := some 11) (v := ?_) (a' := ?_) (Sq.b 6 31) rfl rfl Z16 (fun _ _ _ h => h) (Or.inl ⟨Z27, ?_⟩) ?_ ?_
                rotate_left
                ·intro w'
                 refine Eq.trans (Pre.build_run 34 [(0, Go.Operand.const (Go.Value.int Go.IntKind.i64 2)), (1, Go.Operand.const (Go.Value.int Go.IntKind.i64 2)), (6, Go.Operand.tmp 9), (9, Go.Operand.tmp 10), (10, Go.Operand.const (Go.Value.int Go.IntKind.i64 1))] rfl (roadbooklaw12_awake.bd11 _ _ _ _ _)) ?_
                 with_reducible rfl
                rotate_left
                ·simp only [Act.put, Sq.s1, Sq.s2, Sq.s3, i64_w, i32_w]
                 rfl
                exact norm_ (by first | (simp only [putAll, Act.put, Sq.s1, Sq.s2, Sq.s3]; done) | (simp only [putAll, Act.put, Sq.s1, Sq.s2, Sq.s3]; rfl)) (hJ0_1_2_4 (fd, gb105) _ ⟨(by (with_reducible repeat (first | apply Kd.R_alloc | apply Kd.R_drewN | apply Kd.R_drew)); exact ee.out), (by (with_reducible repeat (first | refine blk_drewN ?_ _ | refine blk_drew ?_ | refine blk_alloc ?_ _)); exact BK105.out), GW105.out, GE105.out, (by repeat (first | (with_reducible first | exact HB.out | apply below_alloc | apply pw_below_drewN | apply below_drew1 | refine below_set ?_ GE105.out) | exact HB.out))⟩)
              ·skip
               rintro fd w24 ⟨h0_, h1_⟩
               have cQ : Aside0 (Kd.R (Kd.int .u8) 5 w24 w.heap.size (fun _ => True) fd eS) := ⟨h0_⟩
               have de : Aside0 (Below w.heap.size w w24) := ⟨h1_⟩
               clear HB
               clear h0_ h1_
               have ee := cQ
               have HB := de
               clear cQ de
               have hHeld := trivial
               refine norm_ (a' := ?_) ?_ ?_
               rotate_left
               ·simp only [putAll, Act.put, Sq.s1, Sq.s2, Sq.s3]
                rfl
               refine one_ (i := 4) (N := some 1) (Sq.b 6 31) rfl rfl Z16 Z18 (fun K hK => ?_)
               refine box_step ?hg (N := 1) ?hd (cs := #[.int .i64 0, .int .i64 0, .int .i64 0, .string ⟨#[]⟩, .int .i64 0, .int .i64 0, .string ⟨#[]⟩, .int .i64 0, .int .i64 0, .string ⟨#[]⟩, .int .i64 0, .string ⟨#[]⟩, .int .i64 0, .int .i64 0, .int .i64 0, .int .i64 0, .int .i64 0, .int .i64 0, .int .i64 0, .string ⟨#[]⟩, .string ⟨#[]⟩, .slice none 0 0, .int .i64 0, .string ⟨#[]⟩, .slice none 0 0]) (t := 34) ?hr ?_; (case hd => rfl); (case hg => rfl); (case hr => first | (go_simp; done) | (go_simp; rfl))
               intro gb105 hg w25 hbox hb
               have cQ := Aside0.mk (Kd.R_below (by (with_reducible repeat (first | apply Kd.R_alloc | apply Kd.R_drewN | apply Kd.R_drew)); exact ee.out) hb)
               have de := Aside0.mk (below_step Z0 hb)
               have eH := Aside0.mk (hbox)
               have n3_ := Aside0.mk ((by rw [hg]; exact (below_size Z0) : w.heap.size ≤ gb105))
               have n4_ := Aside0.mk ((by rw [hg]; exact (below_size Z0) : w.heap.size ≤ gb105))
               clear ee
               clear HB
               have ee := cQ
               have HB := de
               have BK105 := eH
               have GW105 := n3_
               have GE105 := n4_
               clear cQ de eH n3_ n4_
               clear hb hbox hg
               refine hK.out _ _ trivial (fun hHeld => ?_)
               clear hK K
               refine norm_ (a' := ?_) ?_ ?_
               rotate_left
               ·show Act.put _ (some 1) _ = _
                simp only [Act.put, Sq.s1, Sq.s2, Sq.s3, i64_w, i32_w]
                rfl
               exact norm_ (by first | (simp only [putAll, Act.put, Sq.s1, Sq.s2, Sq.s3]; done) | (simp only [putAll, Act.put, Sq.s1, Sq.s2, Sq.s3]; rfl)) (hJ0_1_2_4 (fd, gb105) _ ⟨(by (with_reducible repeat (first | apply Kd.R_alloc | apply Kd.R_drewN | apply Kd.R_drew)); exact ee.out), (by (with_reducible repeat (first | refine blk_drewN ?_ _ | refine blk_drew ?_ | refine blk_alloc ?_ _)); exact BK105.out), GW105.out, GE105.out, (by repeat (first | (with_reducible first | exact HB.out | apply below_alloc | apply pw_below_drewN | apply below_drew1 | refine below_set ?_ GE105.out) | exact HB.out))⟩)
             rintro ⟨fd, gb105⟩ w25 ⟨h0_, h1_, h2_, h3_, h4_⟩
             have cQ : Aside0 (Kd.R (Kd.int .u8) 5 w25 w.heap.size (fun _ => True) fd eS) := ⟨h0_⟩
             have de : Aside0 (w25.heap[gb105]? = some (.cells #[.int .i64 0, .int .i64 0, .int .i64 0, .string ⟨#[]⟩, .int .i64 0, .int .i64 0, .string ⟨#[]⟩, .int .i64 0, .int .i64 0, .string ⟨#[]⟩, .int .i64 0, .string ⟨#[]⟩, .int .i64 0, .int .i64 0, .int .i64 0, .int .i64 0, .int .i64 0, .int .i64 0, .int .i64 0, .string ⟨#[]⟩, .string ⟨#[]⟩, .slice none 0 0, .int .i64 0, .string ⟨#[]⟩, .slice none 0 0] 34 (0, 0))) := ⟨h1_⟩
             have eH : Aside0 (w.heap.size ≤ gb105) := ⟨h2_⟩
             have n3_ : Aside0 (w.heap.size ≤ gb105) := ⟨h3_⟩
             have n4_ : Aside0 (Below w.heap.size w w25) := ⟨h4_⟩
             clear HB
             clear h0_ h1_ h2_ h3_ h4_
             have ee := cQ
             have BK105 := de
             have GW105 := eH
             have GE105 := n3_
             have HB := n4_
             clear cQ de eH n3_ n4_
             have hHeld := trivial
             refine norm_ (a' := ?_) ?_ ?_
             rotate_left
             ·simp only [putAll, Act.put, Sq.s1, Sq.s2, Sq.s3]
              rfl
             refine one_ (i := 5) (N := none) (Sq.b 6 63) rfl rfl Z16 Z18 (fun K hK => ?_)
             refine skip_ (w1 := ?_) Z27 rfl ?_ ?_
             rotate_left
             ·refine Eq.trans (Pre.store_run rfl Z27 Z27 BK105.out Z16 Z27 Z27) ?_
              rfl
             refine hK.out _ _ trivial (fun hHeld => ?_)
             clear hK K
             refine done_ Z16 ?_
             refine Pre.abs_end (g := gb105) (t := 34) (cs := #[.int .i64 0, .int .i64 0, .int .i64 0, .string ⟨#[]⟩, .int .i64 0, .int .i64 0, .string ⟨#[]⟩, .int .i64 0, .int .i64 0, .string ⟨#[]⟩, .int .i64 0, .string ⟨#[]⟩, .int .i64 0, .int .i64 0, .int .i64 0, .int .i64 0, .int .i64 0, .int .i64 0, .int .i64 0, .string ⟨#[]⟩, .string ⟨#[]⟩, .slice none 0 0, .int .i64 0, .string ⟨#[]⟩, .slice none 0 0]) (cells := #[.int .i64 2, .int .i64 2, .int .i64 0, .string ⟨#[]⟩, .int .i64 0, .int .i64 0, .string (strOfNums eS), .int .i64 0, .int .i64 0, .string aJ, .int .i64 1, .string ⟨#[]⟩, .int .i64 0, .int .i64 0, .int .i64 0, .int .i64 0, .int .i64 0, .int .i64 0, .int .i64 0, .string ⟨#[]⟩, .string ⟨#[]⟩, .slice none 0 0, .int .i64 0, .string ⟨#[]⟩, .slice none 0 0]) (by (with_reducible repeat (first | refine blk_drewN ?_ _ | refine blk_drew ?_ | refine blk_alloc ?_ _)); exact BK105.out) Z27 ?_
             intro w51 hbS_ sS_
             replace hbS_ := Aside0.mk hbS_
             replace sS_ : Aside0 (Pre.Sets gb105 w25 w51) := ⟨⟨sS_.os, sS_.tape, sS_.output, sS_.size, sS_.block⟩⟩
             have cQ : Aside0 (Kd.R (Kd.int .u8) 5 w51 w.heap.size (fun _ => True) fd eS) := ⟨Kd.R_mono (Pre.R_sets sS_.out (Kd.R_types ee.out BK105.out Z18) (fun _ hk => hk.2)) (fun _ hk => trivial)⟩
             have de : Aside0 (w51.heap[gb105]? = some (.cells #[.int .i64 2, .int .i64 2, .int .i64 0, .string ⟨#[]⟩, .int .i64 0, .int .i64 0, .string (strOfNums eS), .int .i64 0, .int .i64 0, .string aJ, .int .i64 1, .string ⟨#[]⟩, .int .i64 0, .int .i64 0, .int .i64 0, .int .i64 0, .int .i64 0, .int .i64 0, .int .i64 0, .string ⟨#[]⟩, .string ⟨#[]⟩, .slice none 0 0, .int .i64 0, .string ⟨#[]⟩, .slice none 0 0] 34 (0, 0))) := ⟨hbS_.out⟩
             have eH : Aside0 (Below w.heap.size w w51) := ⟨sS_.out.below (by repeat (first | (with_reducible first | exact HB.out | apply below_alloc | apply pw_below_drewN | apply below_drew1 | refine below_set ?_ GE105.out) | exact HB.out)) GE105.out⟩
             clear hbS_ sS_
             (try clear ee)
             (try clear BK105)
             (try clear HB)
             have ee := cQ
             have BK105 := de
             have HB := eH
             clear cQ de eH
             have hcz52 := cells_25 BK105.out
             try go_wp2_with (first | ((with_reducible refine gate_dst (N := 11) rfl ?_); refine Pre.build_event 11 34 [(0, Go.Operand.const (Go.Value.int Go.IntKind.i64 2)), (1, Go.Operand.const (Go.Value.int Go.IntKind.i64 2)), (6, Go.Operand.tmp 9), (9, Go.Operand.tmp 10), (10, Go.Operand.const (Go.Value.int Go.IntKind.i64 1))] rfl rfl rfl (roadbooklaw12_awake.bd11 _ _ _ _ _) ?_) | ((with_reducible refine Pre.gate_store 34 rfl ?_); refine Pre.store_event rfl rfl rfl Z27 Z27 (by first | ((with_reducible repeat (first | refine blk_drewN ?_ _ | refine blk_drew ?_ | refine blk_alloc ?_ _)); (with_reducible first | exact BK105.out)) | (apply Pre.heap_norm; ((with_reducible repeat (first | refine blk_drewN ?_ _ | refine blk_drew ?_ | refine blk_alloc ?_ _ | apply Pre.blk_set_)); (with_reducible first | exact BK105.out)); (first | (simp only [Sq.s1, Sq.s2, Sq.s3]; done) | (simp only [Sq.s1, Sq.s2, Sq.s3]; rfl) | rfl))) Z16 Z27 Z27 ?_; simp only [World.setCells, Nat.zero_add, Nat.reduceAdd]) | ((with_reducible refine Pre.gate_load 34 rfl ?_); (try (refine gate_guard Z27 ?_; dsimp only)); refine Pre.load_event rfl rfl rfl Z27 (by first | ((with_reducible repeat (first | refine blk_drewN ?_ _ | refine blk_drew ?_ | refine blk_alloc ?_ _)); (with_reducible first | exact BK105.out)) | (apply Pre.heap_norm; ((with_reducible repeat (first | refine blk_drewN ?_ _ | refine blk_drew ?_ | refine blk_alloc ?_ _ | apply Pre.blk_set_)); (with_reducible first | exact BK105.out)); (first | (simp only [Sq.s1, Sq.s2, Sq.s3]; done) | (simp only [Sq.s1, Sq.s2, Sq.s3]; rfl) | rfl))) Try.underlying34 rfl Z16 ?_) | ((with_reducible refine Pre.gate_load 34 rfl ?_); (try (refine gate_guard Z27 ?_; dsimp only)); refine Pre.load_event_a rfl rfl rfl Z27 Pre.range25 Try.underlying34 rfl Z16 ?_) | ((with_reducible refine gate_dst (N := 15) rfl ?_); (try (refine gate_guard Z27 ?_; dsimp only)); refine Kd.S_lit k34 _ 34 ?hg (N := 15) ?hd (xs := ([(⟨2, 2, 0, (⟨#[]⟩ : ByteArray), 0, 0, strOfNums eS, 0, 0, aJ, 1, (⟨#[]⟩ : ByteArray), 0, 0, 0, 0, 0, 0, 0, (⟨#[]⟩ : ByteArray), (⟨#[]⟩ : ByteArray), ([] : List (S66)), 0, (⟨#[]⟩ : ByteArray), ([] : List (S68))⟩ : S34), (⟨2, 2, 0, (⟨#[]⟩ : ByteArray), 0, 0, strOfNums eS, 0, 0, aJ, 1, (⟨#[]⟩ : ByteArray), 0, 0, 0, 0, 0, 0, 0, (⟨#[]⟩ : ByteArray), (⟨#[]⟩ : ByteArray), ([] : List (S66)), 0, (⟨#[]⟩ : ByteArray), ([] : List (S68))⟩ : S34)] : List (S34))) (inner := [.int .i64 2, .int .i64 2, .int .i64 0, .string ⟨#[]⟩, .int .i64 0, .int .i64 0, .string (strOfNums eS), .int .i64 0, .int .i64 0, .string aJ, .int .i64 1, .string ⟨#[]⟩, .int .i64 0, .int .i64 0, .int .i64 0, .int .i64 0, .int .i64 0, .int .i64 0, .int .i64 0, .string ⟨#[]⟩, .string ⟨#[]⟩, .slice none 0 0, .int .i64 0, .string ⟨#[]⟩, .slice none 0 0, .int .i64 2, .int .i64 2, .int .i64 0, .string ⟨#[]⟩, .int .i64 0, .int .i64 0, .string (strOfNums eS), .int .i64 0, .int .i64 0, .string aJ, .int .i64 1, .string ⟨#[]⟩, .int .i64 0, .int .i64 0, .int .i64 0, .int .i64 0, .int .i64 0, .int .i64 0, .int .i64 0, .string ⟨#[]⟩, .string ⟨#[]⟩, .slice none 0 0, .int .i64 0, .string ⟨#[]⟩, .slice none 0 0]) (ok := fun _ => True) (okp := fun _ => True) ?hr ?hp (fun _ hk => hk) trivial (Below.refl _ _) (Nat.le_refl _) Z36 ?_; (case hd => rfl); (case hg => rfl); (case hr => first | (go_simp; done) | (go_simp; rfl)); (case hp => exact (Reps.front (show Kd.M k34 _ _ _ (⟨2, 2, 0, (⟨#[]⟩ : ByteArray), 0, 0, strOfNums eS, 0, 0, aJ, 1, (⟨#[]⟩ : ByteArray), 0, 0, 0, 0, 0, 0, 0, (⟨#[]⟩ : ByteArray), (⟨#[]⟩ : ByteArray), ([] : List (S66)), 0, (⟨#[]⟩ : ByteArray), ([] : List (S68))⟩ : S34) [.int .i64 2, .int .i64 2, .int .i64 0, .string ⟨#[]⟩, .int .i64 0, .int .i64 0, .string (strOfNums eS), .int .i64 0, .int .i64 0, .string aJ, .int .i64 1, .string ⟨#[]⟩, .int .i64 0, .int .i64 0, .int .i64 0, .int .i64 0, .int .i64 0, .int .i64 0, .int .i64 0, .string ⟨#[]⟩, .string ⟨#[]⟩, .slice none 0 0, .int .i64 0, .string ⟨#[]⟩, .slice none 0 0] from (k34_mkM _ _ _ (⟨2, 2, 0, (⟨#[]⟩ : ByteArray), 0, 0, strOfNums eS, 0, 0, aJ, 1, (⟨#[]⟩ : ByteArray), 0, 0, 0, 0, 0, 0, 0, (⟨#[]⟩ : ByteArray), (⟨#[]⟩ : ByteArray), ([] : List (S66)), 0, (⟨#[]⟩ : ByteArray), ([] : List (S68))⟩ : S34) (Kd.R_nil _ _ _ _ _) (Kd.R_nil _ _ _ _ _))) rfl (Reps.front (show Kd.M k34 _ _ _ (⟨2, 2, 0, (⟨#[]⟩ : ByteArray), 0, 0, strOfNums eS, 0, 0, aJ, 1, (⟨#[]⟩ : ByteArray), 0, 0, 0, 0, 0, 0, 0, (⟨#[]⟩ : ByteArray), (⟨#[]⟩ : ByteArray), ([] : List (S66)), 0, (⟨#[]⟩ : ByteArray), ([] : List (S68))⟩ : S34) [.int .i64 2, .int .i64 2, .int .i64 0, .string ⟨#[]⟩, .int .i64 0, .int .i64 0, .string (strOfNums eS), .int .i64 0, .int .i64 0, .string aJ, .int .i64 1, .string ⟨#[]⟩, .int .i64 0, .int .i64 0, .int .i64 0, .int .i64 0, .int .i64 0, .int .i64 0, .int .i64 0, .string ⟨#[]⟩, .string ⟨#[]⟩, .slice none 0 0, .int .i64 0, .string ⟨#[]⟩, .slice none 0 0] from (k34_mkM _ _ _ (⟨2, 2, 0, (⟨#[]⟩ : ByteArray), 0, 0, strOfNums eS, 0, 0, aJ, 1, (⟨#[]⟩ : ByteArray), 0, 0, 0, 0, 0, 0, 0, (⟨#[]⟩ : ByteArray), (⟨#[]⟩ : ByteArray), ([] : List (S66)), 0, (⟨#[]⟩ : ByteArray), ([] : List (S68))⟩ : S34) (Kd.R_nil _ _ _ _ _) (Kd.R_nil _ _ _ _ _))) rfl (Reps.none _ _) rfl) rfl)); intro v107 w53 ho54 hb hg_ hnew_; clear hg_ hnew_; (first | rw [← Ny106.out] at ho54 | (simp only [Int.reduceToNat] at ho54; rw [← Ny106.out] at ho54)); have HO108 := Aside0.mk (Kd.S_lower (Kd.S_newB ho54 (g := gb105) (o := .cells #[.int .i64 2, .int .i64 2, .int .i64 0, .string ⟨#[]⟩, .int .i64 0, .int .i64 0, .string (strOfNums eS), .int .i64 0, .int .i64 0, .string aJ, .int .i64 1, .string ⟨#[]⟩, .int .i64 0, .int .i64 0, .int .i64 0, .int .i64 0, .int .i64 0, .int .i64 0, .int .i64 0, .string ⟨#[]⟩, .string ⟨#[]⟩, .slice none 0 0, .int .i64 0, .string ⟨#[]⟩, .slice none 0 0] 34 (0, 0)) (by (with_reducible repeat (first | refine blk_drewN ?_ _ | refine blk_drew ?_ | refine blk_alloc ?_ _)); exact BK105.out)) (below_size (by repeat (first | (with_reducible first | exact HB.out | apply below_alloc | apply pw_below_drewN | apply below_drew1 | refine below_set ?_ GE105.out) | exact HB.out)))); replace ee := Aside0.mk (Kd.R_below (by (with_reducible repeat (first | apply Kd.R_alloc | apply Kd.R_drewN | apply Kd.R_drew)); exact ee.out) hb); replace BK105 := Aside0.mk (blk_below (g := gb105) (by (with_reducible repeat (first | refine blk_drewN ?_ _ | refine blk_drew ?_ | refine blk_alloc ?_ _)); exact BK105.out) hb); replace HB := Aside0.mk (below_step (by repeat (first | (with_reducible first | exact HB.out | apply below_alloc | apply pw_below_drewN | apply below_drew1 | refine below_set ?_ GE105.out) | exact HB.out)) hb); clear hb ho54; obtain ⟨Ao55, co55, eo55⟩ := Kd.S_slice HO108.out; subst eo55) | ((with_reducible refine gate_callee (f := 14) rfl ?_); refine goesL_ (some 16) rfl rfl Try.func14 Z16 rfl #[.slice Ao55 fY.length co55] rfl Z4 ?_; (with_reducible refine (ripng_Encode.calls k _ _ fY t109 dT ef _ ?side1 ?side2 A3.out).mono ?_); (case side1 => exact (by repeat (first | exact (Kd.S_reads' HO108.out).2.2 | (with_reducible refine Kd.C_alloc ?_ _) | (with_reducible refine Kd.C_drewN ?_ _) | (with_reducible refine Kd.C_drew ?_)))); (case side2 => exact (Kd.S_reads' HO108.out).2.1); rintro e w56 ⟨rfl, hb⟩; refine ⟨_, rfl, ?_⟩; replace ee := Aside0.mk (Kd.R_below (by (with_reducible repeat (first | apply Kd.R_alloc | apply Kd.R_drewN | apply Kd.R_drew)); exact ee.out) hb); replace HO108 := Aside0.mk (Kd.S_below (by (with_reducible repeat (first | apply Kd.S_alloc | apply Kd.S_drewN | apply Kd.S_drew)); exact HO108.out) hb); replace BK105 := Aside0.mk (blk_below (g := gb105) (by (with_reducible repeat (first | refine blk_drewN ?_ _ | refine blk_drew ?_ | refine blk_alloc ?_ _)); exact BK105.out) hb); replace HB := Aside0.mk (below_step (by repeat (first | (with_reducible first | exact HB.out | apply below_alloc | apply pw_below_drewN | apply below_drew1 | refine below_set ?_ GE105.out) | exact HB.out)) hb); clear hb) | ((with_reducible refine gate_callee (f := 8) rfl ?_); refine goesL_ (some 22) rfl rfl Try.func8 Z16 rfl #[.string t109] rfl Z4 ?_; (with_reducible refine (ripng_Parse.calls k t109 eU t113 t114 _ A4.out).mono ?_); rintro e w57 ⟨v115, rfl, ho0, hb⟩; refine ⟨_, rfl, ?_⟩; have HO116 := Aside0.mk (Kd.S_lower (Kd.S_newB (Kd.S_new' ho0 (Kd.S_lt (by (with_reducible repeat (first | apply Kd.S_alloc | apply Kd.S_drewN | apply Kd.S_drew)); exact HO108.out))) (g := gb105) (o := .cells #[.int .i64 2, .int .i64 2, .int .i64 0, .string ⟨#[]⟩, .int .i64 0, .int .i64 0, .string (strOfNums eS), .int .i64 0, .int .i64 0, .string aJ, .int .i64 1, .string ⟨#[]⟩, .int .i64 0, .int .i64 0, .int .i64 0, .int .i64 0, .int .i64 0, .int .i64 0, .int .i64 0, .string ⟨#[]⟩, .string ⟨#[]⟩, .slice none 0 0, .int .i64 0, .string ⟨#[]⟩, .slice none 0 0] 34 (0, 0)) (by (with_reducible repeat (first | refine blk_drewN ?_ _ | refine blk_drew ?_ | refine blk_alloc ?_ _)); exact BK105.out)) (below_size (by repeat (first | (with_reducible first | exact HB.out | apply below_alloc | apply pw_below_drewN | apply below_drew1 | refine below_set ?_ GE105.out) | exact HB.out)))); replace ee := Aside0.mk (Kd.R_below (by (with_reducible repeat (first | apply Kd.R_alloc | apply Kd.R_drewN | apply Kd.R_drew)); exact ee.out) hb); replace HO108 := Aside0.mk (Kd.S_elder' (by (with_reducible repeat (first | apply Kd.S_alloc | apply Kd.S_drewN | apply Kd.S_drew)); exact HO108.out) (Kd.S_base ho0) hb); replace BK105 := Aside0.mk (blk_below (g := gb105) (by (with_reducible repeat (first | refine blk_drewN ?_ _ | refine blk_drew ?_ | refine blk_alloc ?_ _)); exact BK105.out) hb); replace HB := Aside0.mk (below_step (by repeat (first | (with_reducible first | exact HB.out | apply below_alloc | apply pw_below_drewN | apply below_drew1 | refine below_set ?_ GE105.out) | exact HB.out)) hb); clear hb ho0))
             have cQ := Aside0.mk (Kd.R_drew ee.out)
             have de := Aside0.mk (Kd.S_drew HO108.out)
             have eH := Aside0.mk (Kd.S_drew HO116.out)
             have n3_ := Aside0.mk (blk_drew BK105.out)
             have n4_ := Aside0.mk (below_drew1 HB.out)
             clear ee
             clear HO108
             clear HO116
             clear BK105
             clear HB
             have ee := cQ
             have HO108 := de
             have HO116 := eH
             have BK105 := n3_
             have HB := n4_
             clear cQ de eH n3_ n4_
             obtain ⟨Ao59, co59, eo59⟩ := Kd.S_slice HO116.out
             (first | subst eo59 | (injection eo59 with f1_ f2_ f3_; have f4_ := f1_.symm; have f5_ := f3_.symm; clear f1_ f2_ f3_; subst f4_; subst f5_))
             have p117 : 0 ≤ (1 : Int) := Z25
             have q117 : 1 < (eU.length : Int) := of_decide_eq_true Z5
             obtain ⟨ad117, A117_21, c117_21, A117_24, c117_24, e117, hx117_0, hx117_1, hx117_2, hx117_3, hx117_4, hx117_5, hx117_6, hx117_7, hx117_8, hx117_9, hx117_10, hx117_11, hx117_12, hx117_13, hx117_14, hx117_15, hx117_16, hx117_17, hx117_18, hx117_19, hx117_20, hx117_21, hx117_22, hx117_23, hx117_24, hl117_21, hi117_21, hl117_24, hi117_24⟩ := at_T34 (Kd.S_reads' HO116.out).2.2 1 p117 q117
             cases e117
             obtain ⟨ce117, hce117, hMe117, hcc117⟩ := Kd.S_get HO116.out z34 1 p117 (by first | exact q117 | exact of_decide_eq_true Z5 | (have e_ := (Kd.S_reads' HO116.out).1; omega))
             obtain ⟨ve117_21, ve117_24, rfl, ge117_21, ge117_24⟩ := k34_openM hMe117
             have hv117_21 := hcc117 21 _ rfl
             rw [add_field _ _ 21 Z25] at hv117_21
             replace hv117_21 := Option.some.inj (hv117_21.symm.trans hx117_21)
             rw [hv117_21] at ge117_21
             have HL117_21 := Aside0.mk (show Kd.R k66 66 _ _ _ _ ((rd_T34 eU 1).f21) from ge117_21)
             clear hv117_21 ge117_21
             have hv117_24 := hcc117 24 _ rfl
             rw [add_field _ _ 24 Z25] at hv117_24
             replace hv117_24 := Option.some.inj (hv117_24.symm.trans hx117_24)
             rw [hv117_24] at ge117_24
             have HL117_24 := Aside0.mk (show Kd.R k68 68 _ _ _ _ ((rd_T34 eU 1).f24) from ge117_24)
             clear hv117_24 ge117_24
             clear hcc117 hce117
             (try simp only [show (1 : Int).toNat = 1 from rfl, Nat.reduceMul, Nat.reduceEqDiff, Go.Addr.add, ↓reduceIte] at hx117_0)
             (try simp only [show (1 : Int).toNat = 1 from rfl, Nat.reduceMul, Nat.reduceEqDiff, Go.Addr.add, ↓reduceIte] at hx117_1)
             (try simp only [show (1 : Int).toNat = 1 from rfl, Nat.reduceMul, Nat.reduceEqDiff, Go.Addr.add, ↓reduceIte] at hx117_2)
             (try simp only [show (1 : Int).toNat = 1 from rfl, Nat.reduceMul, Nat.reduceEqDiff, Go.Addr.add, ↓reduceIte] at hx117_3)
             (try simp only [show (1 : Int).toNat = 1 from rfl, Nat.reduceMul, Nat.reduceEqDiff, Go.Addr.add, ↓reduceIte] at hx117_4)
             (try simp only [show (1 : Int).toNat = 1 from rfl, Nat.reduceMul, Nat.reduceEqDiff, Go.Addr.add, ↓reduceIte] at hx117_5)
             (try simp only [show (1 : Int).toNat = 1 from rfl, Nat.reduceMul, Nat.reduceEqDiff, Go.Addr.add, ↓reduceIte] at hx117_6)
             (try simp only [show (1 : Int).toNat = 1 from rfl, Nat.reduceMul, Nat.reduceEqDiff, Go.Addr.add, ↓reduceIte] at hx117_7)
             (try simp only [show (1 : Int).toNat = 1 from rfl, Nat.reduceMul, Nat.reduceEqDiff, Go.Addr.add, ↓reduceIte] at hx117_8)
             (try simp only [show (1 : Int).toNat = 1 from rfl, Nat.reduceMul, Nat.reduceEqDiff, Go.Addr.add, ↓reduceIte] at hx117_9)
             (try simp only [show (1 : Int).toNat = 1 from rfl, Nat.reduceMul, Nat.reduceEqDiff, Go.Addr.add, ↓reduceIte] at hx117_10)
             (try simp only [show (1 : Int).toNat = 1 from rfl, Nat.reduceMul, Nat.reduceEqDiff, Go.Addr.add, ↓reduceIte] at hx117_11)
             (try simp only [show (1 : Int).toNat = 1 from rfl, Nat.reduceMul, Nat.reduceEqDiff, Go.Addr.add, ↓reduceIte] at hx117_12)
             (try simp only [show (1 : Int).toNat = 1 from rfl, Nat.reduceMul, Nat.reduceEqDiff, Go.Addr.add, ↓reduceIte] at hx117_13)
             (try simp only [show (1 : Int).toNat = 1 from rfl, Nat.reduceMul, Nat.reduceEqDiff, Go.Addr.add, ↓reduceIte] at hx117_14)
             (try simp only [show (1 : Int).toNat = 1 from rfl, Nat.reduceMul, Nat.reduceEqDiff, Go.Addr.add, ↓reduceIte] at hx117_15)
             (try simp only [show (1 : Int).toNat = 1 from rfl, Nat.reduceMul, Nat.reduceEqDiff, Go.Addr.add, ↓reduceIte] at hx117_16)
             (try simp only [show (1 : Int).toNat = 1 from rfl, Nat.reduceMul, Nat.reduceEqDiff, Go.Addr.add, ↓reduceIte] at hx117_17)
             (try simp only [show (1 : Int).toNat = 1 from rfl, Nat.reduceMul, Nat.reduceEqDiff, Go.Addr.add, ↓reduceIte] at hx117_18)
             (try simp only [show (1 : Int).toNat = 1 from rfl, Nat.reduceMul, Nat.reduceEqDiff, Go.Addr.add, ↓reduceIte] at hx117_19)
             (try simp only [show (1 : Int).toNat = 1 from rfl, Nat.reduceMul, Nat.reduceEqDiff, Go.Addr.add, ↓reduceIte] at hx117_20)
             (try simp only [show (1 : Int).toNat = 1 from rfl, Nat.reduceMul, Nat.reduceEqDiff, Go.Addr.add, ↓reduceIte] at hx117_21)
             (try simp only [show (1 : Int).toNat = 1 from rfl, Nat.reduceMul, Nat.reduceEqDiff, Go.Addr.add, ↓reduceIte] at hx117_22)
             (try simp only [show (1 : Int).toNat = 1 from rfl, Nat.reduceMul, Nat.reduceEqDiff, Go.Addr.add, ↓reduceIte] at hx117_23)
             (try simp only [show (1 : Int).toNat = 1 from rfl, Nat.reduceMul, Nat.reduceEqDiff, Go.Addr.add, ↓reduceIte] at hx117_24)
             have qi117 : (1 < eU.length) = True := eq_true Z25
             (try rw [show ((1 : Int)).toNat = 1 from rfl] at hx117_0)
             (try rw [show 1 * 25 = 25 from rfl] at hx117_0)
             (try rw [show ((1 : Int)).toNat = 1 from rfl] at hx117_1)
             (try rw [show 1 * 25 = 25 from rfl] at hx117_1)
             (try rw [show ((1 : Int)).toNat = 1 from rfl] at hx117_2)
             (try rw [show 1 * 25 = 25 from rfl] at hx117_2)
             (try rw [show ((1 : Int)).toNat = 1 from rfl] at hx117_3)
             (try rw [show 1 * 25 = 25 from rfl] at hx117_3)
             (try rw [show ((1 : Int)).toNat = 1 from rfl] at hx117_4)
             (try rw [show 1 * 25 = 25 from rfl] at hx117_4)
             (try rw [show ((1 : Int)).toNat = 1 from rfl] at hx117_5)
             (try rw [show 1 * 25 = 25 from rfl] at hx117_5)
             (try rw [show ((1 : Int)).toNat = 1 from rfl] at hx117_6)
             (try rw [show 1 * 25 = 25 from rfl] at hx117_6)
             (try rw [show ((1 : Int)).toNat = 1 from rfl] at hx117_7)
             (try rw [show 1 * 25 = 25 from rfl] at hx117_7)
             (try rw [show ((1 : Int)).toNat = 1 from rfl] at hx117_8)
             (try rw [show 1 * 25 = 25 from rfl] at hx117_8)
             (try rw [show ((1 : Int)).toNat = 1 from rfl] at hx117_9)
             (try rw [show 1 * 25 = 25 from rfl] at hx117_9)
             (try rw [show ((1 : Int)).toNat = 1 from rfl] at hx117_10)
             (try rw [show 1 * 25 = 25 from rfl] at hx117_10)
             (try rw [show ((1 : Int)).toNat = 1 from rfl] at hx117_11)
             (try rw [show 1 * 25 = 25 from rfl] at hx117_11)
             (try rw [show ((1 : Int)).toNat = 1 from rfl] at hx117_12)
             (try rw [show 1 * 25 = 25 from rfl] at hx117_12)
             (try rw [show ((1 : Int)).toNat = 1 from rfl] at hx117_13)
             (try rw [show 1 * 25 = 25 from rfl] at hx117_13)
             (try rw [show ((1 : Int)).toNat = 1 from rfl] at hx117_14)
             (try rw [show 1 * 25 = 25 from rfl] at hx117_14)
             (try rw [show ((1 : Int)).toNat = 1 from rfl] at hx117_15)
             (try rw [show 1 * 25 = 25 from rfl] at hx117_15)
             (try rw [show ((1 : Int)).toNat = 1 from rfl] at hx117_16)
             (try rw [show 1 * 25 = 25 from rfl] at hx117_16)
             (try rw [show ((1 : Int)).toNat = 1 from rfl] at hx117_17)
             (try rw [show 1 * 25 = 25 from rfl] at hx117_17)
             (try rw [show ((1 : Int)).toNat = 1 from rfl] at hx117_18)
             (try rw [show 1 * 25 = 25 from rfl] at hx117_18)
             (try rw [show ((1 : Int)).toNat = 1 from rfl] at hx117_19)
             (try rw [show 1 * 25 = 25 from rfl] at hx117_19)
             (try rw [show ((1 : Int)).toNat = 1 from rfl] at hx117_20)
             (try rw [show 1 * 25 = 25 from rfl] at hx117_20)
             (try rw [show ((1 : Int)).toNat = 1 from rfl] at hx117_21)
             (try rw [show 1 * 25 = 25 from rfl] at hx117_21)
             (try rw [show ((1 : Int)).toNat = 1 from rfl] at hx117_22)
             (try rw [show 1 * 25 = 25 from rfl] at hx117_22)
             (try rw [show ((1 : Int)).toNat = 1 from rfl] at hx117_23)
             (try rw [show 1 * 25 = 25 from rfl] at hx117_23)
             (try rw [show ((1 : Int)).toNat = 1 from rfl] at hx117_24)
             (try rw [show 1 * 25 = 25 from rfl] at hx117_24)
             have HR117_21 := Aside0.mk hi117_21
             have HC117_21 := Aside0.mk hl117_21
             clear hi117_21 hl117_21
             have HR117_24 := Aside0.mk hi117_24
             have HC117_24 := Aside0.mk hl117_24
             clear hi117_24 hl117_24
             replace p117 := eq_true p117
             replace q117 := eq_true q117
             refine start_ (n := 40) (S := fun w' => w'.heap[gb105]? = some (.cells #[.int .i64 2, .int .i64 2, .int .i64 0, .string ⟨#[]⟩, .int .i64 0, .int .i64 0, .string (strOfNums eS), .int .i64 0, .int .i64 0, .string aJ, .int .i64 1, .string ⟨#[]⟩, .int .i64 0, .int .i64 0, .int .i64 0, .int .i64 0, .int .i64 0, .int .i64 0, .int .i64 0, .string ⟨#[]⟩, .string ⟨#[]⟩, .slice none 0 0, .int .i64 0, .string ⟨#[]⟩, .slice none 0 0] 34 (0, 0)) ∧ w'.cell? ⟨gb105, 9, none⟩ = some (.string aJ) ∧ w'.cell? ⟨ad117.block, ad117.off + 25, none⟩ = some (.int .i64 ((rd_T34 eU 1).f0)) ∧ w'.cell? ⟨ad117.block, ad117.off + 25 + 1, none⟩ = some (.int .i64 ((rd_T34 eU 1).f1)) ∧ w'.cell? ⟨ad117.block, ad117.off + 25 + 2, none⟩ = some (.int .i64 ((rd_T34 eU 1).f2)) ∧ w'.cell? ⟨ad117.block, ad117.off + 25 + 3, none⟩ = some (.string ((rd_T34 eU 1).f3)) ∧ w'.cell? ⟨ad117.block, ad117.off + 25 + 4, none⟩ = some (.int .i64 ((rd_T34 eU 1).f4)) ∧ w'.cell? ⟨ad117.block, ad117.off + 25 + 5, none⟩ = some (.int .i64 ((rd_T34 eU 1).f5)) ∧ w'.cell? ⟨ad117.block, ad117.off + 25 + 6, none⟩ = some (.string ((rd_T34 eU 1).f6)) ∧ w'.cell? ⟨ad117.block, ad117.off + 25 + 7, none⟩ = some (.int .i64 ((rd_T34 eU 1).f7)) ∧ w'.cell? ⟨ad117.block, ad117.off + 25 + 8, none⟩ = some (.int .i64 ((rd_T34 eU 1).f8)) ∧ w'.cell? ⟨ad117.block, ad117.off + 25 + 9, none⟩ = some (.string ((rd_T34 eU 1).f9)) ∧ w'.cell? ⟨ad117.block, ad117.off + 25 + 10, none⟩ = some (.int .i64 ((rd_T34 eU 1).f10)) ∧ w'.cell? ⟨ad117.block, ad117.off + 25 + 11, none⟩ = some (.string ((rd_T34 eU 1).f11)) ∧ w'.cell? ⟨ad117.block, ad117.off + 25 + 12, none⟩ = some (.int .i64 ((rd_T34 eU 1).f12)) ∧ w'.cell? ⟨ad117.block, ad117.off + 25 + 13, none⟩ = some (.int .i64 ((rd_T34 eU 1).f13)) ∧ w'.cell? ⟨ad117.block, ad117.off + 25 + 14, none⟩ = some (.int .i64 ((rd_T34 eU 1).f14)) ∧ w'.cell? ⟨ad117.block, ad117.off + 25 + 15, none⟩ = some (.int .i64 ((rd_T34 eU 1).f15)) ∧ w'.cell? ⟨ad117.block, ad117.off + 25 + 16, none⟩ = some (.int .i64 ((rd_T34 eU 1).f16)) ∧ w'.cell? ⟨ad117.block, ad117.off + 25 + 17, none⟩ = some (.int .i64 ((rd_T34 eU 1).f17)) ∧ w'.cell? ⟨ad117.block, ad117.off + 25 + 18, none⟩ = some (.int .i64 ((rd_T34 eU 1).f18)) ∧ w'.cell? ⟨ad117.block, ad117.off + 25 + 19, none⟩ = some (.string ((rd_T34 eU 1).f19)) ∧ w'.cell? ⟨ad117.block, ad117.off + 25 + 20, none⟩ = some (.string ((rd_T34 eU 1).f20)) ∧ w'.cell? ⟨ad117.block, ad117.off + 25 + 21, none⟩ = some (.slice A117_21 ((rd_T34 eU 1).f21).length c117_21) ∧ w'.cell? ⟨ad117.block, ad117.off + 25 + 22, none⟩ = some (.int .i64 ((rd_T34 eU 1).f22)) ∧ w'.cell? ⟨ad117.block, ad117.off + 25 + 23, none⟩ = some (.string ((rd_T34 eU 1).f23)) ∧ w'.cell? ⟨ad117.block, ad117.off + 25 + 24, none⟩ = some (.slice A117_24 ((rd_T34 eU 1).f24).length c117_24)) (ds := []) (Sq.b 40 0) Z16 rfl rfl ⟨BK105.out, Sq.bc BK105 9, hx117_0, hx117_1, hx117_2, hx117_3, hx117_4, hx117_5, hx117_6, hx117_7, hx117_8, hx117_9, hx117_10, hx117_11, hx117_12, hx117_13, hx117_14, hx117_15, hx117_16, hx117_17, hx117_18, hx117_19, hx117_20, hx117_21, hx117_22, hx117_23, hx117_24⟩ (fun hHeld => ?_); refine with_tabW roadbooklaw12_awake.tab4 roadbooklaw12_awake.bits4 (fun HT_ HW_ => ?_)
             generalize w57.drew = w58 at ee HO108 HO116 BK105 HB HL117_21 HL117_24 HR117_21 HR117_24 hx117_0 hx117_1 hx117_10 hx117_11 hx117_12 hx117_13 hx117_14 hx117_15 hx117_16 hx117_17 hx117_18 hx117_19 hx117_2 hx117_20 hx117_21 hx117_22 hx117_23 hx117_24 hx117_3 hx117_4 hx117_5 hx117_6 hx117_7 hx117_8 hx117_9 hHeld ⊢
             refine Sq.pur 0 (some 26) (Sq.b 40 1) HT_.out ?_
             refine Sq.pur 1 (some 27) (Sq.b 40 3) HT_.out ?_
             refine Sq.pur 2 (some 28) (Sq.b 40 7) HT_.out ?_
             refine Sq.pur 3 (some 29) (Sq.b 40 15) HT_.out ?_
             refine Sq.pur 4 (some 30) (Sq.b 40 31) HT_.out ?_
             refine Sq.pur 5 (some 31) (Sq.b 40 63) HT_.out ?_
             refine Sq.pur 6 (some 32) (Sq.b 40 127) HT_.out ?_
             refine Sq.pur 7 (some 33) (Sq.b 40 255) HT_.out ?_
             refine Sq.pur 8 (some 34) (Sq.b 40 511) HT_.out ?_
             refine Sq.pur 9 (some 35) (Sq.b 40 1023) HT_.out ?_
             refine Sq.pur 10 (some 36) (Sq.b 40 2047) HT_.out ?_
             refine Sq.pur 11 (some 37) (Sq.b 40 4095) HT_.out ?_
             refine Sq.pur 12 (some 38) (Sq.b 40 8191) HT_.out ?_
             refine Sq.pur 13 (some 39) (Sq.b 40 16383) HT_.out ?_
             refine Sq.pur 14 (some 40) (Sq.b 40 32767) HT_.out ?_
             refine Sq.pur 15 (some 41) (Sq.b 40 65535) HT_.out ?_
             refine Sq.pur 16 (some 42) (Sq.b 40 131071) HT_.out ?_
             refine Sq.pur 17 (some 43) (Sq.b 40 262143) HT_.out ?_
             refine Sq.pur 18 (some 44) (Sq.b 40 524287) HT_.out ?_
             refine Sq.pur 19 (some 45) (Sq.b 40 1048575) HT_.out ?_
             refine Sq.tak 20 (some 46) (Sq.b 40 2097151) HT_.out HW_.out hHeld (v := ?_) (a' := ?_) ?_ ?_ ?_
             rotate_left
             ·rintro w' ⟨s0, s1, s2, s3, s4, s5, s6, s7, s8, s9, s10, s11, s12, s13, s14, s15, s16, s17, s18, s19, s20, s21, s22, s23, s24, s25, s26⟩
              first | (refine Eq.trans (Pre.load_run (ty := 34) rfl Z27 (by with_reducible assumption) Try.underlying34 rfl Z16) ?_; with_reducible rfl) | (go_simp; with_reducible rfl)
             rotate_left
             ·simp only [Act.put, Sq.s1, Sq.s2, Sq.s3, i64_w, i32_w]
              rfl
             refine one_ (i := 21) (N := some 47) (Sq.b 40 4194303) rfl rfl (one_of HT_.out Z16) Z18 (fun K hK => ?_)
             refine goes_ Try.func16 Z16 rfl #[] Z27 rfl rfl Z4 ?_
             with_reducible refine (roadbooklaw12_hop.calls  t118 _ fz.out).mono ?_
             rintro e w' ⟨rfl, ⟨nd, rfl⟩⟩
             refine ⟨_, rfl, ?_⟩
             refine hK.out _ _ ⟨BK105.out, Sq.bc BK105 9, hHeld.2.2.1, hHeld.2.2.2.1, hHeld.2.2.2.2.1, hHeld.2.2.2.2.2.1, hHeld.2.2.2.2.2.2.1, hHeld.2.2.2.2.2.2.2.1, hHeld.2.2.2.2.2.2.2.2.1, hHeld.2.2.2.2.2.2.2.2.2.1, hHeld.2.2.2.2.2.2.2.2.2.2.1, hHeld.2.2.2.2.2.2.2.2.2.2.2.1, hHeld.2.2.2.2.2.2.2.2.2.2.2.2.1, hHeld.2.2.2.2.2.2.2.2.2.2.2.2.2.1, hHeld.2.2.2.2.2.2.2.2.2.2.2.2.2.2.1, hHeld.2.2.2.2.2.2.2.2.2.2.2.2.2.2.2.1, hHeld.2.2.2.2.2.2.2.2.2.2.2.2.2.2.2.2.1, hHeld.2.2.2.2.2.2.2.2.2.2.2.2.2.2.2.2.2.1, hHeld.2.2.2.2.2.2.2.2.2.2.2.2.2.2.2.2.2.2.1, hHeld.2.2.2.2.2.2.2.2.2.2.2.2.2.2.2.2.2.2.2.1, hHeld.2.2.2.2.2.2.2.2.2.2.2.2.2.2.2.2.2.2.2.2.1, hHeld.2.2.2.2.2.2.2.2.2.2.2.2.2.2.2.2.2.2.2.2.2.1, hHeld.2.2.2.2.2.2.2.2.2.2.2.2.2.2.2.2.2.2.2.2.2.2.1, hHeld.2.2.2.2.2.2.2.2.2.2.2.2.2.2.2.2.2.2.2.2.2.2.2.1, hHeld.2.2.2.2.2.2.2.2.2.2.2.2.2.2.2.2.2.2.2.2.2.2.2.2.1, hHeld.2.2.2.2.2.2.2.2.2.2.2.2.2.2.2.2.2.2.2.2.2.2.2.2.2.1, hHeld.2.2.2.2.2.2.2.2.2.2.2.2.2.2.2.2.2.2.2.2.2.2.2.2.2.2⟩ (fun hHeld => ?_)
             clear hK K
             refine norm_ (a' := ?_) ?_ ?_
             rotate_left
             ·show Act.put _ (some 47) _ = _
              simp only [Act.put, Sq.s1, Sq.s2, Sq.s3, i64_w, i32_w]
              rfl
             refine Sq.pur 22 (some 48) (Sq.b 40 8388607) HT_.out ?_
             refine Sq.pur 23 (some 49) (Sq.b 40 16777215) HT_.out ?_
             refine Sq.pur 24 (some 50) (Sq.b 40 33554431) HT_.out ?_
             refine Sq.tak 25 (some 51) (Sq.b 40 67108863) HT_.out HW_.out hHeld (v := ?_) (a' := ?_) ?_ ?_ ?_
             rotate_left
             ·rintro w' ⟨s0, s1, s2, s3, s4, s5, s6, s7, s8, s9, s10, s11, s12, s13, s14, s15, s16, s17, s18, s19, s20, s21, s22, s23, s24, s25, s26⟩
              first | (refine Eq.trans (Pre.load_run (ty := 34) rfl Z27 (by with_reducible assumption) Try.underlying34 rfl Z16) ?_; with_reducible rfl) | (go_simp; with_reducible rfl)
             rotate_left
             ·simp only [Act.put, Sq.s1, Sq.s2, Sq.s3, i64_w, i32_w]
              rfl
             refine one_ (i := 26) (N := some 52) (Sq.b 40 134217727) rfl rfl (one_of HT_.out Z16) Z18 (fun K hK => ?_)
             refine goes_ Try.func12 Z16 rfl #[.agg #[.int .i64 2, .int .i64 2, .int .i64 0, .string ⟨#[]⟩, .int .i64 0, .int .i64 0, .string (strOfNums eS), .int .i64 0, .int .i64 0, .string aJ, .int .i64 1, .string ⟨#[]⟩, .int .i64 0, .int .i64 0, .int .i64 0, .int .i64 0, .int .i64 0, .int .i64 0, .int .i64 0, .string ⟨#[]⟩, .string ⟨#[]⟩, .slice none 0 0, .int .i64 0, .string ⟨#[]⟩, .slice none 0 0]] Z27 rfl rfl Z4 ?_
             refine (ripng_Right.calls k 2 2 0 (⟨#[]⟩ : ByteArray) 0 0 (strOfNums eS) 0 0 aJ 1 (⟨#[]⟩ : ByteArray) 0 0 0 0 0 0 0 (⟨#[]⟩ : ByteArray) (⟨#[]⟩ : ByteArray) _ _ ([] : List (S66)) 0 (⟨#[]⟩ : ByteArray) _ _ ([] : List (S68)) true _ ?side1 ?side2 ?side3 ?side4 A12.out).mono ?_
             (case side1 => exact Kd.C_nil _ _)
             (case side2 => exact Nat.le_refl _)
             (case side3 => exact Kd.C_nil _ _)
             (case side4 => exact Nat.le_refl _)
             rintro e w60 ⟨rfl, hb⟩
             have HS2_ := (hb.cell (World.block_lt_of_cell? _ _ (hHeld.2.2.1))).trans (hHeld.2.2.1)
             have HS3_ := (hb.cell (World.block_lt_of_cell? _ _ (hHeld.2.2.2.1))).trans (hHeld.2.2.2.1)
             have HS4_ := (hb.cell (World.block_lt_of_cell? _ _ (hHeld.2.2.2.2.1))).trans (hHeld.2.2.2.2.1)
             have HS5_ := (hb.cell (World.block_lt_of_cell? _ _ (hHeld.2.2.2.2.2.1))).trans (hHeld.2.2.2.2.2.1)
             have HS6_ := (hb.cell (World.block_lt_of_cell? _ _ (hHeld.2.2.2.2.2.2.1))).trans (hHeld.2.2.2.2.2.2.1)
             have HS7_ := (hb.cell (World.block_lt_of_cell? _ _ (hHeld.2.2.2.2.2.2.2.1))).trans (hHeld.2.2.2.2.2.2.2.1)
             have HS8_ := (hb.cell (World.block_lt_of_cell? _ _ (hHeld.2.2.2.2.2.2.2.2.1))).trans (hHeld.2.2.2.2.2.2.2.2.1)
             have HS9_ := (hb.cell (World.block_lt_of_cell? _ _ (hHeld.2.2.2.2.2.2.2.2.2.1))).trans (hHeld.2.2.2.2.2.2.2.2.2.1)
             have HS10_ := (hb.cell (World.block_lt_of_cell? _ _ (hHeld.2.2.2.2.2.2.2.2.2.2.1))).trans (hHeld.2.2.2.2.2.2.2.2.2.2.1)
             have HS11_ := (hb.cell (World.block_lt_of_cell? _ _ (hHeld.2.2.2.2.2.2.2.2.2.2.2.1))).trans (hHeld.2.2.2.2.2.2.2.2.2.2.2.1)
             have HS12_ := (hb.cell (World.block_lt_of_cell? _ _ (hHeld.2.2.2.2.2.2.2.2.2.2.2.2.1))).trans (hHeld.2.2.2.2.2.2.2.2.2.2.2.2.1)
             have HS13_ := (hb.cell (World.block_lt_of_cell? _ _ (hHeld.2.2.2.2.2.2.2.2.2.2.2.2.2.1))).trans (hHeld.2.2.2.2.2.2.2.2.2.2.2.2.2.1)
             have HS14_ := (hb.cell (World.block_lt_of_cell? _ _ (hHeld.2.2.2.2.2.2.2.2.2.2.2.2.2.2.1))).trans (hHeld.2.2.2.2.2.2.2.2.2.2.2.2.2.2.1)
             have HS15_ := (hb.cell (World.block_lt_of_cell? _ _ (hHeld.2.2.2.2.2.2.2.2.2.2.2.2.2.2.2.1))).trans (hHeld.2.2.2.2.2.2.2.2.2.2.2.2.2.2.2.1)
             have HS16_ := (hb.cell (World.block_lt_of_cell? _ _ (hHeld.2.2.2.2.2.2.2.2.2.2.2.2.2.2.2.2.1))).trans (hHeld.2.2.2.2.2.2.2.2.2.2.2.2.2.2.2.2.1)
             have HS17_ := (hb.cell (World.block_lt_of_cell? _ _ (hHeld.2.2.2.2.2.2.2.2.2.2.2.2.2.2.2.2.2.1))).trans (hHeld.2.2.2.2.2.2.2.2.2.2.2.2.2.2.2.2.2.1)
             have HS18_ := (hb.cell (World.block_lt_of_cell? _ _ (hHeld.2.2.2.2.2.2.2.2.2.2.2.2.2.2.2.2.2.2.1))).trans (hHeld.2.2.2.2.2.2.2.2.2.2.2.2.2.2.2.2.2.2.1)
             have HS19_ := (hb.cell (World.block_lt_of_cell? _ _ (hHeld.2.2.2.2.2.2.2.2.2.2.2.2.2.2.2.2.2.2.2.1))).trans (hHeld.2.2.2.2.2.2.2.2.2.2.2.2.2.2.2.2.2.2.2.1)
             have HS20_ := (hb.cell (World.block_lt_of_cell? _ _ (hHeld.2.2.2.2.2.2.2.2.2.2.2.2.2.2.2.2.2.2.2.2.1))).trans (hHeld.2.2.2.2.2.2.2.2.2.2.2.2.2.2.2.2.2.2.2.2.1)
             have HS21_ := (hb.cell (World.block_lt_of_cell? _ _ (hHeld.2.2.2.2.2.2.2.2.2.2.2.2.2.2.2.2.2.2.2.2.2.1))).trans (hHeld.2.2.2.2.2.2.2.2.2.2.2.2.2.2.2.2.2.2.2.2.2.1)
             have HS22_ := (hb.cell (World.block_lt_of_cell? _ _ (hHeld.2.2.2.2.2.2.2.2.2.2.2.2.2.2.2.2.2.2.2.2.2.2.1))).trans (hHeld.2.2.2.2.2.2.2.2.2.2.2.2.2.2.2.2.2.2.2.2.2.2.1)
             have HS23_ := (hb.cell (World.block_lt_of_cell? _ _ (hHeld.2.2.2.2.2.2.2.2.2.2.2.2.2.2.2.2.2.2.2.2.2.2.2.1))).trans (hHeld.2.2.2.2.2.2.2.2.2.2.2.2.2.2.2.2.2.2.2.2.2.2.2.1)
             have HS24_ := (hb.cell (World.block_lt_of_cell? _ _ (hHeld.2.2.2.2.2.2.2.2.2.2.2.2.2.2.2.2.2.2.2.2.2.2.2.2.1))).trans (hHeld.2.2.2.2.2.2.2.2.2.2.2.2.2.2.2.2.2.2.2.2.2.2.2.2.1)
             have HS25_ := (hb.cell (World.block_lt_of_cell? _ _ (hHeld.2.2.2.2.2.2.2.2.2.2.2.2.2.2.2.2.2.2.2.2.2.2.2.2.2.1))).trans (hHeld.2.2.2.2.2.2.2.2.2.2.2.2.2.2.2.2.2.2.2.2.2.2.2.2.2.1)
             have HS26_ := (hb.cell (World.block_lt_of_cell? _ _ (hHeld.2.2.2.2.2.2.2.2.2.2.2.2.2.2.2.2.2.2.2.2.2.2.2.2.2.2))).trans (hHeld.2.2.2.2.2.2.2.2.2.2.2.2.2.2.2.2.2.2.2.2.2.2.2.2.2.2)
             refine ⟨_, rfl, ?_⟩
             have cQ := Aside0.mk (Kd.R_below (by (with_reducible repeat (first | apply Kd.R_alloc | apply Kd.R_drewN | apply Kd.R_drew)); exact ee.out) hb)
             have de := Aside0.mk (Kd.S_below (by (with_reducible repeat (first | apply Kd.S_alloc | apply Kd.S_drewN | apply Kd.S_drew)); exact HO108.out) hb)
             have eH := Aside0.mk (Kd.S_below (by (with_reducible repeat (first | apply Kd.S_alloc | apply Kd.S_drewN | apply Kd.S_drew)); exact HO116.out) hb)
             have n3_ := Aside0.mk (Kd.R_below (by (with_reducible repeat (first | apply Kd.R_alloc | apply Kd.R_drewN | apply Kd.R_drew)); exact HL117_21.out) hb)
             have n4_ := Aside0.mk (Kd.R_below (by (with_reducible repeat (first | apply Kd.R_alloc | apply Kd.R_drewN | apply Kd.R_drew)); exact HL117_24.out) hb)
             have n5_ := Aside0.mk (blk_below (g := gb105) (by (with_reducible repeat (first | refine blk_drewN ?_ _ | refine blk_drew ?_ | refine blk_alloc ?_ _)); exact BK105.out) hb)
             have n6_ := Aside0.mk (Kd.C_below (by repeat (first | (with_reducible exact HR117_21.out) | (with_reducible refine Kd.C_alloc ?_ _) | (with_reducible refine Kd.C_drewN ?_ _) | (with_reducible refine Kd.C_drew ?_) | exact HR117_21.out)) hb)
             have n7_ := Aside0.mk (Kd.C_below (by repeat (first | (with_reducible exact HR117_24.out) | (with_reducible refine Kd.C_alloc ?_ _) | (with_reducible refine Kd.C_drewN ?_ _) | (with_reducible refine Kd.C_drew ?_) | exact HR117_24.out)) hb)
             have n8_ := Aside0.mk (below_step (by repeat (first | (with_reducible first | exact HB.out | apply below_alloc | apply pw_below_drewN | apply below_drew1 | refine below_set ?_ GE105.out) | exact HB.out)) hb)
             clear ee
             clear HO108
             clear HO116
             clear HL117_21
             clear HL117_24
             clear BK105
             clear HR117_21
             clear HR117_24
             clear HB
             have ee := cQ
             have HO108 := de
             have HO116 := eH
             have HL117_21 := n3_
             have HL117_24 := n4_
             have BK105 := n5_
             have HR117_21 := n6_
             have HR117_24 := n7_
             have HB := n8_
             clear cQ de eH n3_ n4_ n5_ n6_ n7_ n8_
             (try clear hb)
             (try clear hb2)
             (try clear hk)
             (try clear hi)
             refine hK.out _ _ ⟨BK105.out, Sq.bc BK105 9, HS2_, HS3_, HS4_, HS5_, HS6_, HS7_, HS8_, HS9_, HS10_, HS11_, HS12_, HS13_, HS14_, HS15_, HS16_, HS17_, HS18_, HS19_, HS20_, HS21_, HS22_, HS23_, HS24_, HS25_, HS26_⟩ (fun hHeld => ?_)
             clear hK K
             refine norm_ (a' := ?_) ?_ ?_
             rotate_left
             ·show Act.put _ (some 52) _ = _
              simp only [Act.put, Sq.s1, Sq.s2, Sq.s3, i64_w, i32_w]
              rfl
             refine Sq.pur 27 (some 53) (Sq.b 40 268435455) HT_.out ?_
             refine Sq.pur 28 (some 54) (Sq.b 40 536870911) HT_.out ?_
             refine Sq.pur 29 (some 55) (Sq.b 40 1073741823) HT_.out ?_
             refine Sq.pur 30 (some 56) (Sq.b 40 2147483647) HT_.out ?_
             refine one_ (i := 31) (N := some 57) (Sq.b 40 4294967295) rfl rfl (one_of HT_.out Z16) Z18 (fun K hK => ?_)
             refine goes_ Try.func16 Z16 rfl #[] Z27 rfl rfl Z4 ?_
             with_reducible refine (roadbooklaw12_hop.calls  t120 _ A16.out).mono ?_
             rintro e w' ⟨rfl, ⟨nd, rfl⟩⟩
             refine ⟨_, rfl, ?_⟩
             have p19 : 0 ≤ (23 : Int) := Z25
             have q19 : 23 < t109.size := (by have : (23 : Int) < (t109.size : Int) := of_decide_eq_true Z5; omega)
             have hx19 : ∀ h : 23 < t109.size, ((t109[23]'h).toNat : Int) = bt t109 23 := bt_at t109 23
             clear p19
             have qi19 : (23 < (t109.size : Int)) = True := eq_true (of_decide_eq_true Z5)
             replace q19 := eq_true q19
             refine hK.out _ _ ⟨BK105.out, Sq.bc BK105 9, hHeld.2.2.1, hHeld.2.2.2.1, hHeld.2.2.2.2.1, hHeld.2.2.2.2.2.1, hHeld.2.2.2.2.2.2.1, hHeld.2.2.2.2.2.2.2.1, hHeld.2.2.2.2.2.2.2.2.1, hHeld.2.2.2.2.2.2.2.2.2.1, hHeld.2.2.2.2.2.2.2.2.2.2.1, hHeld.2.2.2.2.2.2.2.2.2.2.2.1, hHeld.2.2.2.2.2.2.2.2.2.2.2.2.1, hHeld.2.2.2.2.2.2.2.2.2.2.2.2.2.1, hHeld.2.2.2.2.2.2.2.2.2.2.2.2.2.2.1, hHeld.2.2.2.2.2.2.2.2.2.2.2.2.2.2.2.1, hHeld.2.2.2.2.2.2.2.2.2.2.2.2.2.2.2.2.1, hHeld.2.2.2.2.2.2.2.2.2.2.2.2.2.2.2.2.2.1, hHeld.2.2.2.2.2.2.2.2.2.2.2.2.2.2.2.2.2.2.1, hHeld.2.2.2.2.2.2.2.2.2.2.2.2.2.2.2.2.2.2.2.1, hHeld.2.2.2.2.2.2.2.2.2.2.2.2.2.2.2.2.2.2.2.2.1, hHeld.2.2.2.2.2.2.2.2.2.2.2.2.2.2.2.2.2.2.2.2.2.1, hHeld.2.2.2.2.2.2.2.2.2.2.2.2.2.2.2.2.2.2.2.2.2.2.1, hHeld.2.2.2.2.2.2.2.2.2.2.2.2.2.2.2.2.2.2.2.2.2.2.2.1, hHeld.2.2.2.2.2.2.2.2.2.2.2.2.2.2.2.2.2.2.2.2.2.2.2.2.1, hHeld.2.2.2.2.2.2.2.2.2.2.2.2.2.2.2.2.2.2.2.2.2.2.2.2.2.1, hHeld.2.2.2.2.2.2.2.2.2.2.2.2.2.2.2.2.2.2.2.2.2.2.2.2.2.2⟩ (fun hHeld => ?_)
             clear hK K
             refine norm_ (a' := ?_) ?_ ?_
             rotate_left
             ·show Act.put _ (some 57) _ = _
              simp only [Act.put, Sq.s1, Sq.s2, Sq.s3, i64_w, i32_w]
              rfl
             refine Sq.pur 32 (some 58) (Sq.b 40 8589934591) HT_.out ?_
             refine Sq.pur 33 (some 59) (Sq.b 40 17179869183) HT_.out ?_
             refine Sq.pur 34 (some 60) (Sq.b 40 34359738367) HT_.out ?_
             refine Sq.pur 35 (some 61) (Sq.b 40 68719476735) HT_.out ?_
             refine Sq.tak 36 (some 62) (Sq.b 40 137438953471) HT_.out HW_.out hHeld (v := ?_) (a' := ?_) ?_ ?_ ?_
             rotate_left
             ·rintro w' ⟨s0, s1, s2, s3, s4, s5, s6, s7, s8, s9, s10, s11, s12, s13, s14, s15, s16, s17, s18, s19, s20, s21, s22, s23, s24, s25, s26⟩
              first | (refine Eq.trans (Pre.load_run (ty := 34) rfl Z27 (by with_reducible assumption) Try.underlying34 rfl Z16) ?_; with_reducible rfl) | (go_simp; with_reducible rfl)
             rotate_left
             ·simp only [Act.put, Sq.s1, Sq.s2, Sq.s3, i64_w, i32_w]
              rfl
             refine Sq.pur 37 (some 63) (Sq.b 40 274877906943) HT_.out ?_
             refine Sq.pur 38 (some 64) (Sq.b 40 549755813887) HT_.out ?_
             refine Sq.pur 39 (some 0) (Sq.b 40 1099511627775) HT_.out ?_
             refine done_ (done_of HT_.out Z16) ?_
             try go_wp2_with (first | ((with_reducible refine gate_dst (N := 11) rfl ?_); refine Pre.build_event 11 34 [(0, Go.Operand.const (Go.Value.int Go.IntKind.i64 2)), (1, Go.Operand.const (Go.Value.int Go.IntKind.i64 2)), (6, Go.Operand.tmp 9), (9, Go.Operand.tmp 10), (10, Go.Operand.const (Go.Value.int Go.IntKind.i64 1))] rfl rfl rfl (roadbooklaw12_awake.bd11 _ _ _ _ _) ?_) | ((with_reducible refine Pre.gate_store 34 rfl ?_); refine Pre.store_event rfl rfl rfl Z27 Z27 (by first | ((with_reducible repeat (first | refine blk_drewN ?_ _ | refine blk_drew ?_ | refine blk_alloc ?_ _)); (with_reducible first | exact BK105.out)) | (apply Pre.heap_norm; ((with_reducible repeat (first | refine blk_drewN ?_ _ | refine blk_drew ?_ | refine blk_alloc ?_ _ | apply Pre.blk_set_)); (with_reducible first | exact BK105.out)); (first | (simp only [Sq.s1, Sq.s2, Sq.s3]; done) | (simp only [Sq.s1, Sq.s2, Sq.s3]; rfl) | rfl))) Z16 Z27 Z27 ?_; simp only [World.setCells, Nat.zero_add, Nat.reduceAdd]) | ((with_reducible refine Pre.gate_load 34 rfl ?_); (try (refine gate_guard Z27 ?_; dsimp only)); refine Pre.load_event rfl rfl rfl Z27 (by first | ((with_reducible repeat (first | refine blk_drewN ?_ _ | refine blk_drew ?_ | refine blk_alloc ?_ _)); (with_reducible first | exact BK105.out)) | (apply Pre.heap_norm; ((with_reducible repeat (first | refine blk_drewN ?_ _ | refine blk_drew ?_ | refine blk_alloc ?_ _ | apply Pre.blk_set_)); (with_reducible first | exact BK105.out)); (first | (simp only [Sq.s1, Sq.s2, Sq.s3]; done) | (simp only [Sq.s1, Sq.s2, Sq.s3]; rfl) | rfl))) Try.underlying34 rfl Z16 ?_) | ((with_reducible refine Pre.gate_load 34 rfl ?_); (try (refine gate_guard Z27 ?_; dsimp only)); refine Pre.load_event_a rfl rfl rfl Z27 Pre.range25 Try.underlying34 rfl Z16 ?_))
             go_ret
             exact ⟨Z2, by repeat (first | (with_reducible first | exact HB.out | apply below_alloc | apply pw_below_drewN | apply below_drew1 | refine below_set ?_ GE105.out) | exact HB.out)⟩
            ·rw [if_neg c18] at H
             exact absurd H Z36
           ·rw [if_neg eE] at H
            have eF : ((t109.extract 4 20).toList == t120.toList) = false := beq_eq_false_iff_ne.mpr eE
            have eG : ((t109.extract 4 20).toList != t120.toList) = true := bne_iff_ne.mpr eE
            exact absurd (Option.some.inj H) (by rw [hr_.out]; exact Bool.false_ne_true)
          ·rw [if_neg c15] at H
           exact absurd H Z36
         ·rw [if_neg dR] at H
          exact absurd H Z36
        ·replace eD := Bool.eq_false_iff.mpr eD
         subst eD
         replace H := Sq.itF H
         exact absurd (Option.some.inj H) (by rw [hr_.out]; exact Bool.false_ne_true)
       ·rw [if_neg eI] at H
        have c11b0 : (((rd_T34 eU 1).f9).toList == t118.toList) = false := beq_eq_false_iff_ne.mpr eI
        have c11b1 : (((rd_T34 eU 1).f9).toList != t118.toList) = true := bne_iff_ne.mpr eI
        exact absurd (Option.some.inj H) (by rw [hr_.out]; exact Bool.false_ne_true)
      ·rw [if_neg c9] at H
       exact absurd H Z36
     ·rw [if_neg c8] at H
      have dS : ((eU.length : Int) == 2) = false := beq_eq_false_iff_ne.mpr c8
      have ft : ((eU.length : Int) != 2) = true := bne_iff_ne.mpr c8
      exact absurd (Option.some.inj H) (by rw [hr_.out]; exact Bool.false_ne_true)
    ·rw [if_neg c7] at H
     have dn : ((t109.size : Int) == 64) = false := beq_eq_false_iff_ne.mpr c7
     have eY : ((t109.size : Int) != 64) = true := bne_iff_ne.mpr c7
     exact absurd (Option.some.inj H) (by rw [hr_.out]; exact Bool.false_ne_true)
   ·rw [if_neg c6] at H
    have fc : (t114 == 0) = false := beq_eq_false_iff_ne.mpr c6
    have iO : (t114 != 0) = true := bne_iff_ne.mpr c6
    exact absurd (Option.some.inj H) (by rw [hr_.out]; exact Bool.false_ne_true)
  ·rw [if_neg c5] at H
   have cY : (ef == 0) = false := beq_eq_false_iff_ne.mpr c5
   have eR : (ef != 0) = true := bne_iff_ne.mpr c5
   exact absurd (Option.some.inj H) (by rw [hr_.out]; exact Bool.false_ne_true)
 ·rw [if_neg c1] at H
  exact absurd H Z36

end Go.Proofs.Ytnifhgackjkkbaa.PN
