-- Written by mp.py, a program of this work (wip/tools), out of the translation; Lean checks it.
import Derived.Test.YtnifhgackjkkbaaPNxZ
import Derived.Test.YtnifhgackjkkbaaPNxripng
import Derived.Test.YtnifhgackjkkbaaPNxripngEncode
import Derived.Test.YtnifhgackjkkbaaPNxroadbooklaw12awake
import Derived.Test.YtnifhgackjkkbaaPNxroadbookref07
import Derived.Test.YtnifhgackjkkbaaPNxroadbookref07SameAll
namespace Go.Proofs.Ytnifhgackjkkbaa.PN
open Go.RowKit Go.Proofs.YtnifhgackjkkbaaW.PrintWords Go.Proofs.YtnifhgackjkkbaaW.PrintLast Go.Proofs.YtnifhgackjkkbaaW.PrintMore
attribute [local go_sem] max2_int min2_int max_two min_two max_three min_three max_four min_four   -- for this text's walks alone
set_option linter.unusedVariables false
set_option linter.unusedSimpArgs false

/-! ### roadbooklaw12_RipngBack: function 6 -/
def roadbooklaw12_RipngBack.l0 : Nat → List (S34) → ByteArray → Int → ByteArray → Int → Option (Bool)
 | 0, _, _, _, _, _ => none
 | k + 1, x0, x3, x6, x7, x8 => if x8 < (x0.length : Int) then (if 0 ≤ x8 then (if ((rd_T34 x0 x8).f9).toList = x7.toList then (roadbooklaw12_RipngBack.l0 k x0 x3 (wrap64 (x6 + 20)) ((rd_T34 x0 x8).f9) (wrap64 (x8 + 1))) else (roadbooklaw12_RipngBack.l0 k x0 x3 (wrap64 ((wrap64 (x6 + 20)) + 20)) ((rd_T34 x0 x8).f9) (wrap64 (x8 + 1)))) else (none)) else ((ripng_Parse.f k x3).bind fun bt113 => ((roadbooklaw12_awake.f k).bind fun t118 => (if t118 = true then (if bt113.2.2 = 0 then ((roadbookref07_SameAll.f k x0 bt113.1).bind fun t119 => (if t119 = true then (some ((x3.size : Int) == x6)) else (some false))) else (some false)) else (some false))))
def roadbooklaw12_RipngBack.f (k : Nat) (l0 : List (S34)) : Option (Bool) := (roadbookref07_FewAll.f k l0 40).bind fun aM => (if aM = true then ((ripng_Encode.f k l0).bind fun bt103 => (if bt103.2.2 = 0 then (if 16 ≤ 281474976710656 then (roadbooklaw12_RipngBack.l0 k l0 bt103.1 4 (strOfNums (List.replicate 16 0)) 0) else (none)) else ((roadbooklaw12_awake.f k).bind fun cI => (if cI = true then (if bt103.1.toList = ([] : List UInt8) then (if bt103.2.1 ≥ 0 then (some (decide (bt103.2.1 ≤ (l0.length : Int)))) else (some false)) else (some false)) else (some false))))) else ((roadbooklaw12_awake.f k).bind fun aI => (some aI)))
theorem roadbooklaw12_RipngBack.mono_l : ∀ k, (∀ y0 y1 y2 y3 y4, LeO (roadbooklaw12_RipngBack.l0 k y0 y1 y2 y3 y4) (roadbooklaw12_RipngBack.l0 (k + 1) y0 y1 y2 y3 y4))
 | 0 => Sq.mz
 | k + 1 => by
  have ih0 := roadbooklaw12_RipngBack.mono_l k
  ·intros
   unfold roadbooklaw12_RipngBack.l0
   have m0 := ripng_Encode.mono
   have m1 := ripng_Parse.mono
   have m2 := roadbooklaw12_awake.mono
   have m3 := roadbookref07_FewAll.mono
   have m4 := roadbookref07_SameAll.mono
   exact Sq.mo
theorem roadbooklaw12_RipngBack.mono : ∀ a0 k, LeO (roadbooklaw12_RipngBack.f k a0) (roadbooklaw12_RipngBack.f (k + 1) a0) := by
 intro a0 k
 have ih0 := roadbooklaw12_RipngBack.mono_l k
 unfold roadbooklaw12_RipngBack.f
 have m0 := ripng_Encode.mono
 have m1 := ripng_Parse.mono
 have m2 := roadbooklaw12_awake.mono
 have m3 := roadbookref07_FewAll.mono
 have m4 := roadbookref07_SameAll.mono
 exact Sq.mo
set_option maxHeartbeats 8000000 in
set_option maxRecDepth 100000 in
theorem roadbooklaw12_RipngBack.calls (k : Nat) (A0 : Option Addr) (c0 : Nat) (l0 : List (S34)) (r : Bool) (w : World) (fO : Kd.C k34 w A0 l0.length l0) (dY : l0.length ≤ c0) (hr_ : Aside0 (r = true)) (h : roadbooklaw12_RipngBack.f k l0 = some r) :
  Calls Try.prog 6 #[.slice A0 l0.length c0] w fun e w' => e = .returned (.bool r) ∧ Below w.heap.size w w' := by
 have fR := Aside0.mk fO
 have jD := Aside0.mk dY
 clear fO dY
 have HB := Aside0.mk (Below.refl w.heap.size w)
 have H : ((roadbookref07_FewAll.f k l0 40).bind fun aM => (if aM = true then ((ripng_Encode.f k l0).bind fun bt103 => (if bt103.2.2 = 0 then (if 16 ≤ 281474976710656 then (roadbooklaw12_RipngBack.l0 k l0 bt103.1 4 (strOfNums (List.replicate 16 0)) 0) else (none)) else ((roadbooklaw12_awake.f k).bind fun cI => (if cI = true then (if bt103.1.toList = ([] : List UInt8) then (if bt103.2.1 ≥ 0 then (some (decide (bt103.2.1 ≤ (l0.length : Int)))) else (some false)) else (some false)) else (some false))))) else ((roadbooklaw12_awake.f k).bind fun aI => (some aI)))) = some r := h
 clear h
 replace H := Option.bind_eq_some_iff.mp H
 obtain ⟨aM, A20, H⟩ := H
 replace H : (if aM = true then ((ripng_Encode.f k l0).bind fun bt103 => (if bt103.2.2 = 0 then (if 16 ≤ 281474976710656 then (roadbooklaw12_RipngBack.l0 k l0 bt103.1 4 (strOfNums (List.replicate 16 0)) 0) else (none)) else ((roadbooklaw12_awake.f k).bind fun cI => (if cI = true then (if bt103.1.toList = ([] : List UInt8) then (if bt103.2.1 ≥ 0 then (some (decide (bt103.2.1 ≤ (l0.length : Int)))) else (some false)) else (some false)) else (some false))))) else ((roadbooklaw12_awake.f k).bind fun aI => (some aI))) = some r := H
 have A2 := Aside0.mk A20
 clear A20
 by_cases c3 : aM = true
 ·subst c3
  replace H := Sq.itT H
  replace H := Option.bind_eq_some_iff.mp H
  obtain ⟨⟨aN, aJ, cK⟩, jG, H⟩ := H
  replace H : (if cK = 0 then (if 16 ≤ 281474976710656 then (roadbooklaw12_RipngBack.l0 k l0 aN 4 (strOfNums (List.replicate 16 0)) 0) else (none)) else ((roadbooklaw12_awake.f k).bind fun cI => (if cI = true then (if aN.toList = ([] : List UInt8) then (if aJ ≥ 0 then (some (decide (aJ ≤ (l0.length : Int)))) else (some false)) else (some false)) else (some false)))) = some r := H
  have A4 := Aside0.mk jG
  clear jG
  by_cases c5 : cK = 0
  ·rw [if_pos c5] at H
   have cY : (cK == 0) = true := beq_iff_eq.mpr c5
   have eR : (cK != 0) = false := bne_eq_false_iff_eq.mpr c5
   clear c5
   by_cases c6 : 16 ≤ 281474976710656
   ·rw [if_pos c6] at H
    have fc := eq_true c6
    have iO : decide (16 ≤ 281474976710656) = true := decide_eq_true c6
    clear c6
    obtain ⟨y107, hy107⟩ : ∃ y_ : List Int, y_ = (List.replicate 16 0) := ⟨_, rfl⟩
    replace H : (roadbooklaw12_RipngBack.l0 k l0 aN 4 (strOfNums y107) 0) = some r := by first | (rw [hy107]; with_reducible exact H) | (have H2_ := (Option.bind_some _ _).symm.trans H; rw [hy107]; with_reducible exact H2_) | (have H2_ := (Option.bind_some _ _).symm.trans H; with_reducible exact H2_) | with_reducible exact H | (rw [hy107]; exact H) | exact H
    have Ny107 := Aside0.mk hy107
    clear hy107
    have H' := Aside0.mk H
    clear H
    go_enter Try.func6, Try.ntmps6
    go_wp2_with (first | ((with_reducible refine gate_callee (f := 11) rfl ?_); refine goesL_ (some 13) rfl rfl Try.func11 Z16 rfl #[.slice A0 l0.length c0, .int .i64 40] rfl Z4 ?_; (with_reducible refine (roadbookref07_FewAll.calls k _ _ l0 40 true _ ?side1 ?side2 A2.out).mono ?_); (case side1 => exact (by repeat (first | exact fR.out | (with_reducible refine Kd.C_alloc ?_ _) | (with_reducible refine Kd.C_drewN ?_ _) | (with_reducible refine Kd.C_drew ?_)))); (case side2 => exact jD.out); rintro e w7 ⟨rfl, hb⟩; refine ⟨_, rfl, ?_⟩; replace HB := Aside0.mk (below_step Z0 hb); clear hb) | ((with_reducible refine gate_callee (f := 14) rfl ?_); refine goesL_ (some 18) rfl rfl Try.func14 Z16 rfl #[.slice A0 l0.length c0] rfl Z4 ?_; (with_reducible refine (ripng_Encode.calls k _ _ l0 aN aJ cK _ ?side1 ?side2 A4.out).mono ?_); (case side1 => exact (by repeat (first | exact (Kd.C_below fR.out HB.out) | (with_reducible refine Kd.C_alloc ?_ _) | (with_reducible refine Kd.C_drewN ?_ _) | (with_reducible refine Kd.C_drew ?_)))); (case side2 => exact jD.out); rintro e w8 ⟨rfl, hb⟩; refine ⟨_, rfl, ?_⟩; replace HB := Aside0.mk (below_step Z0 hb); clear hb) | ((with_reducible refine gate_dst (N := 39) rfl ?_); (try (refine gate_guard Z27 ?_; dsimp only)); refine Kd.R_make (Kd.int .u8) _ 5 rfl (N := 39) rfl 38 _ _ rfl 16 rfl rfl Try.underlying38 (.int .u8 0) 1 info5 rfl Z18 Z25 0 (ok := fun _ => True) (okp := fun _ => True) rfl (fun _ hk => hk) trivial Z25 Z25 (Below.refl _ _) (Nat.le_refl _) ?_; intro v108 w9 ho10 hb hg_ hnew_; clear hg_ hnew_; (first | rw [← Ny107.out] at ho10 | (simp only [Int.reduceToNat] at ho10; rw [← Ny107.out] at ho10)); have HO109 := Aside0.mk (Kd.R_lower ho10 (below_size Z0)); replace HB := Aside0.mk (below_step Z0 hb); clear hb ho10; have hcv11 := own_string (P := Try.prog) Try.underlying38 Try.underlying5 Try.underlying9 (Kd.own_of_R HO109.out)))
    go_loopg [6, 7, 8] k (fun kq v6 v7 v8 w' => ∃ (cH : Int) (x7_1 : ByteArray) (x8_1 : Int), v6 = .int .i64 cH ∧ v7 = .string x7_1 ∧ v8 = .int .i64 x8_1 ∧ Aside0 (roadbooklaw12_RipngBack.l0 kq l0 aN cH x7_1 x8_1 = some r) ∧ Aside0 (kq ≤ k) ∧ Aside0 (Below w.heap.size w w'))
    case atStart => exact ⟨(4), (strOfNums y107), (0), Z7, Z7, Z7, H', ⟨Nat.le_refl _⟩, ⟨Z0⟩⟩
    case round =>
     clear H'
     try clear c1
     try clear hcv1
     try clear p2
     try clear c3
     try clear c5
     try clear cY
     try clear eR
     try clear c6
     try clear fc
     try clear iO
     try clear eI
     try clear hcv11
     obtain ⟨cH, x7_1, x8_1, rfl, rfl, rfl, HA, HK1, HB⟩ := hrel
     cases gk with
     | zero => exact absurd HA.out (by simp [roadbooklaw12_RipngBack.l0])
     | succ k1 =>
      have H := HA.out
      clear HA
      simp only [roadbooklaw12_RipngBack.l0] at H
      by_cases dm : x8_1 < (l0.length : Int)
      ·rw [if_pos dm] at H
       have dE : decide (x8_1 < (l0.length : Int)) = true := decide_eq_true dm
       clear dm
       by_cases eD : 0 ≤ x8_1
       ·rw [if_pos eD] at H
        have hu : decide (0 ≤ x8_1) = true := decide_eq_true eD
        clear eD
        by_cases dR : ((rd_T34 l0 x8_1).f9).toList = x7_1.toList
        ·rw [if_pos dR] at H
         have dW : (((rd_T34 l0 x8_1).f9).toList == x7_1.toList) = true := beq_iff_eq.mpr dR
         have fa : (((rd_T34 l0 x8_1).f9).toList != x7_1.toList) = false := bne_eq_false_iff_eq.mpr dR
         clear dR
         have H' := Aside0.mk H
         clear H
         have p110 : 0 ≤ (x8_1 : Int) := of_decide_eq_true Z5
         have q110 : x8_1 < (l0.length : Int) := of_decide_eq_true Z5
         obtain ⟨ad110, A110_21, c110_21, A110_24, c110_24, e110, hx110_0, hx110_1, hx110_2, hx110_3, hx110_4, hx110_5, hx110_6, hx110_7, hx110_8, hx110_9, hx110_10, hx110_11, hx110_12, hx110_13, hx110_14, hx110_15, hx110_16, hx110_17, hx110_18, hx110_19, hx110_20, hx110_21, hx110_22, hx110_23, hx110_24, hl110_21, hi110_21, hl110_24, hi110_24⟩ := at_T34 fR.out x8_1 p110 q110
         cases e110
         replace hx110_0 := Sq.up HB.out hx110_0
         replace hx110_1 := Sq.up HB.out hx110_1
         replace hx110_2 := Sq.up HB.out hx110_2
         replace hx110_3 := Sq.up HB.out hx110_3
         replace hx110_4 := Sq.up HB.out hx110_4
         replace hx110_5 := Sq.up HB.out hx110_5
         replace hx110_6 := Sq.up HB.out hx110_6
         replace hx110_7 := Sq.up HB.out hx110_7
         replace hx110_8 := Sq.up HB.out hx110_8
         replace hx110_9 := Sq.up HB.out hx110_9
         replace hx110_10 := Sq.up HB.out hx110_10
         replace hx110_11 := Sq.up HB.out hx110_11
         replace hx110_12 := Sq.up HB.out hx110_12
         replace hx110_13 := Sq.up HB.out hx110_13
         replace hx110_14 := Sq.up HB.out hx110_14
         replace hx110_15 := Sq.up HB.out hx110_15
         replace hx110_16 := Sq.up HB.out hx110_16
         replace hx110_17 := Sq.up HB.out hx110_17
         replace hx110_18 := Sq.up HB.out hx110_18
         replace hx110_19 := Sq.up HB.out hx110_19
         replace hx110_20 := Sq.up HB.out hx110_20
         replace hx110_21 := Sq.up HB.out hx110_21
         replace hx110_22 := Sq.up HB.out hx110_22
         replace hx110_23 := Sq.up HB.out hx110_23
         replace hx110_24 := Sq.up HB.out hx110_24
         have HR110_21 := Aside0.mk hi110_21
         have HC110_21 := Aside0.mk hl110_21
         clear hi110_21 hl110_21
         have HR110_24 := Aside0.mk hi110_24
         have HC110_24 := Aside0.mk hl110_24
         clear hi110_24 hl110_24
         replace p110 := eq_true p110
         replace q110 := eq_true q110
         have p111 : 0 ≤ (x8_1 : Int) := of_decide_eq_true Z5
         have q111 : x8_1 < (l0.length : Int) := of_decide_eq_true Z5
         obtain ⟨ad111, A111_21, c111_21, A111_24, c111_24, e111, hx111_0, hx111_1, hx111_2, hx111_3, hx111_4, hx111_5, hx111_6, hx111_7, hx111_8, hx111_9, hx111_10, hx111_11, hx111_12, hx111_13, hx111_14, hx111_15, hx111_16, hx111_17, hx111_18, hx111_19, hx111_20, hx111_21, hx111_22, hx111_23, hx111_24, hl111_21, hi111_21, hl111_24, hi111_24⟩ := at_T34 fR.out x8_1 p111 q111
         obtain rfl : ad110 = ad111 := (by injection e111)
         replace hx111_0 := Sq.up HB.out hx111_0
         replace hx111_1 := Sq.up HB.out hx111_1
         replace hx111_2 := Sq.up HB.out hx111_2
         replace hx111_3 := Sq.up HB.out hx111_3
         replace hx111_4 := Sq.up HB.out hx111_4
         replace hx111_5 := Sq.up HB.out hx111_5
         replace hx111_6 := Sq.up HB.out hx111_6
         replace hx111_7 := Sq.up HB.out hx111_7
         replace hx111_8 := Sq.up HB.out hx111_8
         replace hx111_9 := Sq.up HB.out hx111_9
         replace hx111_10 := Sq.up HB.out hx111_10
         replace hx111_11 := Sq.up HB.out hx111_11
         replace hx111_12 := Sq.up HB.out hx111_12
         replace hx111_13 := Sq.up HB.out hx111_13
         replace hx111_14 := Sq.up HB.out hx111_14
         replace hx111_15 := Sq.up HB.out hx111_15
         replace hx111_16 := Sq.up HB.out hx111_16
         replace hx111_17 := Sq.up HB.out hx111_17
         replace hx111_18 := Sq.up HB.out hx111_18
         replace hx111_19 := Sq.up HB.out hx111_19
         replace hx111_20 := Sq.up HB.out hx111_20
         replace hx111_21 := Sq.up HB.out hx111_21
         replace hx111_22 := Sq.up HB.out hx111_22
         replace hx111_23 := Sq.up HB.out hx111_23
         replace hx111_24 := Sq.up HB.out hx111_24
         have HR111_21 := Aside0.mk hi111_21
         have HC111_21 := Aside0.mk hl111_21
         clear hi111_21 hl111_21
         have HR111_24 := Aside0.mk hi111_24
         have HC111_24 := Aside0.mk hl111_24
         clear hi111_24 hl111_24
         replace p111 := eq_true p111
         replace q111 := eq_true q111
         have ea_ := Option.some.inj (hx110_21.symm.trans hx111_21)
         injection ea_ with ea_ en_ ec_
         subst ea_
         subst ec_
         clear en_
         have ea_ := Option.some.inj (hx110_24.symm.trans hx111_24)
         injection ea_ with ea_ en_ ec_
         subst ea_
         subst ec_
         clear en_
         go_wp2
         go_roundg k1
         case measure => have := HK1.out; omega
         case rel => exact ⟨(wrap64 (cH + 20)), ((rd_T34 l0 x8_1).f9), (wrap64 (x8_1 + 1)), Z7, Z7, Z7, H', ⟨by have := HK1.out; omega⟩, ⟨Z0⟩⟩
        ·rw [if_neg dR] at H
         have dW : (((rd_T34 l0 x8_1).f9).toList == x7_1.toList) = false := beq_eq_false_iff_ne.mpr dR
         have fa : (((rd_T34 l0 x8_1).f9).toList != x7_1.toList) = true := bne_iff_ne.mpr dR
         have H' := Aside0.mk H
         clear H
         have p110 : 0 ≤ (x8_1 : Int) := of_decide_eq_true Z5
         have q110 : x8_1 < (l0.length : Int) := of_decide_eq_true Z5
         obtain ⟨ad110, A110_21, c110_21, A110_24, c110_24, e110, hx110_0, hx110_1, hx110_2, hx110_3, hx110_4, hx110_5, hx110_6, hx110_7, hx110_8, hx110_9, hx110_10, hx110_11, hx110_12, hx110_13, hx110_14, hx110_15, hx110_16, hx110_17, hx110_18, hx110_19, hx110_20, hx110_21, hx110_22, hx110_23, hx110_24, hl110_21, hi110_21, hl110_24, hi110_24⟩ := at_T34 fR.out x8_1 p110 q110
         cases e110
         replace hx110_0 := Sq.up HB.out hx110_0
         replace hx110_1 := Sq.up HB.out hx110_1
         replace hx110_2 := Sq.up HB.out hx110_2
         replace hx110_3 := Sq.up HB.out hx110_3
         replace hx110_4 := Sq.up HB.out hx110_4
         replace hx110_5 := Sq.up HB.out hx110_5
         replace hx110_6 := Sq.up HB.out hx110_6
         replace hx110_7 := Sq.up HB.out hx110_7
         replace hx110_8 := Sq.up HB.out hx110_8
         replace hx110_9 := Sq.up HB.out hx110_9
         replace hx110_10 := Sq.up HB.out hx110_10
         replace hx110_11 := Sq.up HB.out hx110_11
         replace hx110_12 := Sq.up HB.out hx110_12
         replace hx110_13 := Sq.up HB.out hx110_13
         replace hx110_14 := Sq.up HB.out hx110_14
         replace hx110_15 := Sq.up HB.out hx110_15
         replace hx110_16 := Sq.up HB.out hx110_16
         replace hx110_17 := Sq.up HB.out hx110_17
         replace hx110_18 := Sq.up HB.out hx110_18
         replace hx110_19 := Sq.up HB.out hx110_19
         replace hx110_20 := Sq.up HB.out hx110_20
         replace hx110_21 := Sq.up HB.out hx110_21
         replace hx110_22 := Sq.up HB.out hx110_22
         replace hx110_23 := Sq.up HB.out hx110_23
         replace hx110_24 := Sq.up HB.out hx110_24
         have HR110_21 := Aside0.mk hi110_21
         have HC110_21 := Aside0.mk hl110_21
         clear hi110_21 hl110_21
         have HR110_24 := Aside0.mk hi110_24
         have HC110_24 := Aside0.mk hl110_24
         clear hi110_24 hl110_24
         replace p110 := eq_true p110
         replace q110 := eq_true q110
         have p112 : 0 ≤ (x8_1 : Int) := of_decide_eq_true Z5
         have q112 : x8_1 < (l0.length : Int) := of_decide_eq_true Z5
         obtain ⟨ad112, A112_21, c112_21, A112_24, c112_24, e112, hx112_0, hx112_1, hx112_2, hx112_3, hx112_4, hx112_5, hx112_6, hx112_7, hx112_8, hx112_9, hx112_10, hx112_11, hx112_12, hx112_13, hx112_14, hx112_15, hx112_16, hx112_17, hx112_18, hx112_19, hx112_20, hx112_21, hx112_22, hx112_23, hx112_24, hl112_21, hi112_21, hl112_24, hi112_24⟩ := at_T34 fR.out x8_1 p112 q112
         obtain rfl : ad110 = ad112 := (by injection e112)
         replace hx112_0 := Sq.up HB.out hx112_0
         replace hx112_1 := Sq.up HB.out hx112_1
         replace hx112_2 := Sq.up HB.out hx112_2
         replace hx112_3 := Sq.up HB.out hx112_3
         replace hx112_4 := Sq.up HB.out hx112_4
         replace hx112_5 := Sq.up HB.out hx112_5
         replace hx112_6 := Sq.up HB.out hx112_6
         replace hx112_7 := Sq.up HB.out hx112_7
         replace hx112_8 := Sq.up HB.out hx112_8
         replace hx112_9 := Sq.up HB.out hx112_9
         replace hx112_10 := Sq.up HB.out hx112_10
         replace hx112_11 := Sq.up HB.out hx112_11
         replace hx112_12 := Sq.up HB.out hx112_12
         replace hx112_13 := Sq.up HB.out hx112_13
         replace hx112_14 := Sq.up HB.out hx112_14
         replace hx112_15 := Sq.up HB.out hx112_15
         replace hx112_16 := Sq.up HB.out hx112_16
         replace hx112_17 := Sq.up HB.out hx112_17
         replace hx112_18 := Sq.up HB.out hx112_18
         replace hx112_19 := Sq.up HB.out hx112_19
         replace hx112_20 := Sq.up HB.out hx112_20
         replace hx112_21 := Sq.up HB.out hx112_21
         replace hx112_22 := Sq.up HB.out hx112_22
         replace hx112_23 := Sq.up HB.out hx112_23
         replace hx112_24 := Sq.up HB.out hx112_24
         have HR112_21 := Aside0.mk hi112_21
         have HC112_21 := Aside0.mk hl112_21
         clear hi112_21 hl112_21
         have HR112_24 := Aside0.mk hi112_24
         have HC112_24 := Aside0.mk hl112_24
         clear hi112_24 hl112_24
         replace p112 := eq_true p112
         replace q112 := eq_true q112
         have ea_ := Option.some.inj (hx110_21.symm.trans hx112_21)
         injection ea_ with ea_ en_ ec_
         subst ea_
         subst ec_
         clear en_
         have ea_ := Option.some.inj (hx110_24.symm.trans hx112_24)
         injection ea_ with ea_ en_ ec_
         subst ea_
         subst ec_
         clear en_
         go_wp2
         go_roundg k1
         case measure => have := HK1.out; omega
         case rel => exact ⟨(wrap64 ((wrap64 (cH + 20)) + 20)), ((rd_T34 l0 x8_1).f9), (wrap64 (x8_1 + 1)), Z7, Z7, Z7, H', ⟨by have := HK1.out; omega⟩, ⟨Z0⟩⟩
       ·rw [if_neg eD] at H
        exact absurd H Z36
      ·rw [if_neg dm] at H
       have dE : decide (x8_1 < (l0.length : Int)) = false := decide_eq_false dm
       clear dm
       replace H := Option.bind_eq_some_iff.mp H
       obtain ⟨⟨t113, t114, t115⟩, hv, H⟩ := H
       replace H : ((roadbooklaw12_awake.f k1).bind fun t118 => (if t118 = true then (if t115 = 0 then ((roadbookref07_SameAll.f k1 l0 t113).bind fun t119 => (if t119 = true then (some ((aN.size : Int) == cH)) else (some false))) else (some false)) else (some false))) = some r := H
       have iN := Aside0.mk hv
       clear hv
       replace H := Option.bind_eq_some_iff.mp H
       obtain ⟨t118, A160, H⟩ := H
       replace H : (if t118 = true then (if t115 = 0 then ((roadbookref07_SameAll.f k1 l0 t113).bind fun t119 => (if t119 = true then (some ((aN.size : Int) == cH)) else (some false))) else (some false)) else (some false)) = some r := H
       have A16 := Aside0.mk A160
       clear A160
       by_cases eE : t118 = true
       ·subst eE
        replace H := Sq.itT H
        by_cases c18 : t115 = 0
        ·rw [if_pos c18] at H
         have c18b0 : (t115 == 0) = true := beq_iff_eq.mpr c18
         have c18b1 : (t115 != 0) = false := bne_eq_false_iff_eq.mpr c18
         clear c18
         replace H := Option.bind_eq_some_iff.mp H
         obtain ⟨t119, A190, H⟩ := H
         replace H : (if t119 = true then (some ((aN.size : Int) == cH)) else (some false)) = some r := H
         have A19 := Aside0.mk A190
         clear A190
         by_cases fv : t119 = true
         ·subst fv
          replace H := Sq.itT H
          obtain rfl := Option.some.inj H
          go_wp2_with (first | ((with_reducible refine gate_callee (f := 8) rfl ?_); refine goesL_ (some 65) rfl rfl Try.func8 Z16 rfl #[.string aN] rfl Z4 ?_; (with_reducible refine (ripng_Parse.calls k1 aN t113 t114 t115 _ iN.out).mono ?_); rintro e hG ⟨v116, rfl, ho0, hb⟩; refine ⟨_, rfl, ?_⟩; have HO117 := Aside0.mk (Kd.S_lower ho0 (below_size Z0)); replace HB := Aside0.mk (below_step Z0 hb); clear hb ho0) | ((with_reducible refine gate_callee (f := 7) rfl ?_); refine goesL_ (some 69) rfl rfl Try.func7 Z16 rfl #[] rfl Z4 ?_; (with_reducible refine (roadbooklaw12_awake.calls k1  true _ (Aside0.mk (by first | rfl | exact hr_.out)) A16.out).mono ?_); rintro e w22 ⟨rfl, hb⟩; refine ⟨_, rfl, ?_⟩; replace HO117 := Aside0.mk (Kd.S_below (by (with_reducible repeat (first | apply Kd.S_alloc | apply Kd.S_drewN | apply Kd.S_drew)); exact HO117.out) hb); replace HB := Aside0.mk (below_step Z0 hb); clear hb; obtain ⟨Ao23, co23, eo23⟩ := Kd.S_slice HO117.out; subst eo23) | (go_at_call 10; (with_reducible refine (roadbookref07_SameAll.calls k1 _ _ l0 _ _ t113 true _ ?side1 ?side2 ?side3 ?side4 A19.out).mono ?_); (case side1 => exact (by repeat (first | exact (Kd.C_below fR.out HB.out) | (with_reducible refine Kd.C_alloc ?_ _) | (with_reducible refine Kd.C_drewN ?_ _) | (with_reducible refine Kd.C_drew ?_)))); (case side2 => exact jD.out); (case side3 => exact (by repeat (first | exact (Kd.S_reads' HO117.out).2.2 | (with_reducible refine Kd.C_alloc ?_ _) | (with_reducible refine Kd.C_drewN ?_ _) | (with_reducible refine Kd.C_drew ?_)))); (case side4 => exact (Kd.S_reads' HO117.out).2.1); rintro e w24 ⟨rfl, hb⟩; replace HO117 := Aside0.mk (Kd.S_below (by (with_reducible repeat (first | apply Kd.S_alloc | apply Kd.S_drewN | apply Kd.S_drew)); exact HO117.out) hb); replace HB := Aside0.mk (below_step Z0 hb); clear hb))
          go_ret
          exact ⟨Z2, Z0⟩
         ·replace fv := Bool.eq_false_iff.mpr fv
          subst fv
          replace H := Sq.itF H
          exact absurd (Option.some.inj H) (by rw [hr_.out]; exact Bool.false_ne_true)
        ·rw [if_neg c18] at H
         have c18b0 : (t115 == 0) = false := beq_eq_false_iff_ne.mpr c18
         have c18b1 : (t115 != 0) = true := bne_iff_ne.mpr c18
         exact absurd (Option.some.inj H) (by rw [hr_.out]; exact Bool.false_ne_true)
       ·replace eE := Bool.eq_false_iff.mpr eE
        subst eE
        replace H := Sq.itF H
        exact absurd (Option.some.inj H) (by rw [hr_.out]; exact Bool.false_ne_true)
   ·rw [if_neg c6] at H
    exact absurd H Z36
  ·rw [if_neg c5] at H
   have cY : (cK == 0) = false := beq_eq_false_iff_ne.mpr c5
   have eR : (cK != 0) = true := bne_iff_ne.mpr c5
   replace H := Option.bind_eq_some_iff.mp H
   obtain ⟨cI, A250, H⟩ := H
   replace H : (if cI = true then (if aN.toList = ([] : List UInt8) then (if aJ ≥ 0 then (some (decide (aJ ≤ (l0.length : Int)))) else (some false)) else (some false)) else (some false)) = some r := H
   have A25 := Aside0.mk A250
   clear A250
   by_cases hN : cI = true
   ·subst hN
    replace H := Sq.itT H
    by_cases hm : aN.toList = ([] : List UInt8)
    ·rw [if_pos hm] at H
     have ir : (aN.toList == ([] : List UInt8)) = true := beq_iff_eq.mpr hm
     have c27b1 : (aN.toList != ([] : List UInt8)) = false := bne_eq_false_iff_eq.mpr hm
     clear hm
     by_cases fB : aJ ≥ 0
     ·rw [if_pos fB] at H
      have fC : decide (0 ≤ aJ) = true := decide_eq_true fB
      clear fB
      obtain rfl := Option.some.inj H
      go_enter Try.func6, Try.ntmps6
      go_wp2_with (first | ((with_reducible refine gate_callee (f := 11) rfl ?_); refine goesL_ (some 13) rfl rfl Try.func11 Z16 rfl #[.slice A0 l0.length c0, .int .i64 40] rfl Z4 ?_; (with_reducible refine (roadbookref07_FewAll.calls k _ _ l0 40 true _ ?side1 ?side2 A2.out).mono ?_); (case side1 => exact (by repeat (first | exact fR.out | (with_reducible refine Kd.C_alloc ?_ _) | (with_reducible refine Kd.C_drewN ?_ _) | (with_reducible refine Kd.C_drew ?_)))); (case side2 => exact jD.out); rintro e w29 ⟨rfl, hb⟩; refine ⟨_, rfl, ?_⟩; replace HB := Aside0.mk (below_step Z0 hb); clear hb) | ((with_reducible refine gate_callee (f := 14) rfl ?_); refine goesL_ (some 18) rfl rfl Try.func14 Z16 rfl #[.slice A0 l0.length c0] rfl Z4 ?_; (with_reducible refine (ripng_Encode.calls k _ _ l0 aN aJ cK _ ?side1 ?side2 A4.out).mono ?_); (case side1 => exact (by repeat (first | exact (Kd.C_below fR.out HB.out) | (with_reducible refine Kd.C_alloc ?_ _) | (with_reducible refine Kd.C_drewN ?_ _) | (with_reducible refine Kd.C_drew ?_)))); (case side2 => exact jD.out); rintro e w30 ⟨rfl, hb⟩; refine ⟨_, rfl, ?_⟩; replace HB := Aside0.mk (below_step Z0 hb); clear hb) | ((with_reducible refine gate_callee (f := 7) rfl ?_); refine goesL_ (some 24) rfl rfl Try.func7 Z16 rfl #[] rfl Z4 ?_; (with_reducible refine (roadbooklaw12_awake.calls k  true _ (Aside0.mk (by first | rfl | exact hr_.out)) A25.out).mono ?_); rintro e eW ⟨rfl, hb⟩; refine ⟨_, rfl, ?_⟩; replace HB := Aside0.mk (below_step Z0 hb); clear hb))
      go_ret
      exact ⟨Z2, Z0⟩
     ·rw [if_neg fB] at H
      have fC : decide (0 ≤ aJ) = false := decide_eq_false fB
      clear fB
      exact absurd (Option.some.inj H) (by rw [hr_.out]; exact Bool.false_ne_true)
    ·rw [if_neg hm] at H
     have ir : (aN.toList == ([] : List UInt8)) = false := beq_eq_false_iff_ne.mpr hm
     have c27b1 : (aN.toList != ([] : List UInt8)) = true := bne_iff_ne.mpr hm
     exact absurd (Option.some.inj H) (by rw [hr_.out]; exact Bool.false_ne_true)
   ·replace hN := Bool.eq_false_iff.mpr hN
    subst hN
    replace H := Sq.itF H
    exact absurd (Option.some.inj H) (by rw [hr_.out]; exact Bool.false_ne_true)
 ·replace c3 := Bool.eq_false_iff.mpr c3
  subst c3
  replace H := Sq.itF H
  replace H := Option.bind_eq_some_iff.mp H
  obtain ⟨aI, A320, H⟩ := H
  replace H : (some aI) = some r := H
  have A32 := Aside0.mk A320
  clear A320
  obtain rfl := Option.some.inj H
  go_enter Try.func6, Try.ntmps6
  go_wp2_with (first | ((with_reducible refine gate_callee (f := 11) rfl ?_); refine goesL_ (some 13) rfl rfl Try.func11 Z16 rfl #[.slice A0 l0.length c0, .int .i64 40] rfl Z4 ?_; (with_reducible refine (roadbookref07_FewAll.calls k _ _ l0 40 false _ ?side1 ?side2 A2.out).mono ?_); (case side1 => exact (by repeat (first | exact fR.out | (with_reducible refine Kd.C_alloc ?_ _) | (with_reducible refine Kd.C_drewN ?_ _) | (with_reducible refine Kd.C_drew ?_)))); (case side2 => exact jD.out); rintro e w33 ⟨rfl, hb⟩; refine ⟨_, rfl, ?_⟩; replace HB := Aside0.mk (below_step Z0 hb); clear hb) | ((with_reducible refine gate_callee (f := 7) rfl ?_); refine goesL_ (some 15) rfl rfl Try.func7 Z16 rfl #[] rfl Z4 ?_; (with_reducible refine (roadbooklaw12_awake.calls k  aI _ (Aside0.mk (by first | rfl | exact hr_.out)) A32.out).mono ?_); rintro e w34 ⟨rfl, hb⟩; refine ⟨_, rfl, ?_⟩; replace HB := Aside0.mk (below_step Z0 hb); clear hb))
  go_ret
  exact ⟨Z2, Z0⟩

end Go.Proofs.Ytnifhgackjkkbaa.PN
