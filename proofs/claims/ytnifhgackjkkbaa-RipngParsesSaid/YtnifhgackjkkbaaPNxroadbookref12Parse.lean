-- Written by mp.py, a program of this work (wip/tools), out of the translation; Lean checks it.
import Derived.Test.YtnifhgackjkkbaaPNxZ
import Derived.Test.YtnifhgackjkkbaaPNxroadbookref02
import Derived.Test.YtnifhgackjkkbaaPNxroadbookref11
namespace Go.Proofs.Ytnifhgackjkkbaa.PN
open Go.RowKit Go.Proofs.YtnifhgackjkkbaaW.PrintWords Go.Proofs.YtnifhgackjkkbaaW.PrintLast Go.Proofs.YtnifhgackjkkbaaW.PrintMore
attribute [local go_sem] max2_int min2_int max_two min_two max_three min_three max_four min_four   -- for this text's walks alone
set_option linter.unusedVariables false
set_option linter.unusedSimpArgs false

/-! ### roadbookref12_Parse: function 9 -/
mutual
def roadbookref12_Parse.j0 : Nat → ByteArray → Bool → Option ((List (S34)) × Int × Int)
 | 0, _, _ => none
 | k + 1, x0, jP => if jP = true then (some (([] : List (S34)), 0, 4)) else (if 1 < (x0.size : Int) then (if (bt x0 1) = 1 then (if 2 < (x0.size : Int) then (if (bt x0 2) = 0 then (if 3 < (x0.size : Int) then (roadbookref12_Parse.j1 k x0 ((bt x0 3) != 0)) else (none)) else (roadbookref12_Parse.j1 k x0 true)) else (none)) else (some (([] : List (S34)), 1, 4))) else (none))
def roadbookref12_Parse.j1 : Nat → ByteArray → Bool → Option ((List (S34)) × Int × Int)
 | 0, _, _ => none
 | k + 1, x0, jQ => if jQ = true then (some (([] : List (S34)), 2, 5)) else (if (Int.tmod (wrap64 ((x0.size : Int) - 4)) 20) = 0 then ((roadbookref12_none.f).bind fun aM => (roadbookref12_Parse.l0 k x0 ([] : List (S34)) aM 4)) else (some (([] : List (S34)), (x0.size : Int), 2)))
def roadbookref12_Parse.l0 : Nat → ByteArray → List (S34) → ByteArray → Int → Option ((List (S34)) × Int × Int)
 | 0, _, _, _, _ => none
 | k + 1, x0, x5, x6, x7 => if x7 < (x0.size : Int) then (if 0 ≤ x7 then (if x7 ≤ (wrap64 (x7 + 20)) then (if (wrap64 (x7 + 20)) ≤ (x0.size : Int) then ((roadbookref11_Get.f k (x0.extract (x7 : Int).toNat ((wrap64 (x7 + 20)) : Int).toNat)).bind fun cp => (if cp.2.2.2.2.2.1 = 255 then (if cp.2.1 = 0 then (roadbookref12_Parse.j3 k x0 x5 x7 (cp.1 != 0) cp.1 cp.2.1 cp.2.2.1 cp.2.2.2.1 cp.2.2.2.2.1 cp.2.2.2.2.2.1) else (roadbookref12_Parse.j3 k x0 x5 x7 true cp.1 cp.2.1 cp.2.2.1 cp.2.2.2.1 cp.2.2.2.2.1 cp.2.2.2.2.2.1)) else ((roadbookref04_Right.f k cp.2.2.1 cp.1).bind fun eU => (if eU = true then (if cp.2.2.2.2.2.1 < 1 then (some (([] : List (S34)), x7, 6)) else (if cp.2.2.2.2.2.1 > 16 then (some (([] : List (S34)), x7, 6)) else (if 0 < (x0.size : Int) then (if x5.length < 488671834567 then (roadbookref12_Parse.l0 k x0 (x5 ++ [(⟨2, wrap64 (bt x0 0), 0, (⟨#[]⟩ : ByteArray), 0, 0, cp.2.2.1, cp.1, cp.2.1, x6, cp.2.2.2.2.2.1, (⟨#[]⟩ : ByteArray), 0, 0, 0, 0, 0, 0, 0, (⟨#[]⟩ : ByteArray), (⟨#[]⟩ : ByteArray), ([] : List (S66)), 0, (⟨#[]⟩ : ByteArray), ([] : List (S68))⟩ : S34)]) x6 (wrap64 (x7 + 20))) else (none)) else (none)))) else (some (([] : List (S34)), x7, 7)))))) else (none)) else (none)) else (none)) else (if (x5.length : Int) = 0 then (some (([] : List (S34)), (x0.size : Int), 8)) else (some (x5, 0, 0)))
def roadbookref12_Parse.j3 : Nat → ByteArray → List (S34) → Int → Bool → Int → Int → ByteArray → ByteArray → ByteArray → Int → Option ((List (S34)) × Int × Int)
 | 0, _, _, _, _, _, _, _, _, _, _ => none
 | k + 1, x0, x5, x7, jR, x110000, x110001, eM, x110003, x110004, x110005 => if jR = true then (some (([] : List (S34)), x7, 5)) else ((roadbookref12_none.f).bind fun dT => ((roadbookref06_Link.f eM).bind fun ef => (if ef = true then (roadbookref12_Parse.l0 k x0 x5 eM (wrap64 (x7 + 20))) else (roadbookref12_Parse.l0 k x0 x5 dT (wrap64 (x7 + 20))))))
end
def roadbookref12_Parse.f (k : Nat) (a0 : ByteArray) : Option ((List (S34)) × Int × Int) := if (a0.size : Int) > 65535 then (some (([] : List (S34)), 65535, 10)) else (if (a0.size : Int) < 4 then (some (([] : List (S34)), (a0.size : Int), 2)) else (if 0 < (a0.size : Int) then (if (bt a0 0) < 1 then (roadbookref12_Parse.j0 k a0 true) else (roadbookref12_Parse.j0 k a0 (decide ((bt a0 0) > 2)))) else (none)))
theorem roadbookref12_Parse.mono_l : ∀ k, (∀ y0 y1, LeO (roadbookref12_Parse.j0 k y0 y1) (roadbookref12_Parse.j0 (k + 1) y0 y1)) ∧ (∀ y0 y1, LeO (roadbookref12_Parse.j1 k y0 y1) (roadbookref12_Parse.j1 (k + 1) y0 y1)) ∧ (∀ y0 y1 y2 y3, LeO (roadbookref12_Parse.l0 k y0 y1 y2 y3) (roadbookref12_Parse.l0 (k + 1) y0 y1 y2 y3)) ∧ (∀ y0 y1 y2 y3 y4 y5 y6 y7 y8 y9, LeO (roadbookref12_Parse.j3 k y0 y1 y2 y3 y4 y5 y6 y7 y8 y9) (roadbookref12_Parse.j3 (k + 1) y0 y1 y2 y3 y4 y5 y6 y7 y8 y9))
 | 0 => ⟨Sq.mz, Sq.mz, Sq.mz, Sq.mz⟩
 | k + 1 => by
  obtain ⟨ih0, ih1, ih2, ih3⟩ := roadbookref12_Parse.mono_l k
  refine ⟨?_, ?_, ?_, ?_⟩
  ·intros
   unfold roadbookref12_Parse.j0
   have m0 := roadbookref04_Right.mono
   have m1 := roadbookref11_Get.mono
   exact Sq.mo
  ·intros
   unfold roadbookref12_Parse.j1
   have m0 := roadbookref04_Right.mono
   have m1 := roadbookref11_Get.mono
   exact Sq.mo
  ·intros
   unfold roadbookref12_Parse.l0
   have m0 := roadbookref04_Right.mono
   have m1 := roadbookref11_Get.mono
   exact Sq.mo
  ·intros
   unfold roadbookref12_Parse.j3
   have m0 := roadbookref04_Right.mono
   have m1 := roadbookref11_Get.mono
   exact Sq.mo
theorem roadbookref12_Parse.mono : ∀ a0 k, LeO (roadbookref12_Parse.f k a0) (roadbookref12_Parse.f (k + 1) a0) := by
 intro a0 k
 obtain ⟨ih0, ih1, ih2, ih3⟩ := roadbookref12_Parse.mono_l k
 unfold roadbookref12_Parse.f
 have m0 := roadbookref04_Right.mono
 have m1 := roadbookref11_Get.mono
 exact Sq.mo
def roadbookref12_Parse.T29 : Bool × List (List Nat × List Nat) := (true, [([], []), ([], []), ([1], [1]), ([2], [2]), ([], []), ([4], [4]), ([], []), ([6], [6]), ([], []), ([8], [8]), ([], []), ([], []), ([11], [11]), ([3, 5, 7, 9, 10, 12], [3, 5, 7, 9, 10, 12]), ([13], [13]), ([0, 14], [0, 14]), ([15, 15, 0, 1, 2, 3, 4, 5, 6, 7, 8, 9, 10, 11, 12, 13, 14, 15], [0, 15])])
def roadbookref12_Parse.B29 : List Nat := [0, 0, 2, 6, 0, 16, 0, 64, 0, 256, 0, 0, 2048, 8190, 16382, 32767, 65535]
theorem roadbookref12_Parse.tab29 : rtab .any (opsOf Try.f9 29) = roadbookref12_Parse.T29 := by kernel_rfl
theorem roadbookref12_Parse.bits29 : waitsOk roadbookref12_Parse.T29.2 roadbookref12_Parse.B29 = true := by kernel_rfl
set_option maxRecDepth 100000 in
theorem roadbookref12_Parse.bd113 (v0 : Int) (v1 : Int) (v8 : Int) (v6 : ByteArray) (v7 : Int) (v9 : ByteArray) (fe : Int) : Try.prog.built 34 [(0, .int .i64 v0), (1, .int .i64 v1), (8, .int .i64 v8), (6, .string v6), (7, .int .i64 v7), (9, .string v9), (10, .int .i64 fe)] = some #[.int .i64 v0, .int .i64 v1, .int .i64 0, .string ⟨#[]⟩, .int .i64 0, .int .i64 0, .string v6, .int .i64 v7, .int .i64 v8, .string v9, .int .i64 fe, .string ⟨#[]⟩, .int .i64 0, .int .i64 0, .int .i64 0, .int .i64 0, .int .i64 0, .int .i64 0, .int .i64 0, .string ⟨#[]⟩, .string ⟨#[]⟩, .slice none 0 0, .int .i64 0, .string ⟨#[]⟩, .slice none 0 0] := by kernel_rfl
set_option maxHeartbeats 8000000 in
set_option maxRecDepth 100000 in
theorem roadbookref12_Parse.calls (k : Nat) (a0 : ByteArray) (r1 : List (S34)) (r2 : Int) (r3 : Int) (w : World) (h : roadbookref12_Parse.f k a0 = some (r1, r2, r3)) :
  Calls Try.prog 9 #[.string a0] w fun e w' => ∃ v0_ : Value, e = .returned (.tuple #[v0_, .int .i64 r2, .int .i64 r3]) ∧ Kd.S k34 34 w' w.heap.size (fun _ => True) v0_ r1 ∧ Below w.heap.size w w' := by
 have fW := Try.underlying47
 have fu := Try.underlying34
 have HB := Aside0.mk (Below.refl w.heap.size w)
 have H : (if (a0.size : Int) > 65535 then (some (([] : List (S34)), 65535, 10)) else (if (a0.size : Int) < 4 then (some (([] : List (S34)), (a0.size : Int), 2)) else (if 0 < (a0.size : Int) then (if (bt a0 0) < 1 then (roadbookref12_Parse.j0 k a0 true) else (roadbookref12_Parse.j0 k a0 (decide ((bt a0 0) > 2)))) else (none)))) = some (r1, r2, r3) := h
 clear h
 by_cases c2 : (a0.size : Int) > 65535
 ·rw [if_pos c2] at H
  have cV : decide (65535 < (a0.size : Int)) = true := decide_eq_true c2
  have dj : decide (65535 < a0.size) = true := decide_eq_true Z25
  clear c2
  simp only [Option.some.injEq, Prod.mk.injEq] at H
  obtain ⟨rfl, rfl, rfl⟩ := H
  go_enter Try.func9, Try.ntmps9
  go_wp2_with (first | ((with_reducible refine gate_dst (N := 113) rfl ?_); refine Pre.build_event 113 34 [(0, Go.Operand.const (Go.Value.int Go.IntKind.i64 2)), (1, Go.Operand.tmp 103), (8, Go.Operand.tmp 105), (6, Go.Operand.tmp 107), (7, Go.Operand.tmp 109), (9, Go.Operand.tmp 110), (10, Go.Operand.tmp 112)] rfl rfl rfl (roadbookref12_Parse.bd113 _ _ _ _ _ _ _) ?_))
  go_ret3
  exact ⟨_, Z2, Z11, Z0⟩
 ·rw [if_neg c2] at H
  have cV : decide (65535 < (a0.size : Int)) = false := decide_eq_false c2
  have dj : decide (65535 < a0.size) = false := decide_eq_false Z25
  clear c2
  by_cases c3 : (a0.size : Int) < 4
  ·rw [if_pos c3] at H
   have bY : decide ((a0.size : Int) < 4) = true := decide_eq_true c3
   have cE : decide (a0.size < 4) = true := decide_eq_true Z25
   clear c3
   simp only [Option.some.injEq, Prod.mk.injEq] at H
   obtain ⟨rfl, rfl, rfl⟩ := H
   go_enter Try.func9, Try.ntmps9
   go_wp2_with (first | ((with_reducible refine gate_dst (N := 113) rfl ?_); refine Pre.build_event 113 34 [(0, Go.Operand.const (Go.Value.int Go.IntKind.i64 2)), (1, Go.Operand.tmp 103), (8, Go.Operand.tmp 105), (6, Go.Operand.tmp 107), (7, Go.Operand.tmp 109), (9, Go.Operand.tmp 110), (10, Go.Operand.tmp 112)] rfl rfl rfl (roadbookref12_Parse.bd113 _ _ _ _ _ _ _) ?_))
   go_ret3
   exact ⟨_, Z2, Z11, Z0⟩
  ·rw [if_neg c3] at H
   have bY : decide ((a0.size : Int) < 4) = false := decide_eq_false c3
   have cE : decide (a0.size < 4) = false := decide_eq_false Z25
   clear c3
   have fV := Aside0.mk H
   clear H
   go_enter Try.func9, Try.ntmps9
   go_upto_region 5 with (first | ((with_reducible refine gate_dst (N := 113) rfl ?_); refine Pre.build_event 113 34 [(0, Go.Operand.const (Go.Value.int Go.IntKind.i64 2)), (1, Go.Operand.tmp 103), (8, Go.Operand.tmp 105), (6, Go.Operand.tmp 107), (7, Go.Operand.tmp 109), (9, Go.Operand.tmp 110), (10, Go.Operand.tmp 112)] rfl rfl rfl (roadbookref12_Parse.bd113 _ _ _ _ _ _ _) ?_))
   go_cut [20] (fun fs wc => ∃ (kq : Nat) (eN : Bool), fs = .bool eN ∧ Aside0 (roadbookref12_Parse.j0 kq a0 eN = some (r1, r2, r3)) ∧ Aside0 (kq ≤ k) ∧ Aside0 (Below w.heap.size w wc))
   case first =>
    have H := fV.out
    clear fV
    by_cases c5 : 0 < (a0.size : Int)
    ·rw [if_pos c5] at H
     have cY : decide (0 < (a0.size : Int)) = true := decide_eq_true c5
     have eR : decide (0 < a0.size) = true := decide_eq_true Z25
     clear c5
     (first | rw [cY] | (simp only [i64_w, i32_w]; rw [cY]) | skip)
     by_cases c7 : (bt a0 0) < 1
     ·rw [if_pos c7] at H
      have dn : decide ((bt a0 0) < 1) = true := decide_eq_true c7
      clear c7
      have H' := Aside0.mk H
      clear H
      have p6 : 0 ≤ (0 : Int) := Z25
      have q6 : 0 < a0.size := (by have : (0 : Int) < (a0.size : Int) := of_decide_eq_true Z5; omega)
      have hx6 : ∀ h : 0 < a0.size, ((a0[0]'h).toNat : Int) = bt a0 0 := bt_at a0 0
      clear p6
      have qi6 : (0 < (a0.size : Int)) = True := eq_true (of_decide_eq_true Z5)
      replace q6 := eq_true q6
      go_wp2_with (first | ((with_reducible refine gate_dst (N := 113) rfl ?_); refine Pre.build_event 113 34 [(0, Go.Operand.const (Go.Value.int Go.IntKind.i64 2)), (1, Go.Operand.tmp 103), (8, Go.Operand.tmp 105), (6, Go.Operand.tmp 107), (7, Go.Operand.tmp 109), (9, Go.Operand.tmp 110), (10, Go.Operand.tmp 112)] rfl rfl rfl (roadbookref12_Parse.bd113 _ _ _ _ _ _ _) ?_))
      go_meet
      case rel => exact ⟨_, (true), Z7, H', ⟨Z34⟩, ⟨Z0⟩⟩
     ·rw [if_neg c7] at H
      have dn : decide ((bt a0 0) < 1) = false := decide_eq_false c7
      clear c7
      have H' := Aside0.mk H
      clear H
      have p6 : 0 ≤ (0 : Int) := Z25
      have q6 : 0 < a0.size := (by have : (0 : Int) < (a0.size : Int) := of_decide_eq_true Z5; omega)
      have hx6 : ∀ h : 0 < a0.size, ((a0[0]'h).toNat : Int) = bt a0 0 := bt_at a0 0
      clear p6
      have qi6 : (0 < (a0.size : Int)) = True := eq_true (of_decide_eq_true Z5)
      replace q6 := eq_true q6
      have p8 : 0 ≤ (0 : Int) := Z25
      have q8 : 0 < a0.size := (by have : (0 : Int) < (a0.size : Int) := of_decide_eq_true Z5; omega)
      have hx8 : ∀ h : 0 < a0.size, ((a0[0]'h).toNat : Int) = bt a0 0 := bt_at a0 0
      clear p8
      have qi8 : (0 < (a0.size : Int)) = True := eq_true (of_decide_eq_true Z5)
      replace q8 := eq_true q8
      go_wp2_with (first | ((with_reducible refine gate_dst (N := 113) rfl ?_); refine Pre.build_event 113 34 [(0, Go.Operand.const (Go.Value.int Go.IntKind.i64 2)), (1, Go.Operand.tmp 103), (8, Go.Operand.tmp 105), (6, Go.Operand.tmp 107), (7, Go.Operand.tmp 109), (9, Go.Operand.tmp 110), (10, Go.Operand.tmp 112)] rfl rfl rfl (roadbookref12_Parse.bd113 _ _ _ _ _ _ _) ?_))
      go_meet
      case rel => exact ⟨_, (decide ((bt a0 0) > 2)), Z7, H', ⟨Z34⟩, ⟨Z0⟩⟩
    ·rw [if_neg c5] at H
     exact absurd H Z36
   case rest =>
    clear fV
    try clear c2
    try clear cV
    try clear dj
    try clear p2
    try clear c3
    try clear bY
    try clear cE
    obtain ⟨kq, eN, rfl, HA, eZ, HB⟩ := hcut
    cases kq with
    | zero => exact absurd HA.out (by simp [roadbookref12_Parse.j0])
    | succ kj3 =>
     have H := HA.out
     clear HA
     simp only [roadbookref12_Parse.j0] at H
     by_cases c9 : eN = true
     ·subst c9
      have H1 : (some (([] : List (S34)), 0, 4)) = some (r1, r2, r3) := by rw [if_pos rfl] at H; exact H
      clear H
      have H := H1
      clear H1
      simp only [Option.some.injEq, Prod.mk.injEq] at H
      obtain ⟨rfl, rfl, rfl⟩ := H
      go_wp2_with (first | ((with_reducible refine gate_dst (N := 113) rfl ?_); refine Pre.build_event 113 34 [(0, Go.Operand.const (Go.Value.int Go.IntKind.i64 2)), (1, Go.Operand.tmp 103), (8, Go.Operand.tmp 105), (6, Go.Operand.tmp 107), (7, Go.Operand.tmp 109), (9, Go.Operand.tmp 110), (10, Go.Operand.tmp 112)] rfl rfl rfl (roadbookref12_Parse.bd113 _ _ _ _ _ _ _) ?_))
      go_ret3
      exact ⟨_, Z2, Z11, Z0⟩
     ·replace c9 := Bool.eq_false_iff.mpr c9
      subst c9
      have H1 : (if 1 < (a0.size : Int) then (if (bt a0 1) = 1 then (if 2 < (a0.size : Int) then (if (bt a0 2) = 0 then (if 3 < (a0.size : Int) then (roadbookref12_Parse.j1 kj3 a0 ((bt a0 3) != 0)) else (none)) else (roadbookref12_Parse.j1 kj3 a0 true)) else (none)) else (some (([] : List (S34)), 1, 4))) else (none)) = some (r1, r2, r3) := by rw [if_neg (show ¬ (false = true) by decide)] at H; exact H
      clear H
      have H := H1
      clear H1
      by_cases cR : 1 < (a0.size : Int)
      ·rw [if_pos cR] at H
       have dl : decide (1 < (a0.size : Int)) = true := decide_eq_true cR
       have dV : decide (1 < a0.size) = true := decide_eq_true Z25
       clear cR
       by_cases dm : (bt a0 1) = 1
       ·rw [if_pos dm] at H
        have dE : ((bt a0 1) == 1) = true := beq_iff_eq.mpr dm
        have dF : ((bt a0 1) != 1) = false := bne_eq_false_iff_eq.mpr dm
        clear dm
        have fZ := Aside0.mk H
        clear H
        have p11 : 0 ≤ (1 : Int) := Z25
        have q11 : 1 < a0.size := (by have : (1 : Int) < (a0.size : Int) := of_decide_eq_true Z5; omega)
        have hx11 : ∀ h : 1 < a0.size, ((a0[1]'h).toNat : Int) = bt a0 1 := bt_at a0 1
        clear p11
        have qi11 : (1 < (a0.size : Int)) = True := eq_true (of_decide_eq_true Z5)
        replace q11 := eq_true q11
        go_upto_region 9 with (first | ((with_reducible refine gate_dst (N := 113) rfl ?_); refine Pre.build_event 113 34 [(0, Go.Operand.const (Go.Value.int Go.IntKind.i64 2)), (1, Go.Operand.tmp 103), (8, Go.Operand.tmp 105), (6, Go.Operand.tmp 107), (7, Go.Operand.tmp 109), (9, Go.Operand.tmp 110), (10, Go.Operand.tmp 112)] rfl rfl rfl (roadbookref12_Parse.bd113 _ _ _ _ _ _ _) ?_))
        go_cut [33] (fun jS wc => ∃ (kq : Nat) (ea : Bool), jS = .bool ea ∧ Aside0 (roadbookref12_Parse.j1 kq a0 ea = some (r1, r2, r3)) ∧ Aside0 (kq ≤ kj3) ∧ Aside0 (Below w.heap.size w wc))
        case first =>
         have H := fZ.out
         clear fZ
         by_cases dR : 2 < (a0.size : Int)
         ·rw [if_pos dR] at H
          have dW : decide (2 < (a0.size : Int)) = true := decide_eq_true dR
          have fa : decide (2 < a0.size) = true := decide_eq_true Z25
          clear dR
          (first | rw [dW] | (simp only [i64_w, i32_w]; rw [dW]) | skip)
          by_cases dX : (bt a0 2) = 0
          ·rw [if_pos dX] at H
           have eK : ((bt a0 2) == 0) = true := beq_iff_eq.mpr dX
           have eL : ((bt a0 2) != 0) = false := bne_eq_false_iff_eq.mpr dX
           clear dX
           by_cases eE : 3 < (a0.size : Int)
           ·rw [if_pos eE] at H
            have eF : decide (3 < (a0.size : Int)) = true := decide_eq_true eE
            have eG : decide (3 < a0.size) = true := decide_eq_true Z25
            clear eE
            have H' := Aside0.mk H
            clear H
            have p15 : 0 ≤ (2 : Int) := Z25
            have q15 : 2 < a0.size := (by have : (2 : Int) < (a0.size : Int) := of_decide_eq_true Z5; omega)
            have hx15 : ∀ h : 2 < a0.size, ((a0[2]'h).toNat : Int) = bt a0 2 := bt_at a0 2
            clear p15
            have qi15 : (2 < (a0.size : Int)) = True := eq_true (of_decide_eq_true Z5)
            replace q15 := eq_true q15
            have p18 : 0 ≤ (3 : Int) := Z25
            have q18 : 3 < a0.size := (by have : (3 : Int) < (a0.size : Int) := of_decide_eq_true Z5; omega)
            have hx18 : ∀ h : 3 < a0.size, ((a0[3]'h).toNat : Int) = bt a0 3 := bt_at a0 3
            clear p18
            have qi18 : (3 < (a0.size : Int)) = True := eq_true (of_decide_eq_true Z5)
            replace q18 := eq_true q18
            go_wp2_with (first | ((with_reducible refine gate_dst (N := 113) rfl ?_); refine Pre.build_event 113 34 [(0, Go.Operand.const (Go.Value.int Go.IntKind.i64 2)), (1, Go.Operand.tmp 103), (8, Go.Operand.tmp 105), (6, Go.Operand.tmp 107), (7, Go.Operand.tmp 109), (9, Go.Operand.tmp 110), (10, Go.Operand.tmp 112)] rfl rfl rfl (roadbookref12_Parse.bd113 _ _ _ _ _ _ _) ?_))
            go_meet
            case rel => exact ⟨_, (((bt a0 3) != 0)), Z7, H', ⟨by have := eZ.out; first | omega | exact Nat.le_refl _⟩, ⟨Z0⟩⟩
           ·rw [if_neg eE] at H
            exact absurd H Z36
          ·rw [if_neg dX] at H
           have eK : ((bt a0 2) == 0) = false := beq_eq_false_iff_ne.mpr dX
           have eL : ((bt a0 2) != 0) = true := bne_iff_ne.mpr dX
           have H' := Aside0.mk H
           clear H
           have p15 : 0 ≤ (2 : Int) := Z25
           have q15 : 2 < a0.size := (by have : (2 : Int) < (a0.size : Int) := of_decide_eq_true Z5; omega)
           have hx15 : ∀ h : 2 < a0.size, ((a0[2]'h).toNat : Int) = bt a0 2 := bt_at a0 2
           clear p15
           have qi15 : (2 < (a0.size : Int)) = True := eq_true (of_decide_eq_true Z5)
           replace q15 := eq_true q15
           go_wp2_with (first | ((with_reducible refine gate_dst (N := 113) rfl ?_); refine Pre.build_event 113 34 [(0, Go.Operand.const (Go.Value.int Go.IntKind.i64 2)), (1, Go.Operand.tmp 103), (8, Go.Operand.tmp 105), (6, Go.Operand.tmp 107), (7, Go.Operand.tmp 109), (9, Go.Operand.tmp 110), (10, Go.Operand.tmp 112)] rfl rfl rfl (roadbookref12_Parse.bd113 _ _ _ _ _ _ _) ?_))
           go_meet
           case rel => exact ⟨_, (true), Z7, H', ⟨by have := eZ.out; first | omega | exact Nat.le_refl _⟩, ⟨Z0⟩⟩
         ·rw [if_neg dR] at H
          exact absurd H Z36
        case rest =>
         clear fZ
         try clear c1
         try clear p1
         try clear q1
         try clear hx1
         try clear qi1
         try clear c2
         try clear cV
         try clear dj
         try clear p2
         try clear c3
         try clear bY
         try clear cE
         try clear c5
         try clear cY
         try clear eR
         try clear p6
         try clear q6
         try clear hx6
         try clear qi6
         try clear c7
         try clear dn
         try clear p8
         try clear q8
         try clear hx8
         try clear qi8
         try clear c9
         try clear cR
         try clear dl
         try clear dV
         try clear p11
         try clear q11
         try clear hx11
         try clear qi11
         try clear dm
         try clear dE
         try clear dF
         try clear p11
         try clear p2
         try clear p6
         try clear p8
         try clear q11
         try clear q6
         try clear q8
         obtain ⟨kq, ea, rfl, HA, eg, HB⟩ := hcut
         cases kq with
         | zero => exact absurd HA.out (by simp [roadbookref12_Parse.j1])
         | succ kj12 =>
          have H := HA.out
          clear HA
          simp only [roadbookref12_Parse.j1] at H
          by_cases hj : ea = true
          ·subst hj
           have H1 : (some (([] : List (S34)), 2, 5)) = some (r1, r2, r3) := by rw [if_pos rfl] at H; exact H
           clear H
           have H := H1
           clear H1
           simp only [Option.some.injEq, Prod.mk.injEq] at H
           obtain ⟨rfl, rfl, rfl⟩ := H
           go_wp2_with (first | ((with_reducible refine gate_dst (N := 113) rfl ?_); refine Pre.build_event 113 34 [(0, Go.Operand.const (Go.Value.int Go.IntKind.i64 2)), (1, Go.Operand.tmp 103), (8, Go.Operand.tmp 105), (6, Go.Operand.tmp 107), (7, Go.Operand.tmp 109), (9, Go.Operand.tmp 110), (10, Go.Operand.tmp 112)] rfl rfl rfl (roadbookref12_Parse.bd113 _ _ _ _ _ _ _) ?_))
           go_ret3
           exact ⟨_, Z2, Z11, Z0⟩
          ·replace hj := Bool.eq_false_iff.mpr hj
           subst hj
           have H1 : (if (Int.tmod (wrap64 ((a0.size : Int) - 4)) 20) = 0 then ((roadbookref12_none.f).bind fun aM => (roadbookref12_Parse.l0 kj12 a0 ([] : List (S34)) aM 4)) else (some (([] : List (S34)), (a0.size : Int), 2))) = some (r1, r2, r3) := by rw [if_neg (show ¬ (false = true) by decide)] at H; exact H
           clear H
           have H := H1
           clear H1
           by_cases fv : (Int.tmod (wrap64 ((a0.size : Int) - 4)) 20) = 0
           ·rw [if_pos fv] at H
            have ff : ((Int.tmod (wrap64 ((a0.size : Int) - 4)) 20) == 0) = true := beq_iff_eq.mpr fv
            have fg : ((Int.tmod (wrap64 ((a0.size : Int) - 4)) 20) != 0) = false := bne_eq_false_iff_eq.mpr fv
            clear fv
            replace H := Option.bind_eq_some_iff.mp H
            obtain ⟨aM, hH, H⟩ := H
            replace H : (roadbookref12_Parse.l0 kj12 a0 ([] : List (S34)) aM 4) = some (r1, r2, r3) := H
            have db := Aside0.mk hH
            clear hH
            have H' := Aside0.mk H
            clear H
            go_wp2_with (first | ((with_reducible refine gate_dst (N := 113) rfl ?_); refine Pre.build_event 113 34 [(0, Go.Operand.const (Go.Value.int Go.IntKind.i64 2)), (1, Go.Operand.tmp 103), (8, Go.Operand.tmp 105), (6, Go.Operand.tmp 107), (7, Go.Operand.tmp 109), (9, Go.Operand.tmp 110), (10, Go.Operand.tmp 112)] rfl rfl rfl (roadbookref12_Parse.bd113 _ _ _ _ _ _ _) ?_) | ((with_reducible refine gate_callee (f := 21) rfl ?_); refine goesL_ (some 50) rfl rfl Try.func21 Z16 rfl #[] rfl Z4 ?_; (with_reducible refine (roadbookref12_none.calls  aM _ db.out).mono ?_); rintro e w22 ⟨rfl, hb⟩; refine ⟨_, rfl, ?_⟩; replace HB := Aside0.mk (below_step Z0 hb); clear hb))
            go_loopg [5, 6, 7] kj12 (fun kq v5 v6 v7 w' => ∃ (cF : List (S34)) (dp : ByteArray) (aR : Int), v6 = .string dp ∧ v7 = .int .i64 aR ∧ Aside0 (roadbookref12_Parse.l0 kq a0 cF dp aR = some (r1, r2, r3)) ∧ Aside0 (kq ≤ kj12) ∧ Aside0 (Kd.S k34 34 w' w.heap.size (fun _ => True) v5 cF) ∧ Aside0 (Below w.heap.size w w'))
            case atStart => exact ⟨(([] : List (S34))), (aM), (4), Z7, Z7, H', ⟨Nat.le_refl _⟩, ⟨Z11⟩, ⟨Z0⟩⟩
            case round =>
             clear H'
             try clear c1
             try clear p1
             try clear q1
             try clear hx1
             try clear qi1
             try clear c2
             try clear cV
             try clear dj
             try clear p2
             try clear c3
             try clear bY
             try clear cE
             try clear c5
             try clear cY
             try clear eR
             try clear p6
             try clear q6
             try clear hx6
             try clear qi6
             try clear c7
             try clear dn
             try clear p8
             try clear q8
             try clear hx8
             try clear qi8
             try clear c9
             try clear cR
             try clear dl
             try clear dV
             try clear p11
             try clear q11
             try clear hx11
             try clear qi11
             try clear dm
             try clear dE
             try clear dF
             try clear dR
             try clear dW
             try clear fa
             try clear p15
             try clear q15
             try clear hx15
             try clear qi15
             try clear dX
             try clear eK
             try clear eL
             try clear eE
             try clear eF
             try clear eG
             try clear p18
             try clear q18
             try clear hx18
             try clear qi18
             try clear hj
             try clear fv
             try clear ff
             try clear fg
             try clear dc
             try clear p1
             try clear p11
             try clear p15
             try clear p18
             try clear p2
             try clear p6
             try clear p8
             try clear q1
             try clear q11
             try clear q15
             try clear q18
             try clear q6
             try clear q8
             obtain ⟨cF, dp, aR, rfl, rfl, HA, HK3, HO_5, HB⟩ := hrel
             cases gk with
             | zero => exact absurd HA.out (by simp [roadbookref12_Parse.l0])
             | succ k3 =>
              have H := HA.out
              clear HA
              simp only [roadbookref12_Parse.l0] at H
              by_cases eV : aR < (a0.size : Int)
              ·rw [if_pos eV] at H
               have fA : decide (aR < (a0.size : Int)) = true := decide_eq_true eV
               clear eV
               by_cases cT : 0 ≤ aR
               ·rw [if_pos cT] at H
                have hJ := eq_true cT
                have hL : decide (0 ≤ aR) = true := decide_eq_true cT
                clear cT
                by_cases eO : aR ≤ (wrap64 (aR + 20))
                ·rw [if_pos eO] at H
                 have dJ := eq_true eO
                 have hM : decide (aR ≤ (wrap64 (aR + 20))) = true := decide_eq_true eO
                 by_cases hN : (wrap64 (aR + 20)) ≤ (a0.size : Int)
                 ·rw [if_pos hN] at H
                  have hO := eq_true hN
                  have hP : decide ((wrap64 (aR + 20)) ≤ (a0.size : Int)) = true := decide_eq_true hN
                  replace H := Option.bind_eq_some_iff.mp H
                  obtain ⟨⟨aI, aN, aJ, cK, cI, bJ, fh⟩, hQ, H⟩ := H
                  replace H : (if bJ = 255 then (if aN = 0 then (roadbookref12_Parse.j3 k3 a0 cF aR (aI != 0) aI aN aJ cK cI bJ) else (roadbookref12_Parse.j3 k3 a0 cF aR true aI aN aJ cK cI bJ)) else ((roadbookref04_Right.f k3 aJ aI).bind fun eU => (if eU = true then (if bJ < 1 then (some (([] : List (S34)), aR, 6)) else (if bJ > 16 then (some (([] : List (S34)), aR, 6)) else (if 0 < (a0.size : Int) then (if cF.length < 488671834567 then (roadbookref12_Parse.l0 k3 a0 (cF ++ [(⟨2, wrap64 (bt a0 0), 0, (⟨#[]⟩ : ByteArray), 0, 0, aJ, aI, aN, dp, bJ, (⟨#[]⟩ : ByteArray), 0, 0, 0, 0, 0, 0, 0, (⟨#[]⟩ : ByteArray), (⟨#[]⟩ : ByteArray), ([] : List (S66)), 0, (⟨#[]⟩ : ByteArray), ([] : List (S68))⟩ : S34)]) dp (wrap64 (aR + 20))) else (none)) else (none)))) else (some (([] : List (S34)), aR, 7))))) = some (r1, r2, r3) := H
                  have hR := Aside0.mk hQ
                  clear hQ
                  by_cases fB : bJ = 255
                  ·rw [if_pos fB] at H
                   have fC : (bJ == 255) = true := beq_iff_eq.mpr fB
                   have fD : (bJ != 255) = false := bne_eq_false_iff_eq.mpr fB
                   clear fB
                   have ga := Aside0.mk H
                   clear H
                   go_upto_region 20 with (first | ((with_reducible refine gate_dst (N := 113) rfl ?_); refine Pre.build_event 113 34 [(0, Go.Operand.const (Go.Value.int Go.IntKind.i64 2)), (1, Go.Operand.tmp 103), (8, Go.Operand.tmp 105), (6, Go.Operand.tmp 107), (7, Go.Operand.tmp 109), (9, Go.Operand.tmp 110), (10, Go.Operand.tmp 112)] rfl rfl rfl (roadbookref12_Parse.bd113 _ _ _ _ _ _ _) ?_) | ((with_reducible refine gate_callee (f := 22) rfl ?_); refine goesL_ (some 63) rfl rfl Try.func22 Z16 rfl #[.string (a0.extract (aR : Int).toNat ((wrap64 (aR + 20)) : Int).toNat)] rfl Z4 ?_; (with_reducible refine (roadbookref11_Get.calls k3 (a0.extract (aR : Int).toNat ((wrap64 (aR + 20)) : Int).toNat) aI aN aJ cK cI bJ fh _ hR.out).mono ?_); rintro e w30 ⟨rfl, hb⟩; refine ⟨_, rfl, ?_⟩; replace HO_5 := Aside0.mk (Kd.S_below Z12 hb); replace HB := Aside0.mk (below_step Z0 hb); clear hb) | ((with_reducible refine gate_dst (N := 8) rfl ?_); refine Sq.box 8 #[.int .i64 0, .int .i64 0, .string ⟨#[]⟩, .string ⟨#[]⟩, .string ⟨#[]⟩, .int .i64 0] 47 ?_; intro aQ hg eW hbox hb; have aH := Aside0.mk (hbox); have eP := Aside0.mk (Sq.ge hg Z0); have eh := Aside0.mk (Sq.ge hg Z0); replace HO_5 := Aside0.mk (Kd.S_below Z12 hb); replace HB := Aside0.mk (below_step Z0 hb); clear hb hbox hg; have hS := cells_6 aH.out))
                   (try simp only [Act.put, Sq.s1, Sq.s2, Sq.s3])
                   go_cut [76] (fun jT wc => ∃ (kq : Nat) (eb : Bool), jT = .bool eb ∧ Aside0 (roadbookref12_Parse.j3 kq a0 cF aR eb aI aN aJ cK cI bJ = some (r1, r2, r3)) ∧ Aside0 (kq ≤ k3) ∧ Aside0 (Kd.S k34 34 wc w.heap.size (fun _ => True) u5 cF) ∧ Aside0 (wc.heap[aQ]? = some (.cells #[.int .i64 aI, .int .i64 aN, .string aJ, .string cK, .string cI, .int .i64 bJ] 47 (0, 0))) ∧ Aside0 (Below w.heap.size w wc))
                   case first =>
                    have H := ga.out
                    clear ga
                    by_cases gb : aN = 0
                    ·rw [if_pos gb] at H
                     have ei : (aN == 0) = true := beq_iff_eq.mpr gb
                     have hT : (aN != 0) = false := bne_eq_false_iff_eq.mpr gb
                     clear gb
                     (first | rw [ei] | (simp only [i64_w, i32_w]; rw [ei]) | skip)
                     have H' := Aside0.mk H
                     clear H
                     have hcz34_0 : eW.cell? ⟨aQ, 0, none⟩ = some (.int .i64 0) := (blk_cell aH.out 0).trans rfl
                     have hcz34_1 : eW.cell? ⟨aQ, 1, none⟩ = some (.int .i64 0) := (blk_cell aH.out 1).trans rfl
                     have hcz34_2 : eW.cell? ⟨aQ, 2, none⟩ = some (.string ⟨#[]⟩) := (blk_cell aH.out 2).trans rfl
                     have hcz34_3 : eW.cell? ⟨aQ, 3, none⟩ = some (.string ⟨#[]⟩) := (blk_cell aH.out 3).trans rfl
                     have hcz34_4 : eW.cell? ⟨aQ, 4, none⟩ = some (.string ⟨#[]⟩) := (blk_cell aH.out 4).trans rfl
                     have hcz34_5 : eW.cell? ⟨aQ, 5, none⟩ = some (.int .i64 0) := (blk_cell aH.out 5).trans rfl
                     have hfz34_0 := blk_frozen aH.out 0
                     have hfz34_1 := blk_frozen aH.out 1
                     have hfz34_2 := blk_frozen aH.out 2
                     have hfz34_3 := blk_frozen aH.out 3
                     have hfz34_4 := blk_frozen aH.out 4
                     have hfz34_5 := blk_frozen aH.out 5
                     go_wp2_with (first | ((with_reducible refine gate_dst (N := 113) rfl ?_); refine Pre.build_event 113 34 [(0, Go.Operand.const (Go.Value.int Go.IntKind.i64 2)), (1, Go.Operand.tmp 103), (8, Go.Operand.tmp 105), (6, Go.Operand.tmp 107), (7, Go.Operand.tmp 109), (9, Go.Operand.tmp 110), (10, Go.Operand.tmp 112)] rfl rfl rfl (roadbookref12_Parse.bd113 _ _ _ _ _ _ _) ?_))
                     go_meet
                     case rel => exact ⟨_, ((aI != 0)), Z7, H', ⟨by have := eZ.out; have := eg.out; have := HK3.out; first | omega | exact Nat.le_refl _⟩, ⟨Z24⟩, ⟨Z14⟩, ⟨Z8⟩⟩
                    ·rw [if_neg gb] at H
                     have ei : (aN == 0) = false := beq_eq_false_iff_ne.mpr gb
                     have hT : (aN != 0) = true := bne_iff_ne.mpr gb
                     (first | rw [ei] | (simp only [i64_w, i32_w]; rw [ei]) | skip)
                     have H' := Aside0.mk H
                     clear H
                     have hcz35_0 : eW.cell? ⟨aQ, 0, none⟩ = some (.int .i64 0) := (blk_cell aH.out 0).trans rfl
                     have hcz35_1 : eW.cell? ⟨aQ, 1, none⟩ = some (.int .i64 0) := (blk_cell aH.out 1).trans rfl
                     have hcz35_2 : eW.cell? ⟨aQ, 2, none⟩ = some (.string ⟨#[]⟩) := (blk_cell aH.out 2).trans rfl
                     have hcz35_3 : eW.cell? ⟨aQ, 3, none⟩ = some (.string ⟨#[]⟩) := (blk_cell aH.out 3).trans rfl
                     have hcz35_4 : eW.cell? ⟨aQ, 4, none⟩ = some (.string ⟨#[]⟩) := (blk_cell aH.out 4).trans rfl
                     have hcz35_5 : eW.cell? ⟨aQ, 5, none⟩ = some (.int .i64 0) := (blk_cell aH.out 5).trans rfl
                     have hfz35_0 := blk_frozen aH.out 0
                     have hfz35_1 := blk_frozen aH.out 1
                     have hfz35_2 := blk_frozen aH.out 2
                     have hfz35_3 := blk_frozen aH.out 3
                     have hfz35_4 := blk_frozen aH.out 4
                     have hfz35_5 := blk_frozen aH.out 5
                     go_wp2_with (first | ((with_reducible refine gate_dst (N := 113) rfl ?_); refine Pre.build_event 113 34 [(0, Go.Operand.const (Go.Value.int Go.IntKind.i64 2)), (1, Go.Operand.tmp 103), (8, Go.Operand.tmp 105), (6, Go.Operand.tmp 107), (7, Go.Operand.tmp 109), (9, Go.Operand.tmp 110), (10, Go.Operand.tmp 112)] rfl rfl rfl (roadbookref12_Parse.bd113 _ _ _ _ _ _ _) ?_))
                     go_meet
                     case rel => exact ⟨_, (true), Z7, H', ⟨by have := eZ.out; have := eg.out; have := HK3.out; first | omega | exact Nat.le_refl _⟩, ⟨Z24⟩, ⟨Z14⟩, ⟨Z8⟩⟩
                   case rest =>
                    clear ga
                    try clear c1
                    try clear p1
                    try clear q1
                    try clear hx1
                    try clear qi1
                    try clear c2
                    try clear cV
                    try clear dj
                    try clear p2
                    try clear c3
                    try clear bY
                    try clear cE
                    try clear c5
                    try clear cY
                    try clear eR
                    try clear p6
                    try clear q6
                    try clear hx6
                    try clear qi6
                    try clear c7
                    try clear dn
                    try clear p8
                    try clear q8
                    try clear hx8
                    try clear qi8
                    try clear c9
                    try clear cR
                    try clear dl
                    try clear dV
                    try clear p11
                    try clear q11
                    try clear hx11
                    try clear qi11
                    try clear dm
                    try clear dE
                    try clear dF
                    try clear dR
                    try clear dW
                    try clear fa
                    try clear p15
                    try clear q15
                    try clear hx15
                    try clear qi15
                    try clear dX
                    try clear eK
                    try clear eL
                    try clear eE
                    try clear eF
                    try clear eG
                    try clear p18
                    try clear q18
                    try clear hx18
                    try clear qi18
                    try clear hj
                    try clear fv
                    try clear ff
                    try clear fg
                    try clear dc
                    try clear c22
                    try clear eV
                    try clear fA
                    try clear cT
                    try clear hJ
                    try clear hL
                    try clear eO
                    try clear dJ
                    try clear hM
                    try clear hN
                    try clear hO
                    try clear hP
                    try clear fB
                    try clear fC
                    try clear fD
                    try clear hS
                    try clear p1
                    try clear p11
                    try clear p15
                    try clear p18
                    try clear p2
                    try clear p6
                    try clear p8
                    try clear q1
                    try clear q11
                    try clear q15
                    try clear q18
                    try clear q6
                    try clear q8
                    obtain ⟨kq, eb, rfl, HA, fw, HO_5, aH, HB⟩ := hcut
                    cases kq with
                    | zero => exact absurd HA.out (by simp [roadbookref12_Parse.j3])
                    | succ kj28 =>
                     have H := HA.out
                     clear HA
                     simp only [roadbookref12_Parse.j3] at H
                     by_cases eX : eb = true
                     ·subst eX
                      have H1 : (some (([] : List (S34)), aR, 5)) = some (r1, r2, r3) := by rw [if_pos rfl] at H; exact H
                      clear H
                      have H := H1
                      clear H1
                      simp only [Option.some.injEq, Prod.mk.injEq] at H
                      obtain ⟨rfl, rfl, rfl⟩ := H
                      go_wp2_with (first | ((with_reducible refine gate_dst (N := 113) rfl ?_); refine Pre.build_event 113 34 [(0, Go.Operand.const (Go.Value.int Go.IntKind.i64 2)), (1, Go.Operand.tmp 103), (8, Go.Operand.tmp 105), (6, Go.Operand.tmp 107), (7, Go.Operand.tmp 109), (9, Go.Operand.tmp 110), (10, Go.Operand.tmp 112)] rfl rfl rfl (roadbookref12_Parse.bd113 _ _ _ _ _ _ _) ?_))
                      go_ret3
                      exact ⟨_, Z2, Z11, Z8⟩
                     ·replace eX := Bool.eq_false_iff.mpr eX
                      subst eX
                      have H1 : ((roadbookref12_none.f).bind fun dT => ((roadbookref06_Link.f aJ).bind fun ef => (if ef = true then (roadbookref12_Parse.l0 kj28 a0 cF aJ (wrap64 (aR + 20))) else (roadbookref12_Parse.l0 kj28 a0 cF dT (wrap64 (aR + 20)))))) = some (r1, r2, r3) := by rw [if_neg (show ¬ (false = true) by decide)] at H; exact H
                      clear H
                      have H := H1
                      clear H1
                      replace H := Option.bind_eq_some_iff.mp H
                      obtain ⟨dT, hU, H⟩ := H
                      replace H : ((roadbookref06_Link.f aJ).bind fun ef => (if ef = true then (roadbookref12_Parse.l0 kj28 a0 cF aJ (wrap64 (aR + 20))) else (roadbookref12_Parse.l0 kj28 a0 cF dT (wrap64 (aR + 20))))) = some (r1, r2, r3) := H
                      have jz := Aside0.mk hU
                      clear hU
                      replace H := Option.bind_eq_some_iff.mp H
                      obtain ⟨ef, hV, H⟩ := H
                      replace H : (if ef = true then (roadbookref12_Parse.l0 kj28 a0 cF aJ (wrap64 (aR + 20))) else (roadbookref12_Parse.l0 kj28 a0 cF dT (wrap64 (aR + 20)))) = some (r1, r2, r3) := H
                      have jA := Aside0.mk hV
                      clear hV
                      by_cases iF : ef = true
                      ·subst iF
                       have H1 : (roadbookref12_Parse.l0 kj28 a0 cF aJ (wrap64 (aR + 20))) = some (r1, r2, r3) := by rw [if_pos rfl] at H; exact H
                       clear H
                       have H := H1
                       clear H1
                       have H' := Aside0.mk H
                       clear H
                       go_wp2_with (first | ((with_reducible refine gate_dst (N := 113) rfl ?_); refine Pre.build_event 113 34 [(0, Go.Operand.const (Go.Value.int Go.IntKind.i64 2)), (1, Go.Operand.tmp 103), (8, Go.Operand.tmp 105), (6, Go.Operand.tmp 107), (7, Go.Operand.tmp 109), (9, Go.Operand.tmp 110), (10, Go.Operand.tmp 112)] rfl rfl rfl (roadbookref12_Parse.bd113 _ _ _ _ _ _ _) ?_) | ((with_reducible refine gate_callee (f := 21) rfl ?_); refine goesL_ (some 78) rfl rfl Try.func21 Z16 rfl #[] rfl Z4 ?_; (with_reducible refine (roadbookref12_none.calls  dT _ jz.out).mono ?_); rintro e jU ⟨rfl, hb⟩; refine ⟨_, rfl, ?_⟩; replace HO_5 := Aside0.mk (Kd.S_below Z12 hb); replace aH := Aside0.mk (blk_below (g := aQ) (o := .cells #[.int .i64 aI, .int .i64 aN, .string aJ, .string cK, .string cI, .int .i64 bJ] 47 (0, 0)) Z37 hb); replace HB := Aside0.mk (below_step Z8 hb); clear hb; have hcz41 := cells_6 aH.out) | ((with_reducible refine gate_callee (f := 23) rfl ?_); refine goesL_ (some 81) rfl rfl Try.func23 Z16 rfl #[.string aJ] rfl Z4 ?_; (with_reducible refine (roadbookref06_Link.calls aJ true _ jA.out).mono ?_); rintro e w' ⟨rfl, ⟨nd, rfl⟩⟩; refine ⟨_, rfl, ?_⟩))
                       go_roundg kj28
                       case measure => have := eZ.out; have := eg.out; have := HK3.out; have := fw.out; omega
                       case rel => exact ⟨(cF), (aJ), (wrap64 (aR + 20)), Z7, Z7, H', ⟨by have := eZ.out; have := eg.out; have := HK3.out; have := fw.out; omega⟩, ⟨Z12⟩, ⟨Z8⟩⟩
                      ·replace iF := Bool.eq_false_iff.mpr iF
                       subst iF
                       have H1 : (roadbookref12_Parse.l0 kj28 a0 cF dT (wrap64 (aR + 20))) = some (r1, r2, r3) := by rw [if_neg (show ¬ (false = true) by decide)] at H; exact H
                       clear H
                       have H := H1
                       clear H1
                       have H' := Aside0.mk H
                       clear H
                       go_wp2_with (first | ((with_reducible refine gate_dst (N := 113) rfl ?_); refine Pre.build_event 113 34 [(0, Go.Operand.const (Go.Value.int Go.IntKind.i64 2)), (1, Go.Operand.tmp 103), (8, Go.Operand.tmp 105), (6, Go.Operand.tmp 107), (7, Go.Operand.tmp 109), (9, Go.Operand.tmp 110), (10, Go.Operand.tmp 112)] rfl rfl rfl (roadbookref12_Parse.bd113 _ _ _ _ _ _ _) ?_) | ((with_reducible refine gate_callee (f := 21) rfl ?_); refine goesL_ (some 78) rfl rfl Try.func21 Z16 rfl #[] rfl Z4 ?_; (with_reducible refine (roadbookref12_none.calls  dT _ jz.out).mono ?_); rintro e w42 ⟨rfl, hb⟩; refine ⟨_, rfl, ?_⟩; replace HO_5 := Aside0.mk (Kd.S_below Z12 hb); replace aH := Aside0.mk (blk_below (g := aQ) (o := .cells #[.int .i64 aI, .int .i64 aN, .string aJ, .string cK, .string cI, .int .i64 bJ] 47 (0, 0)) Z37 hb); replace HB := Aside0.mk (below_step Z8 hb); clear hb; have hcz43 := cells_6 aH.out) | ((with_reducible refine gate_callee (f := 23) rfl ?_); refine goesL_ (some 81) rfl rfl Try.func23 Z16 rfl #[.string aJ] rfl Z4 ?_; (with_reducible refine (roadbookref06_Link.calls aJ false _ jA.out).mono ?_); rintro e w' ⟨rfl, ⟨nd, rfl⟩⟩; refine ⟨_, rfl, ?_⟩))
                       go_roundg kj28
                       case measure => have := eZ.out; have := eg.out; have := HK3.out; have := fw.out; omega
                       case rel => exact ⟨(cF), (dT), (wrap64 (aR + 20)), Z7, Z7, H', ⟨by have := eZ.out; have := eg.out; have := HK3.out; have := fw.out; omega⟩, ⟨Z12⟩, ⟨Z8⟩⟩
                  ·rw [if_neg fB] at H
                   have fC : (bJ == 255) = false := beq_eq_false_iff_ne.mpr fB
                   have fD : (bJ != 255) = true := bne_iff_ne.mpr fB
                   replace H := Option.bind_eq_some_iff.mp H
                   obtain ⟨eU, hX, H⟩ := H
                   replace H : (if eU = true then (if bJ < 1 then (some (([] : List (S34)), aR, 6)) else (if bJ > 16 then (some (([] : List (S34)), aR, 6)) else (if 0 < (a0.size : Int) then (if cF.length < 488671834567 then (roadbookref12_Parse.l0 k3 a0 (cF ++ [(⟨2, wrap64 (bt a0 0), 0, (⟨#[]⟩ : ByteArray), 0, 0, aJ, aI, aN, dp, bJ, (⟨#[]⟩ : ByteArray), 0, 0, 0, 0, 0, 0, 0, (⟨#[]⟩ : ByteArray), (⟨#[]⟩ : ByteArray), ([] : List (S66)), 0, (⟨#[]⟩ : ByteArray), ([] : List (S68))⟩ : S34)]) dp (wrap64 (aR + 20))) else (none)) else (none)))) else (some (([] : List (S34)), aR, 7))) = some (r1, r2, r3) := H
                   have iG := Aside0.mk hX
                   clear hX
                   by_cases iH : eU = true
                   ·subst iH
                    have H1 : (if bJ < 1 then (some (([] : List (S34)), aR, 6)) else (if bJ > 16 then (some (([] : List (S34)), aR, 6)) else (if 0 < (a0.size : Int) then (if cF.length < 488671834567 then (roadbookref12_Parse.l0 k3 a0 (cF ++ [(⟨2, wrap64 (bt a0 0), 0, (⟨#[]⟩ : ByteArray), 0, 0, aJ, aI, aN, dp, bJ, (⟨#[]⟩ : ByteArray), 0, 0, 0, 0, 0, 0, 0, (⟨#[]⟩ : ByteArray), (⟨#[]⟩ : ByteArray), ([] : List (S66)), 0, (⟨#[]⟩ : ByteArray), ([] : List (S68))⟩ : S34)]) dp (wrap64 (aR + 20))) else (none)) else (none)))) = some (r1, r2, r3) := by rw [if_pos rfl] at H; exact H
                    clear H
                    have H := H1
                    clear H1
                    by_cases gc : bJ < 1
                    ·rw [if_pos gc] at H
                     have hY : decide (bJ < 1) = true := decide_eq_true gc
                     clear gc
                     simp only [Option.some.injEq, Prod.mk.injEq] at H
                     obtain ⟨rfl, rfl, rfl⟩ := H
                     go_wp2_with (first | ((with_reducible refine gate_dst (N := 113) rfl ?_); refine Pre.build_event 113 34 [(0, Go.Operand.const (Go.Value.int Go.IntKind.i64 2)), (1, Go.Operand.tmp 103), (8, Go.Operand.tmp 105), (6, Go.Operand.tmp 107), (7, Go.Operand.tmp 109), (9, Go.Operand.tmp 110), (10, Go.Operand.tmp 112)] rfl rfl rfl (roadbookref12_Parse.bd113 _ _ _ _ _ _ _) ?_) | ((with_reducible refine gate_callee (f := 22) rfl ?_); refine goesL_ (some 63) rfl rfl Try.func22 Z16 rfl #[.string (a0.extract (aR : Int).toNat ((wrap64 (aR + 20)) : Int).toNat)] rfl Z4 ?_; (with_reducible refine (roadbookref11_Get.calls k3 (a0.extract (aR : Int).toNat ((wrap64 (aR + 20)) : Int).toNat) aI aN aJ cK cI bJ fh _ hR.out).mono ?_); rintro e w47 ⟨rfl, hb⟩; refine ⟨_, rfl, ?_⟩; replace HO_5 := Aside0.mk (Kd.S_below Z12 hb); replace HB := Aside0.mk (below_step Z0 hb); clear hb) | ((with_reducible refine gate_dst (N := 8) rfl ?_); refine Sq.box 8 #[.int .i64 0, .int .i64 0, .string ⟨#[]⟩, .string ⟨#[]⟩, .string ⟨#[]⟩, .int .i64 0] 47 ?_; intro aQ hg w48 hbox hb; have aH := Aside0.mk (hbox); have eP := Aside0.mk (Sq.ge hg Z0); have eh := Aside0.mk (Sq.ge hg Z0); replace HO_5 := Aside0.mk (Kd.S_below Z12 hb); replace HB := Aside0.mk (below_step Z0 hb); clear hb hbox hg; have hcz49 := cells_6 aH.out) | ((with_reducible refine gate_callee (f := 24) rfl ?_); refine goesL_ (some 88) rfl rfl Try.func24 Z16 rfl #[.string aJ, .int .i64 aI] rfl Z4 ?_; (with_reducible refine (roadbookref04_Right.calls k3 aJ aI true _ iG.out).mono ?_); rintro e w50 ⟨rfl, hb⟩; refine ⟨_, rfl, ?_⟩; replace HO_5 := Aside0.mk (Kd.S_below Z9 hb); replace aH := Aside0.mk (blk_below (g := aQ) (o := .cells #[.int .i64 aI, .int .i64 aN, .string aJ, .string cK, .string cI, .int .i64 bJ] 47 (0, 0)) Z14 hb); replace HB := Aside0.mk (below_step Z8 hb); clear hb; (try clear hk); have hcz51 := cells_6 aH.out))
                     go_ret3
                     exact ⟨_, Z2, Z11, Z8⟩
                    ·rw [if_neg gc] at H
                     have hY : decide (bJ < 1) = false := decide_eq_false gc
                     clear gc
                     by_cases hl : bJ > 16
                     ·rw [if_pos hl] at H
                      have hZ : decide (16 < bJ) = true := decide_eq_true hl
                      clear hl
                      simp only [Option.some.injEq, Prod.mk.injEq] at H
                      obtain ⟨rfl, rfl, rfl⟩ := H
                      go_wp2_with (first | ((with_reducible refine gate_dst (N := 113) rfl ?_); refine Pre.build_event 113 34 [(0, Go.Operand.const (Go.Value.int Go.IntKind.i64 2)), (1, Go.Operand.tmp 103), (8, Go.Operand.tmp 105), (6, Go.Operand.tmp 107), (7, Go.Operand.tmp 109), (9, Go.Operand.tmp 110), (10, Go.Operand.tmp 112)] rfl rfl rfl (roadbookref12_Parse.bd113 _ _ _ _ _ _ _) ?_) | ((with_reducible refine gate_callee (f := 22) rfl ?_); refine goesL_ (some 63) rfl rfl Try.func22 Z16 rfl #[.string (a0.extract (aR : Int).toNat ((wrap64 (aR + 20)) : Int).toNat)] rfl Z4 ?_; (with_reducible refine (roadbookref11_Get.calls k3 (a0.extract (aR : Int).toNat ((wrap64 (aR + 20)) : Int).toNat) aI aN aJ cK cI bJ fh _ hR.out).mono ?_); rintro e w53 ⟨rfl, hb⟩; refine ⟨_, rfl, ?_⟩; replace HO_5 := Aside0.mk (Kd.S_below Z12 hb); replace HB := Aside0.mk (below_step Z0 hb); clear hb) | ((with_reducible refine gate_dst (N := 8) rfl ?_); refine Sq.box 8 #[.int .i64 0, .int .i64 0, .string ⟨#[]⟩, .string ⟨#[]⟩, .string ⟨#[]⟩, .int .i64 0] 47 ?_; intro aQ hg w54 hbox hb; have aH := Aside0.mk (hbox); have eP := Aside0.mk (Sq.ge hg Z0); have eh := Aside0.mk (Sq.ge hg Z0); replace HO_5 := Aside0.mk (Kd.S_below Z12 hb); replace HB := Aside0.mk (below_step Z0 hb); clear hb hbox hg; have hcz55 := cells_6 aH.out) | ((with_reducible refine gate_callee (f := 24) rfl ?_); refine goesL_ (some 88) rfl rfl Try.func24 Z16 rfl #[.string aJ, .int .i64 aI] rfl Z4 ?_; (with_reducible refine (roadbookref04_Right.calls k3 aJ aI true _ iG.out).mono ?_); rintro e w56 ⟨rfl, hb⟩; refine ⟨_, rfl, ?_⟩; replace HO_5 := Aside0.mk (Kd.S_below Z9 hb); replace aH := Aside0.mk (blk_below (g := aQ) (o := .cells #[.int .i64 aI, .int .i64 aN, .string aJ, .string cK, .string cI, .int .i64 bJ] 47 (0, 0)) Z14 hb); replace HB := Aside0.mk (below_step Z8 hb); clear hb; (try clear hk); have hcz57 := cells_6 aH.out))
                      go_ret3
                      exact ⟨_, Z2, Z11, Z8⟩
                     ·rw [if_neg hl] at H
                      have hZ : decide (16 < bJ) = false := decide_eq_false hl
                      clear hl
                      by_cases iI : 0 < (a0.size : Int)
                      ·rw [if_pos iI] at H
                       have c58b0 : decide (0 < (a0.size : Int)) = true := decide_eq_true iI
                       have c58b1 : decide (0 < a0.size) = true := decide_eq_true Z25
                       clear iI
                       by_cases iJ : cF.length < 488671834567
                       ·rw [if_pos iJ] at H
                        have LMc60 := Aside0.mk iJ
                        clear iJ
                        obtain ⟨ia, hy113⟩ : ∃ y_ : List (S34), y_ = (cF ++ [(⟨2, wrap64 (bt a0 0), 0, (⟨#[]⟩ : ByteArray), 0, 0, aJ, aI, aN, dp, bJ, (⟨#[]⟩ : ByteArray), 0, 0, 0, 0, 0, 0, 0, (⟨#[]⟩ : ByteArray), (⟨#[]⟩ : ByteArray), ([] : List (S66)), 0, (⟨#[]⟩ : ByteArray), ([] : List (S68))⟩ : S34)]) := ⟨_, rfl⟩
                        replace H : (roadbookref12_Parse.l0 k3 a0 ia dp (wrap64 (aR + 20))) = some (r1, r2, r3) := by first | (rw [hy113]; with_reducible exact H) | (have H2_ := (Option.bind_some _ _).symm.trans H; rw [hy113]; with_reducible exact H2_) | (have H2_ := (Option.bind_some _ _).symm.trans H; with_reducible exact H2_) | with_reducible exact H | (rw [hy113]; exact H) | exact H
                        have Ny113 := Aside0.mk hy113
                        clear hy113
                        have H' := Aside0.mk H
                        clear H
                        try go_wp2_with (first | ((with_reducible refine gate_dst (N := 113) rfl ?_); refine Pre.build_event 113 34 [(0, Go.Operand.const (Go.Value.int Go.IntKind.i64 2)), (1, Go.Operand.tmp 103), (8, Go.Operand.tmp 105), (6, Go.Operand.tmp 107), (7, Go.Operand.tmp 109), (9, Go.Operand.tmp 110), (10, Go.Operand.tmp 112)] rfl rfl rfl (roadbookref12_Parse.bd113 _ _ _ _ _ _ _) ?_) | ((with_reducible refine gate_callee (f := 22) rfl ?_); refine goesL_ (some 63) rfl rfl Try.func22 Z16 rfl #[.string (a0.extract (aR : Int).toNat ((wrap64 (aR + 20)) : Int).toNat)] rfl Z4 ?_; (with_reducible refine (roadbookref11_Get.calls k3 (a0.extract (aR : Int).toNat ((wrap64 (aR + 20)) : Int).toNat) aI aN aJ cK cI bJ fh _ hR.out).mono ?_); rintro e w61 ⟨rfl, hb⟩; refine ⟨_, rfl, ?_⟩; replace HO_5 := Aside0.mk (Kd.S_below Z12 hb); replace HB := Aside0.mk (below_step Z0 hb); clear hb) | ((with_reducible refine gate_dst (N := 8) rfl ?_); refine Sq.box 8 #[.int .i64 0, .int .i64 0, .string ⟨#[]⟩, .string ⟨#[]⟩, .string ⟨#[]⟩, .int .i64 0] 47 ?_; intro aQ hg w62 hbox hb; have aH := Aside0.mk (hbox); have eP := Aside0.mk (Sq.ge hg Z0); have eh := Aside0.mk (Sq.ge hg Z0); replace HO_5 := Aside0.mk (Kd.S_below Z12 hb); replace HB := Aside0.mk (below_step Z0 hb); clear hb hbox hg; have hcz63 := cells_6 aH.out) | ((with_reducible refine gate_callee (f := 24) rfl ?_); refine goesL_ (some 88) rfl rfl Try.func24 Z16 rfl #[.string aJ, .int .i64 aI] rfl Z4 ?_; (with_reducible refine (roadbookref04_Right.calls k3 aJ aI true _ iG.out).mono ?_); rintro e jV ⟨rfl, hb⟩; refine ⟨_, rfl, ?_⟩; replace HO_5 := Aside0.mk (Kd.S_below Z9 hb); replace aH := Aside0.mk (blk_below (g := aQ) (o := .cells #[.int .i64 aI, .int .i64 aN, .string aJ, .string cK, .string cI, .int .i64 bJ] 47 (0, 0)) Z14 hb); replace HB := Aside0.mk (below_step Z8 hb); clear hb; (try clear hk); have hcz65 := cells_6 aH.out))
                        have cQ := Aside0.mk (Kd.S_drew HO_5.out)
                        have de := Aside0.mk (blk_drew aH.out)
                        have eH := Aside0.mk (below_drew1 HB.out)
                        clear HO_5
                        clear aH
                        clear HB
                        have HO_5 := cQ
                        have aH := de
                        have HB := eH
                        clear cQ de eH
                        have p59 : 0 ≤ (0 : Int) := Z25
                        have q59 : 0 < a0.size := (by have : (0 : Int) < (a0.size : Int) := of_decide_eq_true Z5; omega)
                        have hx59 : ∀ h : 0 < a0.size, ((a0[0]'h).toNat : Int) = bt a0 0 := bt_at a0 0
                        clear p59
                        have qi59 : (0 < (a0.size : Int)) = True := eq_true (of_decide_eq_true Z5)
                        replace q59 := eq_true q59
                        refine start_ (n := 17) (S := fun w' => w'.cell? ⟨aQ, 0, none⟩ = some (.int .i64 aI) ∧ w'.cell? ⟨aQ, 1, none⟩ = some (.int .i64 aN) ∧ w'.cell? ⟨aQ, 2, none⟩ = some (.string aJ) ∧ w'.cell? ⟨aQ, 3, none⟩ = some (.string cK) ∧ w'.cell? ⟨aQ, 4, none⟩ = some (.string cI) ∧ w'.cell? ⟨aQ, 5, none⟩ = some (.int .i64 bJ)) (ds := []) (Sq.b 17 0) Z16 rfl rfl ⟨Sq.bc aH 0, Sq.bc aH 1, Sq.bc aH 2, Sq.bc aH 3, Sq.bc aH 4, Sq.bc aH 5⟩ (fun hHeld => ?_); refine with_tabW roadbookref12_Parse.tab29 roadbookref12_Parse.bits29 (fun HT_ HW_ => ?_)
                        generalize jV.drew = w66 at HO_5 aH HB hHeld ⊢
                        refine Sq.pur 0 (some 100) (Sq.b 17 1) HT_.out ?_
                        refine Sq.pur 1 (some 101) (Sq.b 17 3) HT_.out ?_
                        refine Sq.pur 4 (some 104) (Sq.b 17 19) HT_.out ?_
                        refine Sq.pur 6 (some 106) (Sq.b 17 83) HT_.out ?_
                        refine Sq.pur 8 (some 108) (Sq.b 17 339) HT_.out ?_
                        refine Sq.pur 10 (some 110) (Sq.b 17 1363) HT_.out ?_
                        refine Sq.pur 11 (some 111) (Sq.b 17 3411) HT_.out ?_
                        refine Sq.tak 2 (some 102) (Sq.b 17 3415) HT_.out HW_.out hHeld (v := ?_) (a' := ?_) ?_ ?_ ?_
                        rotate_left
                        ·rintro w' ⟨s0, s1, s2, s3, s4, s5⟩
                         go_simp
                         with_reducible rfl
                        rotate_left
                        ·simp only [Act.put, Sq.s1, Sq.s2, Sq.s3, i64_w, i32_w]
                         rfl
                        refine Sq.pur 3 (some 103) (Sq.b 17 3423) HT_.out ?_
                        refine Sq.tak 5 (some 105) (Sq.b 17 3455) HT_.out HW_.out hHeld (v := ?_) (a' := ?_) ?_ ?_ ?_
                        rotate_left
                        ·rintro w' ⟨s0, s1, s2, s3, s4, s5⟩
                         go_simp
                         with_reducible rfl
                        rotate_left
                        ·simp only [Act.put, Sq.s1, Sq.s2, Sq.s3, i64_w, i32_w]
                         rfl
                        refine Sq.tak 7 (some 107) (Sq.b 17 3583) HT_.out HW_.out hHeld (v := ?_) (a' := ?_) ?_ ?_ ?_
                        rotate_left
                        ·rintro w' ⟨s0, s1, s2, s3, s4, s5⟩
                         go_simp
                         with_reducible rfl
                        rotate_left
                        ·simp only [Act.put, Sq.s1, Sq.s2, Sq.s3, i64_w, i32_w]
                         rfl
                        refine Sq.tak 9 (some 109) (Sq.b 17 4095) HT_.out HW_.out hHeld (v := ?_) (a' := ?_) ?_ ?_ ?_
                        rotate_left
                        ·rintro w' ⟨s0, s1, s2, s3, s4, s5⟩
                         go_simp
                         with_reducible rfl
                        rotate_left
                        ·simp only [Act.put, Sq.s1, Sq.s2, Sq.s3, i64_w, i32_w]
                         rfl
                        refine Sq.tak 12 (some 112) (Sq.b 17 8191) HT_.out HW_.out hHeld (v := ?_) (a' := ?_) ?_ ?_ ?_
                        rotate_left
                        ·rintro w' ⟨s0, s1, s2, s3, s4, s5⟩
                         go_simp
                         with_reducible rfl
                        rotate_left
                        ·simp only [Act.put, Sq.s1, Sq.s2, Sq.s3, i64_w, i32_w]
                         rfl
                        refine pure_ (i := 13) (N := some 113) (v := ?_) (a' := ?_) (Sq.b 17 16383) rfl rfl (any_of HT_.out Z16) (fun _ _ _ h => h) (Or.inl ⟨Z27, ?_⟩) ?_ ?_
                        rotate_left
                        ·intro w'
                         refine Eq.trans (Pre.build_run 34 [(0, Go.Operand.const (Go.Value.int Go.IntKind.i64 2)), (1, Go.Operand.tmp 103), (8, Go.Operand.tmp 105), (6, Go.Operand.tmp 107), (7, Go.Operand.tmp 109), (9, Go.Operand.tmp 110), (10, Go.Operand.tmp 112)] rfl (roadbookref12_Parse.bd113 _ _ _ _ _ _ _)) ?_
                         with_reducible rfl
                        rotate_left
                        ·simp only [Act.put, Sq.s1, Sq.s2, Sq.s3, i64_w, i32_w]
                         rfl
                        refine one_ (i := 14) (N := some 114) (Sq.b 17 32767) rfl rfl (one_of HT_.out Z16) Z18 (fun K hK => ?_)
                        refine value_ (w1 := ?_) (v := ?_) Z27 rfl ?_ ?_
                        rotate_left 2
                        ·go_simp
                         constructor
                         ·rfl
                         ·rfl
                        refine hK.out _ _ ⟨(blk_cell (blk_alloc aH.out _) 0).trans rfl, (blk_cell (blk_alloc aH.out _) 1).trans rfl, (blk_cell (blk_alloc aH.out _) 2).trans rfl, (blk_cell (blk_alloc aH.out _) 3).trans rfl, (blk_cell (blk_alloc aH.out _) 4).trans rfl, (blk_cell (blk_alloc aH.out _) 5).trans rfl⟩ (fun hHeld => ?_)
                        clear hK K
                        refine norm_ (a' := ?_) ?_ ?_
                        rotate_left
                        ·show Act.put _ (some 114) _ = _
                         simp only [Act.put, Sq.s1, Sq.s2, Sq.s3, i64_w, i32_w]
                         rfl
                        refine one_ (i := 15) (N := some 115) (Sq.b 17 65535) rfl rfl (one_of HT_.out Z16) Z18 (fun K hK => ?_)
                        refine Kd.S_append_step k34 (w0 := w) w.heap.size Z27 (.tmp 100) (.tmp 114) 23 34 (.agg #[(.int .i64 0), (.int .i64 0), (.int .i64 0), (.string ⟨#[]⟩), (.int .i64 0), (.int .i64 0), (.string ⟨#[]⟩), (.int .i64 0), (.int .i64 0), (.string ⟨#[]⟩), (.int .i64 0), (.string ⟨#[]⟩), (.int .i64 0), (.int .i64 0), (.int .i64 0), (.int .i64 0), (.int .i64 0), (.int .i64 0), (.int .i64 0), (.string ⟨#[]⟩), (.string ⟨#[]⟩), (.slice none 0 0), (.int .i64 0), (.string ⟨#[]⟩), (.slice none 0 0)]) 288 rfl Try.underlying23 info34 rfl Z18 Z25 u5 cF (⟨2, wrap64 (bt a0 0), 0, (⟨#[]⟩ : ByteArray), 0, 0, aJ, aI, aN, dp, bJ, (⟨#[]⟩ : ByteArray), 0, 0, 0, 0, 0, 0, 0, (⟨#[]⟩ : ByteArray), (⟨#[]⟩ : ByteArray), ([] : List (S66)), 0, (⟨#[]⟩ : ByteArray), ([] : List (S68))⟩ : S34) [.int .i64 2, .int .i64 (wrap64 (bt a0 0)), .int .i64 0, .string ⟨#[]⟩, .int .i64 0, .int .i64 0, .string aJ, .int .i64 aI, .int .i64 aN, .string dp, .int .i64 bJ, .string ⟨#[]⟩, .int .i64 0, .int .i64 0, .int .i64 0, .int .i64 0, .int .i64 0, .int .i64 0, .int .i64 0, .string ⟨#[]⟩, .string ⟨#[]⟩, .slice none 0 0, .int .i64 0, .string ⟨#[]⟩, .slice none 0 0] (fun _ => True) (fun _ => False) rfl rfl ?aP (fun k_ hk_ => hk_.elim) ?aF ?aO ?aB ?aS ?aL ?_
                        (case aP => exact k34_mkM _ _ _ (⟨2, wrap64 (bt a0 0), 0, (⟨#[]⟩ : ByteArray), 0, 0, aJ, aI, aN, dp, bJ, (⟨#[]⟩ : ByteArray), 0, 0, 0, 0, 0, 0, 0, (⟨#[]⟩ : ByteArray), (⟨#[]⟩ : ByteArray), ([] : List (S66)), 0, (⟨#[]⟩ : ByteArray), ([] : List (S68))⟩ : S34) (Kd.R_nil _ _ _ _ _) (Kd.R_nil _ _ _ _ _))
                        (case aB => exact Z8)
                        (case aF => exact (fun _ _ => trivial))
                        (case aO => exact (by (with_reducible repeat (first | apply Kd.S_alloc | apply Kd.S_drewN | apply Kd.S_drew)); exact Kd.S_mono HO_5.out (fun k_ hk => ⟨trivial, fun e_ => e_⟩)))
                        (case aS => exact (below_size Z8))
                        (case aL => have := LMc60.out; omega)
                        intro v114 w67 ho hb hg hat
                        rw [← Ny113.out] at ho
                        have cQ := Aside0.mk (blk_grown (g := aQ) (o := .cells #[.int .i64 aI, .int .i64 aN, .string aJ, .string cK, .string cI, .int .i64 bJ] 47 (0, 0)) Z37 hg (Kd.S_ne HO_5.out aH.out Z18))
                        have de := Aside0.mk (hb)
                        have eH := Aside0.mk (ho)
                        clear aH
                        clear HB
                        clear HO_5
                        have aH := cQ
                        have HB := de
                        have ib := eH
                        clear cQ de eH
                        clear ho hb hg hat
                        refine hK.out _ _ ⟨Sq.bc aH 0, Sq.bc aH 1, Sq.bc aH 2, Sq.bc aH 3, Sq.bc aH 4, Sq.bc aH 5⟩ (fun hHeld => ?_)
                        clear hK K
                        refine norm_ (a' := ?_) ?_ ?_
                        rotate_left
                        ·show Act.put _ (some 115) _ = _
                         simp only [Act.put, Sq.s1, Sq.s2, Sq.s3, i64_w, i32_w]
                         rfl
                        refine Sq.pur 16 (some 5) (Sq.b 17 131071) HT_.out ?_
                        refine done_ (done_of HT_.out Z16) ?_
                        try go_wp2_with (first | ((with_reducible refine gate_dst (N := 113) rfl ?_); refine Pre.build_event 113 34 [(0, Go.Operand.const (Go.Value.int Go.IntKind.i64 2)), (1, Go.Operand.tmp 103), (8, Go.Operand.tmp 105), (6, Go.Operand.tmp 107), (7, Go.Operand.tmp 109), (9, Go.Operand.tmp 110), (10, Go.Operand.tmp 112)] rfl rfl rfl (roadbookref12_Parse.bd113 _ _ _ _ _ _ _) ?_))
                        go_roundg k3
                        case measure => have := eZ.out; have := eg.out; have := HK3.out; omega
                        case rel => exact ⟨(ia), (dp), (wrap64 (aR + 20)), Z7, Z7, H', ⟨by have := eZ.out; have := eg.out; have := HK3.out; omega⟩, ⟨by (with_reducible repeat (first | apply Kd.S_alloc | apply Kd.S_drewN | apply Kd.S_drew)); exact ib.out⟩, ⟨Z8⟩⟩
                       ·rw [if_neg iJ] at H
                        exact absurd H Z36
                      ·rw [if_neg iI] at H
                       exact absurd H Z36
                   ·replace iH := Bool.eq_false_iff.mpr iH
                    subst iH
                    have H1 : (some (([] : List (S34)), aR, 7)) = some (r1, r2, r3) := by rw [if_neg (show ¬ (false = true) by decide)] at H; exact H
                    clear H
                    have H := H1
                    clear H1
                    simp only [Option.some.injEq, Prod.mk.injEq] at H
                    obtain ⟨rfl, rfl, rfl⟩ := H
                    go_wp2_with (first | ((with_reducible refine gate_dst (N := 113) rfl ?_); refine Pre.build_event 113 34 [(0, Go.Operand.const (Go.Value.int Go.IntKind.i64 2)), (1, Go.Operand.tmp 103), (8, Go.Operand.tmp 105), (6, Go.Operand.tmp 107), (7, Go.Operand.tmp 109), (9, Go.Operand.tmp 110), (10, Go.Operand.tmp 112)] rfl rfl rfl (roadbookref12_Parse.bd113 _ _ _ _ _ _ _) ?_) | ((with_reducible refine gate_callee (f := 22) rfl ?_); refine goesL_ (some 63) rfl rfl Try.func22 Z16 rfl #[.string (a0.extract (aR : Int).toNat ((wrap64 (aR + 20)) : Int).toNat)] rfl Z4 ?_; (with_reducible refine (roadbookref11_Get.calls k3 (a0.extract (aR : Int).toNat ((wrap64 (aR + 20)) : Int).toNat) aI aN aJ cK cI bJ fh _ hR.out).mono ?_); rintro e w68 ⟨rfl, hb⟩; refine ⟨_, rfl, ?_⟩; replace HO_5 := Aside0.mk (Kd.S_below Z12 hb); replace HB := Aside0.mk (below_step Z0 hb); clear hb) | ((with_reducible refine gate_dst (N := 8) rfl ?_); refine Sq.box 8 #[.int .i64 0, .int .i64 0, .string ⟨#[]⟩, .string ⟨#[]⟩, .string ⟨#[]⟩, .int .i64 0] 47 ?_; intro aQ hg w69 hbox hb; have aH := Aside0.mk (hbox); have eP := Aside0.mk (Sq.ge hg Z0); have eh := Aside0.mk (Sq.ge hg Z0); replace HO_5 := Aside0.mk (Kd.S_below Z12 hb); replace HB := Aside0.mk (below_step Z0 hb); clear hb hbox hg; have hcz70 := cells_6 aH.out) | ((with_reducible refine gate_callee (f := 24) rfl ?_); refine goesL_ (some 88) rfl rfl Try.func24 Z16 rfl #[.string aJ, .int .i64 aI] rfl Z4 ?_; (with_reducible refine (roadbookref04_Right.calls k3 aJ aI false _ iG.out).mono ?_); rintro e w71 ⟨rfl, hb⟩; refine ⟨_, rfl, ?_⟩; replace HO_5 := Aside0.mk (Kd.S_below Z9 hb); replace aH := Aside0.mk (blk_below (g := aQ) (o := .cells #[.int .i64 aI, .int .i64 aN, .string aJ, .string cK, .string cI, .int .i64 bJ] 47 (0, 0)) Z14 hb); replace HB := Aside0.mk (below_step Z8 hb); clear hb; (try clear hk)))
                    go_ret3
                    exact ⟨_, Z2, Z11, Z8⟩
                 ·rw [if_neg hN] at H
                  exact absurd H Z36
                ·rw [if_neg eO] at H
                 exact absurd H Z36
               ·rw [if_neg cT] at H
                exact absurd H Z36
              ·rw [if_neg eV] at H
               have fA : decide (aR < (a0.size : Int)) = false := decide_eq_false eV
               clear eV
               by_cases fE : (cF.length : Int) = 0
               ·rw [if_pos fE] at H
                have ic : ((cF.length : Int) == 0) = true := beq_iff_eq.mpr fE
                have ie : ((cF.length : Int) != 0) = false := bne_eq_false_iff_eq.mpr fE
                clear fE
                simp only [Option.some.injEq, Prod.mk.injEq] at H
                obtain ⟨rfl, rfl, rfl⟩ := H
                obtain ⟨Ao73, co73, eo73⟩ := Kd.S_slice HO_5.out
                subst eo73
                go_wp2_with (first | ((with_reducible refine gate_dst (N := 113) rfl ?_); refine Pre.build_event 113 34 [(0, Go.Operand.const (Go.Value.int Go.IntKind.i64 2)), (1, Go.Operand.tmp 103), (8, Go.Operand.tmp 105), (6, Go.Operand.tmp 107), (7, Go.Operand.tmp 109), (9, Go.Operand.tmp 110), (10, Go.Operand.tmp 112)] rfl rfl rfl (roadbookref12_Parse.bd113 _ _ _ _ _ _ _) ?_))
                go_ret3
                exact ⟨_, Z2, Z11, Z0⟩
               ·rw [if_neg fE] at H
                have ic : ((cF.length : Int) == 0) = false := beq_eq_false_iff_ne.mpr fE
                have ie : ((cF.length : Int) != 0) = true := bne_iff_ne.mpr fE
                have c72b2 : ¬ (cF = []) := fun h_ => fE (by rw [h_]; rfl)
                simp only [Option.some.injEq, Prod.mk.injEq] at H
                obtain ⟨rfl, rfl, rfl⟩ := H
                obtain ⟨Ao74, co74, eo74⟩ := Kd.S_slice HO_5.out
                subst eo74
                go_wp2_with (first | ((with_reducible refine gate_dst (N := 113) rfl ?_); refine Pre.build_event 113 34 [(0, Go.Operand.const (Go.Value.int Go.IntKind.i64 2)), (1, Go.Operand.tmp 103), (8, Go.Operand.tmp 105), (6, Go.Operand.tmp 107), (7, Go.Operand.tmp 109), (9, Go.Operand.tmp 110), (10, Go.Operand.tmp 112)] rfl rfl rfl (roadbookref12_Parse.bd113 _ _ _ _ _ _ _) ?_))
                go_ret3
                exact ⟨_, Z2, Z12, Z0⟩
           ·rw [if_neg fv] at H
            have ff : ((Int.tmod (wrap64 ((a0.size : Int) - 4)) 20) == 0) = false := beq_eq_false_iff_ne.mpr fv
            have fg : ((Int.tmod (wrap64 ((a0.size : Int) - 4)) 20) != 0) = true := bne_iff_ne.mpr fv
            simp only [Option.some.injEq, Prod.mk.injEq] at H
            obtain ⟨rfl, rfl, rfl⟩ := H
            go_wp2_with (first | ((with_reducible refine gate_dst (N := 113) rfl ?_); refine Pre.build_event 113 34 [(0, Go.Operand.const (Go.Value.int Go.IntKind.i64 2)), (1, Go.Operand.tmp 103), (8, Go.Operand.tmp 105), (6, Go.Operand.tmp 107), (7, Go.Operand.tmp 109), (9, Go.Operand.tmp 110), (10, Go.Operand.tmp 112)] rfl rfl rfl (roadbookref12_Parse.bd113 _ _ _ _ _ _ _) ?_))
            go_ret3
            exact ⟨_, Z2, Z11, Z0⟩
       ·rw [if_neg dm] at H
        have dE : ((bt a0 1) == 1) = false := beq_eq_false_iff_ne.mpr dm
        have dF : ((bt a0 1) != 1) = true := bne_iff_ne.mpr dm
        simp only [Option.some.injEq, Prod.mk.injEq] at H
        obtain ⟨rfl, rfl, rfl⟩ := H
        have p11 : 0 ≤ (1 : Int) := Z25
        have q11 : 1 < a0.size := (by have : (1 : Int) < (a0.size : Int) := of_decide_eq_true Z5; omega)
        have hx11 : ∀ h : 1 < a0.size, ((a0[1]'h).toNat : Int) = bt a0 1 := bt_at a0 1
        clear p11
        have qi11 : (1 < (a0.size : Int)) = True := eq_true (of_decide_eq_true Z5)
        replace q11 := eq_true q11
        go_wp2_with (first | ((with_reducible refine gate_dst (N := 113) rfl ?_); refine Pre.build_event 113 34 [(0, Go.Operand.const (Go.Value.int Go.IntKind.i64 2)), (1, Go.Operand.tmp 103), (8, Go.Operand.tmp 105), (6, Go.Operand.tmp 107), (7, Go.Operand.tmp 109), (9, Go.Operand.tmp 110), (10, Go.Operand.tmp 112)] rfl rfl rfl (roadbookref12_Parse.bd113 _ _ _ _ _ _ _) ?_))
        go_ret3
        exact ⟨_, Z2, Z11, Z0⟩
      ·rw [if_neg cR] at H
       exact absurd H Z36

end Go.Proofs.Ytnifhgackjkkbaa.PN
