-- Written by mp.py, a program of this work (wip/tools), out of the translation; Lean checks it.
import Derived.Test.YtnifhgackjkkbaaPNxZ
import Derived.Test.YtnifhgackjkkbaaPNxroadbookref07Same
import Derived.Test.YtnifhgackjkkbaaLoad
namespace Go.Proofs.Ytnifhgackjkkbaa.PN
open Go.RowKit Go.Proofs.YtnifhgackjkkbaaW.PrintWords Go.Proofs.YtnifhgackjkkbaaW.PrintLast Go.Proofs.YtnifhgackjkkbaaW.PrintMore
attribute [local go_sem] max2_int min2_int max_two min_two max_three min_three max_four min_four   -- for this text's walks alone
set_option linter.unusedVariables false
set_option linter.unusedSimpArgs false

/-! ### roadbookref07_SameAll: function 10 -/
def roadbookref07_SameAll.l0 : Nat → List (S34) → List (S34) → Int → Option (Bool)
 | 0, _, _, _ => none
 | k + 1, x0, x1, x5 => if x5 < (x0.length : Int) then (if 0 ≤ x5 then (if x5 < (x1.length : Int) then ((roadbookref07_Same.f k ((rd_T34 x0 x5).f0) ((rd_T34 x0 x5).f1) ((rd_T34 x0 x5).f2) ((rd_T34 x0 x5).f3) ((rd_T34 x0 x5).f4) ((rd_T34 x0 x5).f5) ((rd_T34 x0 x5).f6) ((rd_T34 x0 x5).f7) ((rd_T34 x0 x5).f8) ((rd_T34 x0 x5).f9) ((rd_T34 x0 x5).f10) ((rd_T34 x0 x5).f11) ((rd_T34 x0 x5).f12) ((rd_T34 x0 x5).f13) ((rd_T34 x0 x5).f14) ((rd_T34 x0 x5).f15) ((rd_T34 x0 x5).f16) ((rd_T34 x0 x5).f17) ((rd_T34 x0 x5).f18) ((rd_T34 x0 x5).f19) ((rd_T34 x0 x5).f20) ((rd_T34 x0 x5).f21) ((rd_T34 x0 x5).f22) ((rd_T34 x0 x5).f23) ((rd_T34 x0 x5).f24) ((rd_T34 x1 x5).f0) ((rd_T34 x1 x5).f1) ((rd_T34 x1 x5).f2) ((rd_T34 x1 x5).f3) ((rd_T34 x1 x5).f4) ((rd_T34 x1 x5).f5) ((rd_T34 x1 x5).f6) ((rd_T34 x1 x5).f7) ((rd_T34 x1 x5).f8) ((rd_T34 x1 x5).f9) ((rd_T34 x1 x5).f10) ((rd_T34 x1 x5).f11) ((rd_T34 x1 x5).f12) ((rd_T34 x1 x5).f13) ((rd_T34 x1 x5).f14) ((rd_T34 x1 x5).f15) ((rd_T34 x1 x5).f16) ((rd_T34 x1 x5).f17) ((rd_T34 x1 x5).f18) ((rd_T34 x1 x5).f19) ((rd_T34 x1 x5).f20) ((rd_T34 x1 x5).f21) ((rd_T34 x1 x5).f22) ((rd_T34 x1 x5).f23) ((rd_T34 x1 x5).f24)).bind fun aN => (if aN = true then (roadbookref07_SameAll.l0 k x0 x1 (wrap64 (x5 + 1))) else (some false))) else (none)) else (none)) else (some true)
def roadbookref07_SameAll.f (k : Nat) (l0 : List (S34)) (l1 : List (S34)) : Option (Bool) := if (l0.length : Int) = (l1.length : Int) then (roadbookref07_SameAll.l0 k l0 l1 0) else (some false)
theorem roadbookref07_SameAll.mono_l : ∀ k, (∀ y0 y1 y2, LeO (roadbookref07_SameAll.l0 k y0 y1 y2) (roadbookref07_SameAll.l0 (k + 1) y0 y1 y2))
 | 0 => Sq.mz
 | k + 1 => by
  have ih0 := roadbookref07_SameAll.mono_l k
  ·intros
   unfold roadbookref07_SameAll.l0
   have m0 := roadbookref07_Same.mono
   exact Sq.mo
theorem roadbookref07_SameAll.mono : ∀ a0 a1 k, LeO (roadbookref07_SameAll.f k a0 a1) (roadbookref07_SameAll.f (k + 1) a0 a1) := by
 intro a0 a1 k
 have ih0 := roadbookref07_SameAll.mono_l k
 unfold roadbookref07_SameAll.f
 have m0 := roadbookref07_Same.mono
 exact Sq.mo
def roadbookref07_SameAll.T6 : Bool × List (List Nat × List Nat) := (true, [([], []), ([], []), ([0, 1], [0, 1]), ([2], [2]), ([], []), ([], []), ([4, 5], [4, 5]), ([6], [6]), ([3, 7], [3, 7]), ([8], [8])])
def roadbookref07_SameAll.B6 : List Nat := [0, 0, 3, 7, 0, 0, 48, 112, 255, 511]
theorem roadbookref07_SameAll.tab6 : rtab .any (opsOf Try.f10 6) = roadbookref07_SameAll.T6 := by kernel_rfl
theorem roadbookref07_SameAll.bits6 : waitsOk roadbookref07_SameAll.T6.2 roadbookref07_SameAll.B6 = true := by kernel_rfl

set_option maxHeartbeats 8000000 in
set_option maxRecDepth 100000 in
theorem roadbookref07_SameAll.calls (k : Nat) (A0 : Option Addr) (c0 : Nat) (l0 : List (S34)) (A1 : Option Addr) (c1 : Nat) (l1 : List (S34)) (r : Bool) (w : World) (fO : Kd.C k34 w A0 l0.length l0) (dY : l0.length ≤ c0) (fP : Kd.C k34 w A1 l1.length l1) (fQ : l1.length ≤ c1) (h : roadbookref07_SameAll.f k l0 l1 = some r) :
  Calls Try.prog 10 #[.slice A0 l0.length c0, .slice A1 l1.length c1] w fun e w' => e = .returned (.bool r) ∧ Below w.heap.size w w' := by
 have fu := Try.underlying34
 have fR := Aside0.mk fO
 have jD := Aside0.mk dY
 clear fO dY
 have fS := Aside0.mk fP
 have jE := Aside0.mk fQ
 clear fP fQ
 have HB := Aside0.mk (Below.refl w.heap.size w)
 have H : (if (l0.length : Int) = (l1.length : Int) then (roadbookref07_SameAll.l0 k l0 l1 0) else (some false)) = some r := h
 clear h
 by_cases c3 : (l0.length : Int) = (l1.length : Int)
 ·rw [if_pos c3] at H
  have bY : ((l0.length : Int) == (l1.length : Int)) = true := beq_iff_eq.mpr c3
  have cE : ((l0.length : Int) != (l1.length : Int)) = false := bne_eq_false_iff_eq.mpr c3
  have dU : (l0.length == l1.length) = true := by first | simpa using c3 | (simp at c3 ⊢; omega)
  clear c3
  have H' := Aside0.mk H
  clear H
  go_enter Try.func10, Try.ntmps10
  go_wp2_with (first | ((with_reducible refine Pre.gate_load 34 rfl ?_); (try (refine gate_guard Z27 ?_; dsimp only)); refine Pre.load_event_a rfl rfl rfl Z27 Pre.range25 Try.underlying34 rfl Z16 ?_))
  go_loopg [5] k (fun kq v5 w' => ∃ (aa : Int), v5 = .int .i64 aa ∧ Aside0 (roadbookref07_SameAll.l0 kq l0 l1 aa = some r) ∧ Aside0 (kq ≤ k) ∧ Aside0 (Below w.heap.size w w'))
  case atStart => exact ⟨(0), Z7, H', ⟨Nat.le_refl _⟩, ⟨Z0⟩⟩
  case round =>
   clear H'
   try clear c1
   try clear p2
   try clear c3
   try clear bY
   try clear cE
   try clear dU
   obtain ⟨aa, rfl, HA, HK1, HB⟩ := hrel
   cases gk with
   | zero => exact absurd HA.out (by simp [roadbookref07_SameAll.l0])
   | succ k1 =>
    have H := HA.out
    clear HA
    simp only [roadbookref07_SameAll.l0] at H
    by_cases c4 : aa < (l0.length : Int)
    ·rw [if_pos c4] at H
     have cG : decide (aa < (l0.length : Int)) = true := decide_eq_true c4
     clear c4
     by_cases c5 : 0 ≤ aa
     ·rw [if_pos c5] at H
      have cY : decide (0 ≤ aa) = true := decide_eq_true c5
      clear c5
      by_cases c6 : aa < (l1.length : Int)
      ·rw [if_pos c6] at H
       have fc : decide (aa < (l1.length : Int)) = true := decide_eq_true c6
       clear c6
       replace H := Option.bind_eq_some_iff.mp H
       obtain ⟨aN, fy, H⟩ := H
       replace H : (if aN = true then (roadbookref07_SameAll.l0 k1 l0 l1 (wrap64 (aa + 1))) else (some false)) = some r := H
       have A7 := Aside0.mk fy
       clear fy
       by_cases c8 : aN = true
       ·subst c8
        replace H := Sq.itT H
        have H' := Aside0.mk H
        clear H
        try go_wp2_with (first | ((with_reducible refine Pre.gate_load 34 rfl ?_); (try (refine gate_guard Z27 ?_; dsimp only)); refine Pre.load_event_a rfl rfl rfl Z27 Pre.range25 Try.underlying34 rfl Z16 ?_))
        have cQ := Aside0.mk (below_drew1 HB.out)
        clear HB
        have HB := cQ
        clear cQ
        have p101 : 0 ≤ (aa : Int) := of_decide_eq_true Z5
        have q101 : aa < (l0.length : Int) := of_decide_eq_true Z5
        obtain ⟨ad101, dr, dt, du, dv, e101, hx101_0, hx101_1, hx101_2, hx101_3, hx101_4, hx101_5, hx101_6, hx101_7, hx101_8, hx101_9, hx101_10, hx101_11, hx101_12, hx101_13, hx101_14, hx101_15, hx101_16, hx101_17, hx101_18, hx101_19, hx101_20, hx101_21, hx101_22, hx101_23, hx101_24, hl101_21, hi101_21, hl101_24, hi101_24⟩ := at_T34 fR.out aa p101 q101
        have hw101_24 := hx101_24
        have hw101_23 := hx101_23
        have hw101_22 := hx101_22
        have hw101_21 := hx101_21
        have hw101_20 := hx101_20
        have hw101_19 := hx101_19
        have hw101_18 := hx101_18
        have hw101_17 := hx101_17
        have hw101_16 := hx101_16
        have hw101_15 := hx101_15
        have hw101_14 := hx101_14
        have hw101_13 := hx101_13
        have hw101_12 := hx101_12
        have hw101_11 := hx101_11
        have hw101_10 := hx101_10
        have hw101_9 := hx101_9
        have hw101_8 := hx101_8
        have hw101_7 := hx101_7
        have hw101_6 := hx101_6
        have hw101_5 := hx101_5
        have hw101_4 := hx101_4
        have hw101_3 := hx101_3
        have hw101_2 := hx101_2
        have hw101_1 := hx101_1
        have hw101_0 := hx101_0
        cases e101
        replace hx101_0 := Sq.up HB.out hx101_0
        replace hx101_1 := Sq.up HB.out hx101_1
        replace hx101_2 := Sq.up HB.out hx101_2
        replace hx101_3 := Sq.up HB.out hx101_3
        replace hx101_4 := Sq.up HB.out hx101_4
        replace hx101_5 := Sq.up HB.out hx101_5
        replace hx101_6 := Sq.up HB.out hx101_6
        replace hx101_7 := Sq.up HB.out hx101_7
        replace hx101_8 := Sq.up HB.out hx101_8
        replace hx101_9 := Sq.up HB.out hx101_9
        replace hx101_10 := Sq.up HB.out hx101_10
        replace hx101_11 := Sq.up HB.out hx101_11
        replace hx101_12 := Sq.up HB.out hx101_12
        replace hx101_13 := Sq.up HB.out hx101_13
        replace hx101_14 := Sq.up HB.out hx101_14
        replace hx101_15 := Sq.up HB.out hx101_15
        replace hx101_16 := Sq.up HB.out hx101_16
        replace hx101_17 := Sq.up HB.out hx101_17
        replace hx101_18 := Sq.up HB.out hx101_18
        replace hx101_19 := Sq.up HB.out hx101_19
        replace hx101_20 := Sq.up HB.out hx101_20
        replace hx101_21 := Sq.up HB.out hx101_21
        replace hx101_22 := Sq.up HB.out hx101_22
        replace hx101_23 := Sq.up HB.out hx101_23
        replace hx101_24 := Sq.up HB.out hx101_24
        have dw := Aside0.mk hi101_21
        have dM := Aside0.mk hl101_21
        clear hi101_21 hl101_21
        have dx := Aside0.mk hi101_24
        have dN := Aside0.mk hl101_24
        clear hi101_24 hl101_24
        replace p101 := eq_true p101
        replace q101 := eq_true q101
        have p102 : 0 ≤ (aa : Int) := of_decide_eq_true Z5
        have q102 : aa < (l1.length : Int) := of_decide_eq_true Z5
        obtain ⟨ad102, dy, dz, dA, dB, e102, hx102_0, hx102_1, hx102_2, hx102_3, hx102_4, hx102_5, hx102_6, hx102_7, hx102_8, hx102_9, hx102_10, hx102_11, hx102_12, hx102_13, hx102_14, hx102_15, hx102_16, hx102_17, hx102_18, hx102_19, hx102_20, hx102_21, hx102_22, hx102_23, hx102_24, hl102_21, hi102_21, hl102_24, hi102_24⟩ := at_T34 fS.out aa p102 q102
        have hw102_24 := hx102_24
        have hw102_23 := hx102_23
        have hw102_22 := hx102_22
        have hw102_21 := hx102_21
        have hw102_20 := hx102_20
        have hw102_19 := hx102_19
        have hw102_18 := hx102_18
        have hw102_17 := hx102_17
        have hw102_16 := hx102_16
        have hw102_15 := hx102_15
        have hw102_14 := hx102_14
        have hw102_13 := hx102_13
        have hw102_12 := hx102_12
        have hw102_11 := hx102_11
        have hw102_10 := hx102_10
        have hw102_9 := hx102_9
        have hw102_8 := hx102_8
        have hw102_7 := hx102_7
        have hw102_6 := hx102_6
        have hw102_5 := hx102_5
        have hw102_4 := hx102_4
        have hw102_3 := hx102_3
        have hw102_2 := hx102_2
        have hw102_1 := hx102_1
        have hw102_0 := hx102_0
        cases e102
        replace hx102_0 := Sq.up HB.out hx102_0
        replace hx102_1 := Sq.up HB.out hx102_1
        replace hx102_2 := Sq.up HB.out hx102_2
        replace hx102_3 := Sq.up HB.out hx102_3
        replace hx102_4 := Sq.up HB.out hx102_4
        replace hx102_5 := Sq.up HB.out hx102_5
        replace hx102_6 := Sq.up HB.out hx102_6
        replace hx102_7 := Sq.up HB.out hx102_7
        replace hx102_8 := Sq.up HB.out hx102_8
        replace hx102_9 := Sq.up HB.out hx102_9
        replace hx102_10 := Sq.up HB.out hx102_10
        replace hx102_11 := Sq.up HB.out hx102_11
        replace hx102_12 := Sq.up HB.out hx102_12
        replace hx102_13 := Sq.up HB.out hx102_13
        replace hx102_14 := Sq.up HB.out hx102_14
        replace hx102_15 := Sq.up HB.out hx102_15
        replace hx102_16 := Sq.up HB.out hx102_16
        replace hx102_17 := Sq.up HB.out hx102_17
        replace hx102_18 := Sq.up HB.out hx102_18
        replace hx102_19 := Sq.up HB.out hx102_19
        replace hx102_20 := Sq.up HB.out hx102_20
        replace hx102_21 := Sq.up HB.out hx102_21
        replace hx102_22 := Sq.up HB.out hx102_22
        replace hx102_23 := Sq.up HB.out hx102_23
        replace hx102_24 := Sq.up HB.out hx102_24
        have dC := Aside0.mk hi102_21
        have dO := Aside0.mk hl102_21
        clear hi102_21 hl102_21
        have dD := Aside0.mk hi102_24
        have dP := Aside0.mk hl102_24
        clear hi102_24 hl102_24
        replace p102 := eq_true p102
        replace q102 := eq_true q102
        refine start_ (n := 10) (S := fun w' => w'.cell? (ad101.add ((aa).toNat * 25)) = some (.int .i64 ((rd_T34 l0 aa).f0)) ∧ w'.cell? ⟨(ad101.add ((aa).toNat * 25)).block, (ad101.add ((aa).toNat * 25)).off + 1, none⟩ = some (.int .i64 ((rd_T34 l0 aa).f1)) ∧ w'.cell? ⟨(ad101.add ((aa).toNat * 25)).block, (ad101.add ((aa).toNat * 25)).off + 2, none⟩ = some (.int .i64 ((rd_T34 l0 aa).f2)) ∧ w'.cell? ⟨(ad101.add ((aa).toNat * 25)).block, (ad101.add ((aa).toNat * 25)).off + 3, none⟩ = some (.string ((rd_T34 l0 aa).f3)) ∧ w'.cell? ⟨(ad101.add ((aa).toNat * 25)).block, (ad101.add ((aa).toNat * 25)).off + 4, none⟩ = some (.int .i64 ((rd_T34 l0 aa).f4)) ∧ w'.cell? ⟨(ad101.add ((aa).toNat * 25)).block, (ad101.add ((aa).toNat * 25)).off + 5, none⟩ = some (.int .i64 ((rd_T34 l0 aa).f5)) ∧ w'.cell? ⟨(ad101.add ((aa).toNat * 25)).block, (ad101.add ((aa).toNat * 25)).off + 6, none⟩ = some (.string ((rd_T34 l0 aa).f6)) ∧ w'.cell? ⟨(ad101.add ((aa).toNat * 25)).block, (ad101.add ((aa).toNat * 25)).off + 7, none⟩ = some (.int .i64 ((rd_T34 l0 aa).f7)) ∧ w'.cell? ⟨(ad101.add ((aa).toNat * 25)).block, (ad101.add ((aa).toNat * 25)).off + 8, none⟩ = some (.int .i64 ((rd_T34 l0 aa).f8)) ∧ w'.cell? ⟨(ad101.add ((aa).toNat * 25)).block, (ad101.add ((aa).toNat * 25)).off + 9, none⟩ = some (.string ((rd_T34 l0 aa).f9)) ∧ w'.cell? ⟨(ad101.add ((aa).toNat * 25)).block, (ad101.add ((aa).toNat * 25)).off + 10, none⟩ = some (.int .i64 ((rd_T34 l0 aa).f10)) ∧ w'.cell? ⟨(ad101.add ((aa).toNat * 25)).block, (ad101.add ((aa).toNat * 25)).off + 11, none⟩ = some (.string ((rd_T34 l0 aa).f11)) ∧ w'.cell? ⟨(ad101.add ((aa).toNat * 25)).block, (ad101.add ((aa).toNat * 25)).off + 12, none⟩ = some (.int .i64 ((rd_T34 l0 aa).f12)) ∧ w'.cell? ⟨(ad101.add ((aa).toNat * 25)).block, (ad101.add ((aa).toNat * 25)).off + 13, none⟩ = some (.int .i64 ((rd_T34 l0 aa).f13)) ∧ w'.cell? ⟨(ad101.add ((aa).toNat * 25)).block, (ad101.add ((aa).toNat * 25)).off + 14, none⟩ = some (.int .i64 ((rd_T34 l0 aa).f14)) ∧ w'.cell? ⟨(ad101.add ((aa).toNat * 25)).block, (ad101.add ((aa).toNat * 25)).off + 15, none⟩ = some (.int .i64 ((rd_T34 l0 aa).f15)) ∧ w'.cell? ⟨(ad101.add ((aa).toNat * 25)).block, (ad101.add ((aa).toNat * 25)).off + 16, none⟩ = some (.int .i64 ((rd_T34 l0 aa).f16)) ∧ w'.cell? ⟨(ad101.add ((aa).toNat * 25)).block, (ad101.add ((aa).toNat * 25)).off + 17, none⟩ = some (.int .i64 ((rd_T34 l0 aa).f17)) ∧ w'.cell? ⟨(ad101.add ((aa).toNat * 25)).block, (ad101.add ((aa).toNat * 25)).off + 18, none⟩ = some (.int .i64 ((rd_T34 l0 aa).f18)) ∧ w'.cell? ⟨(ad101.add ((aa).toNat * 25)).block, (ad101.add ((aa).toNat * 25)).off + 19, none⟩ = some (.string ((rd_T34 l0 aa).f19)) ∧ w'.cell? ⟨(ad101.add ((aa).toNat * 25)).block, (ad101.add ((aa).toNat * 25)).off + 20, none⟩ = some (.string ((rd_T34 l0 aa).f20)) ∧ w'.cell? ⟨(ad101.add ((aa).toNat * 25)).block, (ad101.add ((aa).toNat * 25)).off + 21, none⟩ = some (.slice dr ((rd_T34 l0 aa).f21).length dt) ∧ w'.cell? ⟨(ad101.add ((aa).toNat * 25)).block, (ad101.add ((aa).toNat * 25)).off + 22, none⟩ = some (.int .i64 ((rd_T34 l0 aa).f22)) ∧ w'.cell? ⟨(ad101.add ((aa).toNat * 25)).block, (ad101.add ((aa).toNat * 25)).off + 23, none⟩ = some (.string ((rd_T34 l0 aa).f23)) ∧ w'.cell? ⟨(ad101.add ((aa).toNat * 25)).block, (ad101.add ((aa).toNat * 25)).off + 24, none⟩ = some (.slice du ((rd_T34 l0 aa).f24).length dv) ∧ w'.cell? (ad102.add ((aa).toNat * 25)) = some (.int .i64 ((rd_T34 l1 aa).f0)) ∧ w'.cell? ⟨(ad102.add ((aa).toNat * 25)).block, (ad102.add ((aa).toNat * 25)).off + 1, none⟩ = some (.int .i64 ((rd_T34 l1 aa).f1)) ∧ w'.cell? ⟨(ad102.add ((aa).toNat * 25)).block, (ad102.add ((aa).toNat * 25)).off + 2, none⟩ = some (.int .i64 ((rd_T34 l1 aa).f2)) ∧ w'.cell? ⟨(ad102.add ((aa).toNat * 25)).block, (ad102.add ((aa).toNat * 25)).off + 3, none⟩ = some (.string ((rd_T34 l1 aa).f3)) ∧ w'.cell? ⟨(ad102.add ((aa).toNat * 25)).block, (ad102.add ((aa).toNat * 25)).off + 4, none⟩ = some (.int .i64 ((rd_T34 l1 aa).f4)) ∧ w'.cell? ⟨(ad102.add ((aa).toNat * 25)).block, (ad102.add ((aa).toNat * 25)).off + 5, none⟩ = some (.int .i64 ((rd_T34 l1 aa).f5)) ∧ w'.cell? ⟨(ad102.add ((aa).toNat * 25)).block, (ad102.add ((aa).toNat * 25)).off + 6, none⟩ = some (.string ((rd_T34 l1 aa).f6)) ∧ w'.cell? ⟨(ad102.add ((aa).toNat * 25)).block, (ad102.add ((aa).toNat * 25)).off + 7, none⟩ = some (.int .i64 ((rd_T34 l1 aa).f7)) ∧ w'.cell? ⟨(ad102.add ((aa).toNat * 25)).block, (ad102.add ((aa).toNat * 25)).off + 8, none⟩ = some (.int .i64 ((rd_T34 l1 aa).f8)) ∧ w'.cell? ⟨(ad102.add ((aa).toNat * 25)).block, (ad102.add ((aa).toNat * 25)).off + 9, none⟩ = some (.string ((rd_T34 l1 aa).f9)) ∧ w'.cell? ⟨(ad102.add ((aa).toNat * 25)).block, (ad102.add ((aa).toNat * 25)).off + 10, none⟩ = some (.int .i64 ((rd_T34 l1 aa).f10)) ∧ w'.cell? ⟨(ad102.add ((aa).toNat * 25)).block, (ad102.add ((aa).toNat * 25)).off + 11, none⟩ = some (.string ((rd_T34 l1 aa).f11)) ∧ w'.cell? ⟨(ad102.add ((aa).toNat * 25)).block, (ad102.add ((aa).toNat * 25)).off + 12, none⟩ = some (.int .i64 ((rd_T34 l1 aa).f12)) ∧ w'.cell? ⟨(ad102.add ((aa).toNat * 25)).block, (ad102.add ((aa).toNat * 25)).off + 13, none⟩ = some (.int .i64 ((rd_T34 l1 aa).f13)) ∧ w'.cell? ⟨(ad102.add ((aa).toNat * 25)).block, (ad102.add ((aa).toNat * 25)).off + 14, none⟩ = some (.int .i64 ((rd_T34 l1 aa).f14)) ∧ w'.cell? ⟨(ad102.add ((aa).toNat * 25)).block, (ad102.add ((aa).toNat * 25)).off + 15, none⟩ = some (.int .i64 ((rd_T34 l1 aa).f15)) ∧ w'.cell? ⟨(ad102.add ((aa).toNat * 25)).block, (ad102.add ((aa).toNat * 25)).off + 16, none⟩ = some (.int .i64 ((rd_T34 l1 aa).f16)) ∧ w'.cell? ⟨(ad102.add ((aa).toNat * 25)).block, (ad102.add ((aa).toNat * 25)).off + 17, none⟩ = some (.int .i64 ((rd_T34 l1 aa).f17)) ∧ w'.cell? ⟨(ad102.add ((aa).toNat * 25)).block, (ad102.add ((aa).toNat * 25)).off + 18, none⟩ = some (.int .i64 ((rd_T34 l1 aa).f18)) ∧ w'.cell? ⟨(ad102.add ((aa).toNat * 25)).block, (ad102.add ((aa).toNat * 25)).off + 19, none⟩ = some (.string ((rd_T34 l1 aa).f19)) ∧ w'.cell? ⟨(ad102.add ((aa).toNat * 25)).block, (ad102.add ((aa).toNat * 25)).off + 20, none⟩ = some (.string ((rd_T34 l1 aa).f20)) ∧ w'.cell? ⟨(ad102.add ((aa).toNat * 25)).block, (ad102.add ((aa).toNat * 25)).off + 21, none⟩ = some (.slice dy ((rd_T34 l1 aa).f21).length dz) ∧ w'.cell? ⟨(ad102.add ((aa).toNat * 25)).block, (ad102.add ((aa).toNat * 25)).off + 22, none⟩ = some (.int .i64 ((rd_T34 l1 aa).f22)) ∧ w'.cell? ⟨(ad102.add ((aa).toNat * 25)).block, (ad102.add ((aa).toNat * 25)).off + 23, none⟩ = some (.string ((rd_T34 l1 aa).f23)) ∧ w'.cell? ⟨(ad102.add ((aa).toNat * 25)).block, (ad102.add ((aa).toNat * 25)).off + 24, none⟩ = some (.slice dA ((rd_T34 l1 aa).f24).length dB)) (ds := []) (Sq.b 10 0) Z16 rfl rfl ⟨(Sq.up HB.out hw101_0), (Sq.up HB.out hw101_1), (Sq.up HB.out hw101_2), (Sq.up HB.out hw101_3), (Sq.up HB.out hw101_4), (Sq.up HB.out hw101_5), (Sq.up HB.out hw101_6), (Sq.up HB.out hw101_7), (Sq.up HB.out hw101_8), (Sq.up HB.out hw101_9), (Sq.up HB.out hw101_10), (Sq.up HB.out hw101_11), (Sq.up HB.out hw101_12), (Sq.up HB.out hw101_13), (Sq.up HB.out hw101_14), (Sq.up HB.out hw101_15), (Sq.up HB.out hw101_16), (Sq.up HB.out hw101_17), (Sq.up HB.out hw101_18), (Sq.up HB.out hw101_19), (Sq.up HB.out hw101_20), (Sq.up HB.out hw101_21), (Sq.up HB.out hw101_22), (Sq.up HB.out hw101_23), (Sq.up HB.out hw101_24), (Sq.up HB.out hw102_0), (Sq.up HB.out hw102_1), (Sq.up HB.out hw102_2), (Sq.up HB.out hw102_3), (Sq.up HB.out hw102_4), (Sq.up HB.out hw102_5), (Sq.up HB.out hw102_6), (Sq.up HB.out hw102_7), (Sq.up HB.out hw102_8), (Sq.up HB.out hw102_9), (Sq.up HB.out hw102_10), (Sq.up HB.out hw102_11), (Sq.up HB.out hw102_12), (Sq.up HB.out hw102_13), (Sq.up HB.out hw102_14), (Sq.up HB.out hw102_15), (Sq.up HB.out hw102_16), (Sq.up HB.out hw102_17), (Sq.up HB.out hw102_18), (Sq.up HB.out hw102_19), (Sq.up HB.out hw102_20), (Sq.up HB.out hw102_21), (Sq.up HB.out hw102_22), (Sq.up HB.out hw102_23), (Sq.up HB.out hw102_24)⟩ (fun hHeld => ?_); refine with_tabW roadbookref07_SameAll.tab6 roadbookref07_SameAll.bits6 (fun HT_ HW_ => ?_)
        generalize wr.drew = w9 at HB dw dx dC dD hx101_0 hx101_1 hx101_10 hx101_11 hx101_12 hx101_13 hx101_14 hx101_15 hx101_16 hx101_17 hx101_18 hx101_19 hx101_2 hx101_20 hx101_21 hx101_22 hx101_23 hx101_24 hx101_3 hx101_4 hx101_5 hx101_6 hx101_7 hx101_8 hx101_9 hx102_0 hx102_1 hx102_10 hx102_11 hx102_12 hx102_13 hx102_14 hx102_15 hx102_16 hx102_17 hx102_18 hx102_19 hx102_2 hx102_20 hx102_21 hx102_22 hx102_23 hx102_24 hx102_3 hx102_4 hx102_5 hx102_6 hx102_7 hx102_8 hx102_9 hHeld ⊢
        refine Sq.pur 0 (some 17) (Sq.b 10 1) HT_.out ?_
        refine Sq.pur 1 (some 18) (Sq.b 10 3) HT_.out ?_
        refine Sq.pur 2 (some 19) (Sq.b 10 7) HT_.out ?_
        refine Sq.pur 4 (some 21) (Sq.b 10 23) HT_.out ?_
        refine Sq.pur 5 (some 22) (Sq.b 10 55) HT_.out ?_
        refine Sq.pur 6 (some 23) (Sq.b 10 119) HT_.out ?_
        refine Sq.tak 3 (some 20) (Sq.b 10 127) HT_.out HW_.out hHeld (v := ?_) (a' := ?_) ?_ ?_ ?_
        rotate_left
        ·rintro w' ⟨s0, s1, s2, s3, s4, s5, s6, s7, s8, s9, s10, s11, s12, s13, s14, s15, s16, s17, s18, s19, s20, s21, s22, s23, s24, s25, s26, s27, s28, s29, s30, s31, s32, s33, s34, s35, s36, s37, s38, s39, s40, s41, s42, s43, s44, s45, s46, s47, s48, s49⟩
         first | (refine Eq.trans (Pre.load_run (ty := 34) rfl Z27 (by with_reducible assumption) Try.underlying34 rfl Z16) ?_; with_reducible rfl) | (refine Eq.trans (Pre.load_run_a (ty := 34) rfl Z27 Pre.range25 Try.underlying34 rfl Z16) ?_; with_reducible rfl) | (go_simp; with_reducible rfl)
        rotate_left
        ·simp only [Act.put, Sq.s1, Sq.s2, Sq.s3, i64_w, i32_w]
         rfl
        refine Sq.tak 7 (some 24) (Sq.b 10 255) HT_.out HW_.out hHeld (v := ?_) (a' := ?_) ?_ ?_ ?_
        rotate_left
        ·rintro w' ⟨s0, s1, s2, s3, s4, s5, s6, s7, s8, s9, s10, s11, s12, s13, s14, s15, s16, s17, s18, s19, s20, s21, s22, s23, s24, s25, s26, s27, s28, s29, s30, s31, s32, s33, s34, s35, s36, s37, s38, s39, s40, s41, s42, s43, s44, s45, s46, s47, s48, s49⟩
         first | (refine Eq.trans (Pre.load_run (ty := 34) rfl Z27 (by with_reducible assumption) Try.underlying34 rfl Z16) ?_; with_reducible rfl) | (refine Eq.trans (Pre.load_run_a (ty := 34) rfl Z27 Pre.range25 Try.underlying34 rfl Z16) ?_; with_reducible rfl) | (go_simp; with_reducible rfl)
        rotate_left
        ·simp only [Act.put, Sq.s1, Sq.s2, Sq.s3, i64_w, i32_w]
         rfl
        refine one_ (i := 8) (N := some 25) (Sq.b 10 511) rfl rfl (one_of HT_.out Z16) Z18 (fun K hK => ?_)
        refine goes_ Try.func25 Z16 rfl #[.agg #[.int .i64 ((rd_T34 l0 aa).f0), .int .i64 ((rd_T34 l0 aa).f1), .int .i64 ((rd_T34 l0 aa).f2), .string ((rd_T34 l0 aa).f3), .int .i64 ((rd_T34 l0 aa).f4), .int .i64 ((rd_T34 l0 aa).f5), .string ((rd_T34 l0 aa).f6), .int .i64 ((rd_T34 l0 aa).f7), .int .i64 ((rd_T34 l0 aa).f8), .string ((rd_T34 l0 aa).f9), .int .i64 ((rd_T34 l0 aa).f10), .string ((rd_T34 l0 aa).f11), .int .i64 ((rd_T34 l0 aa).f12), .int .i64 ((rd_T34 l0 aa).f13), .int .i64 ((rd_T34 l0 aa).f14), .int .i64 ((rd_T34 l0 aa).f15), .int .i64 ((rd_T34 l0 aa).f16), .int .i64 ((rd_T34 l0 aa).f17), .int .i64 ((rd_T34 l0 aa).f18), .string ((rd_T34 l0 aa).f19), .string ((rd_T34 l0 aa).f20), .slice dr ((rd_T34 l0 aa).f21).length dt, .int .i64 ((rd_T34 l0 aa).f22), .string ((rd_T34 l0 aa).f23), .slice du ((rd_T34 l0 aa).f24).length dv], .agg #[.int .i64 ((rd_T34 l1 aa).f0), .int .i64 ((rd_T34 l1 aa).f1), .int .i64 ((rd_T34 l1 aa).f2), .string ((rd_T34 l1 aa).f3), .int .i64 ((rd_T34 l1 aa).f4), .int .i64 ((rd_T34 l1 aa).f5), .string ((rd_T34 l1 aa).f6), .int .i64 ((rd_T34 l1 aa).f7), .int .i64 ((rd_T34 l1 aa).f8), .string ((rd_T34 l1 aa).f9), .int .i64 ((rd_T34 l1 aa).f10), .string ((rd_T34 l1 aa).f11), .int .i64 ((rd_T34 l1 aa).f12), .int .i64 ((rd_T34 l1 aa).f13), .int .i64 ((rd_T34 l1 aa).f14), .int .i64 ((rd_T34 l1 aa).f15), .int .i64 ((rd_T34 l1 aa).f16), .int .i64 ((rd_T34 l1 aa).f17), .int .i64 ((rd_T34 l1 aa).f18), .string ((rd_T34 l1 aa).f19), .string ((rd_T34 l1 aa).f20), .slice dy ((rd_T34 l1 aa).f21).length dz, .int .i64 ((rd_T34 l1 aa).f22), .string ((rd_T34 l1 aa).f23), .slice dA ((rd_T34 l1 aa).f24).length dB]] Z27 rfl rfl Z4 ?_
        with_reducible refine (roadbookref07_Same.calls k1 ((rd_T34 l0 aa).f0) ((rd_T34 l0 aa).f1) ((rd_T34 l0 aa).f2) ((rd_T34 l0 aa).f3) ((rd_T34 l0 aa).f4) ((rd_T34 l0 aa).f5) ((rd_T34 l0 aa).f6) ((rd_T34 l0 aa).f7) ((rd_T34 l0 aa).f8) ((rd_T34 l0 aa).f9) ((rd_T34 l0 aa).f10) ((rd_T34 l0 aa).f11) ((rd_T34 l0 aa).f12) ((rd_T34 l0 aa).f13) ((rd_T34 l0 aa).f14) ((rd_T34 l0 aa).f15) ((rd_T34 l0 aa).f16) ((rd_T34 l0 aa).f17) ((rd_T34 l0 aa).f18) ((rd_T34 l0 aa).f19) ((rd_T34 l0 aa).f20) _ _ ((rd_T34 l0 aa).f21) ((rd_T34 l0 aa).f22) ((rd_T34 l0 aa).f23) _ _ ((rd_T34 l0 aa).f24) ((rd_T34 l1 aa).f0) ((rd_T34 l1 aa).f1) ((rd_T34 l1 aa).f2) ((rd_T34 l1 aa).f3) ((rd_T34 l1 aa).f4) ((rd_T34 l1 aa).f5) ((rd_T34 l1 aa).f6) ((rd_T34 l1 aa).f7) ((rd_T34 l1 aa).f8) ((rd_T34 l1 aa).f9) ((rd_T34 l1 aa).f10) ((rd_T34 l1 aa).f11) ((rd_T34 l1 aa).f12) ((rd_T34 l1 aa).f13) ((rd_T34 l1 aa).f14) ((rd_T34 l1 aa).f15) ((rd_T34 l1 aa).f16) ((rd_T34 l1 aa).f17) ((rd_T34 l1 aa).f18) ((rd_T34 l1 aa).f19) ((rd_T34 l1 aa).f20) _ _ ((rd_T34 l1 aa).f21) ((rd_T34 l1 aa).f22) ((rd_T34 l1 aa).f23) _ _ ((rd_T34 l1 aa).f24) true _ ?side1 ?side2 ?side3 ?side4 ?side5 ?side6 ?side7 ?side8 A7.out).mono ?_
        (case side1 => exact Z43)
        (case side2 => exact dM.out)
        (case side3 => exact Z42)
        (case side4 => exact dN.out)
        (case side5 => exact Z41)
        (case side6 => exact dO.out)
        (case side7 => exact Z40)
        (case side8 => exact dP.out)
        rintro e jH ⟨rfl, hb⟩
        refine ⟨_, rfl, ?_⟩
        have cQ := Aside0.mk (below_step Z0 hb)
        clear HB
        have HB := cQ
        clear cQ
        (try clear hb)
        (try clear hb2)
        (try clear hk)
        (try clear hi)
        refine hK.out _ _ ⟨(Sq.up HB.out hw101_0), (Sq.up HB.out hw101_1), (Sq.up HB.out hw101_2), (Sq.up HB.out hw101_3), (Sq.up HB.out hw101_4), (Sq.up HB.out hw101_5), (Sq.up HB.out hw101_6), (Sq.up HB.out hw101_7), (Sq.up HB.out hw101_8), (Sq.up HB.out hw101_9), (Sq.up HB.out hw101_10), (Sq.up HB.out hw101_11), (Sq.up HB.out hw101_12), (Sq.up HB.out hw101_13), (Sq.up HB.out hw101_14), (Sq.up HB.out hw101_15), (Sq.up HB.out hw101_16), (Sq.up HB.out hw101_17), (Sq.up HB.out hw101_18), (Sq.up HB.out hw101_19), (Sq.up HB.out hw101_20), (Sq.up HB.out hw101_21), (Sq.up HB.out hw101_22), (Sq.up HB.out hw101_23), (Sq.up HB.out hw101_24), (Sq.up HB.out hw102_0), (Sq.up HB.out hw102_1), (Sq.up HB.out hw102_2), (Sq.up HB.out hw102_3), (Sq.up HB.out hw102_4), (Sq.up HB.out hw102_5), (Sq.up HB.out hw102_6), (Sq.up HB.out hw102_7), (Sq.up HB.out hw102_8), (Sq.up HB.out hw102_9), (Sq.up HB.out hw102_10), (Sq.up HB.out hw102_11), (Sq.up HB.out hw102_12), (Sq.up HB.out hw102_13), (Sq.up HB.out hw102_14), (Sq.up HB.out hw102_15), (Sq.up HB.out hw102_16), (Sq.up HB.out hw102_17), (Sq.up HB.out hw102_18), (Sq.up HB.out hw102_19), (Sq.up HB.out hw102_20), (Sq.up HB.out hw102_21), (Sq.up HB.out hw102_22), (Sq.up HB.out hw102_23), (Sq.up HB.out hw102_24)⟩ (fun hHeld => ?_)
        clear hK K
        refine norm_ (a' := ?_) ?_ ?_
        rotate_left
        ·show Act.put _ (some 25) _ = _
         simp only [Act.put, Sq.s1, Sq.s2, Sq.s3, i64_w, i32_w]
         rfl
        refine Sq.pur 9 (some 26) (Sq.b 10 1023) HT_.out ?_
        refine done_ (done_of HT_.out Z16) ?_
        try go_wp2_with (first | ((with_reducible refine Pre.gate_load 34 rfl ?_); (try (refine gate_guard Z27 ?_; dsimp only)); refine Pre.load_event_a rfl rfl rfl Z27 Pre.range25 Try.underlying34 rfl Z16 ?_))
        go_roundg k1
        case measure => have := HK1.out; omega
        case rel => exact ⟨(wrap64 (aa + 1)), Z7, H', ⟨by have := HK1.out; omega⟩, ⟨Z0⟩⟩
       ·replace c8 := Bool.eq_false_iff.mpr c8
        subst c8
        replace H := Sq.itF H
        obtain rfl := Option.some.inj H
        try go_wp2_with (first | ((with_reducible refine Pre.gate_load 34 rfl ?_); (try (refine gate_guard Z27 ?_; dsimp only)); refine Pre.load_event_a rfl rfl rfl Z27 Pre.range25 Try.underlying34 rfl Z16 ?_))
        have cQ := Aside0.mk (below_drew1 HB.out)
        clear HB
        have HB := cQ
        clear cQ
        have p101 : 0 ≤ (aa : Int) := of_decide_eq_true Z5
        have q101 : aa < (l0.length : Int) := of_decide_eq_true Z5
        obtain ⟨ad101, dr, dt, du, dv, e101, hx101_0, hx101_1, hx101_2, hx101_3, hx101_4, hx101_5, hx101_6, hx101_7, hx101_8, hx101_9, hx101_10, hx101_11, hx101_12, hx101_13, hx101_14, hx101_15, hx101_16, hx101_17, hx101_18, hx101_19, hx101_20, hx101_21, hx101_22, hx101_23, hx101_24, hl101_21, hi101_21, hl101_24, hi101_24⟩ := at_T34 fR.out aa p101 q101
        have hw101_24 := hx101_24
        have hw101_23 := hx101_23
        have hw101_22 := hx101_22
        have hw101_21 := hx101_21
        have hw101_20 := hx101_20
        have hw101_19 := hx101_19
        have hw101_18 := hx101_18
        have hw101_17 := hx101_17
        have hw101_16 := hx101_16
        have hw101_15 := hx101_15
        have hw101_14 := hx101_14
        have hw101_13 := hx101_13
        have hw101_12 := hx101_12
        have hw101_11 := hx101_11
        have hw101_10 := hx101_10
        have hw101_9 := hx101_9
        have hw101_8 := hx101_8
        have hw101_7 := hx101_7
        have hw101_6 := hx101_6
        have hw101_5 := hx101_5
        have hw101_4 := hx101_4
        have hw101_3 := hx101_3
        have hw101_2 := hx101_2
        have hw101_1 := hx101_1
        have hw101_0 := hx101_0
        cases e101
        replace hx101_0 := Sq.up HB.out hx101_0
        replace hx101_1 := Sq.up HB.out hx101_1
        replace hx101_2 := Sq.up HB.out hx101_2
        replace hx101_3 := Sq.up HB.out hx101_3
        replace hx101_4 := Sq.up HB.out hx101_4
        replace hx101_5 := Sq.up HB.out hx101_5
        replace hx101_6 := Sq.up HB.out hx101_6
        replace hx101_7 := Sq.up HB.out hx101_7
        replace hx101_8 := Sq.up HB.out hx101_8
        replace hx101_9 := Sq.up HB.out hx101_9
        replace hx101_10 := Sq.up HB.out hx101_10
        replace hx101_11 := Sq.up HB.out hx101_11
        replace hx101_12 := Sq.up HB.out hx101_12
        replace hx101_13 := Sq.up HB.out hx101_13
        replace hx101_14 := Sq.up HB.out hx101_14
        replace hx101_15 := Sq.up HB.out hx101_15
        replace hx101_16 := Sq.up HB.out hx101_16
        replace hx101_17 := Sq.up HB.out hx101_17
        replace hx101_18 := Sq.up HB.out hx101_18
        replace hx101_19 := Sq.up HB.out hx101_19
        replace hx101_20 := Sq.up HB.out hx101_20
        replace hx101_21 := Sq.up HB.out hx101_21
        replace hx101_22 := Sq.up HB.out hx101_22
        replace hx101_23 := Sq.up HB.out hx101_23
        replace hx101_24 := Sq.up HB.out hx101_24
        have dw := Aside0.mk hi101_21
        have dM := Aside0.mk hl101_21
        clear hi101_21 hl101_21
        have dx := Aside0.mk hi101_24
        have dN := Aside0.mk hl101_24
        clear hi101_24 hl101_24
        replace p101 := eq_true p101
        replace q101 := eq_true q101
        have p102 : 0 ≤ (aa : Int) := of_decide_eq_true Z5
        have q102 : aa < (l1.length : Int) := of_decide_eq_true Z5
        obtain ⟨ad102, dy, dz, dA, dB, e102, hx102_0, hx102_1, hx102_2, hx102_3, hx102_4, hx102_5, hx102_6, hx102_7, hx102_8, hx102_9, hx102_10, hx102_11, hx102_12, hx102_13, hx102_14, hx102_15, hx102_16, hx102_17, hx102_18, hx102_19, hx102_20, hx102_21, hx102_22, hx102_23, hx102_24, hl102_21, hi102_21, hl102_24, hi102_24⟩ := at_T34 fS.out aa p102 q102
        have hw102_24 := hx102_24
        have hw102_23 := hx102_23
        have hw102_22 := hx102_22
        have hw102_21 := hx102_21
        have hw102_20 := hx102_20
        have hw102_19 := hx102_19
        have hw102_18 := hx102_18
        have hw102_17 := hx102_17
        have hw102_16 := hx102_16
        have hw102_15 := hx102_15
        have hw102_14 := hx102_14
        have hw102_13 := hx102_13
        have hw102_12 := hx102_12
        have hw102_11 := hx102_11
        have hw102_10 := hx102_10
        have hw102_9 := hx102_9
        have hw102_8 := hx102_8
        have hw102_7 := hx102_7
        have hw102_6 := hx102_6
        have hw102_5 := hx102_5
        have hw102_4 := hx102_4
        have hw102_3 := hx102_3
        have hw102_2 := hx102_2
        have hw102_1 := hx102_1
        have hw102_0 := hx102_0
        cases e102
        replace hx102_0 := Sq.up HB.out hx102_0
        replace hx102_1 := Sq.up HB.out hx102_1
        replace hx102_2 := Sq.up HB.out hx102_2
        replace hx102_3 := Sq.up HB.out hx102_3
        replace hx102_4 := Sq.up HB.out hx102_4
        replace hx102_5 := Sq.up HB.out hx102_5
        replace hx102_6 := Sq.up HB.out hx102_6
        replace hx102_7 := Sq.up HB.out hx102_7
        replace hx102_8 := Sq.up HB.out hx102_8
        replace hx102_9 := Sq.up HB.out hx102_9
        replace hx102_10 := Sq.up HB.out hx102_10
        replace hx102_11 := Sq.up HB.out hx102_11
        replace hx102_12 := Sq.up HB.out hx102_12
        replace hx102_13 := Sq.up HB.out hx102_13
        replace hx102_14 := Sq.up HB.out hx102_14
        replace hx102_15 := Sq.up HB.out hx102_15
        replace hx102_16 := Sq.up HB.out hx102_16
        replace hx102_17 := Sq.up HB.out hx102_17
        replace hx102_18 := Sq.up HB.out hx102_18
        replace hx102_19 := Sq.up HB.out hx102_19
        replace hx102_20 := Sq.up HB.out hx102_20
        replace hx102_21 := Sq.up HB.out hx102_21
        replace hx102_22 := Sq.up HB.out hx102_22
        replace hx102_23 := Sq.up HB.out hx102_23
        replace hx102_24 := Sq.up HB.out hx102_24
        have dC := Aside0.mk hi102_21
        have dO := Aside0.mk hl102_21
        clear hi102_21 hl102_21
        have dD := Aside0.mk hi102_24
        have dP := Aside0.mk hl102_24
        clear hi102_24 hl102_24
        replace p102 := eq_true p102
        replace q102 := eq_true q102
        refine start_ (n := 10) (S := fun w' => w'.cell? (ad101.add ((aa).toNat * 25)) = some (.int .i64 ((rd_T34 l0 aa).f0)) ∧ w'.cell? ⟨(ad101.add ((aa).toNat * 25)).block, (ad101.add ((aa).toNat * 25)).off + 1, none⟩ = some (.int .i64 ((rd_T34 l0 aa).f1)) ∧ w'.cell? ⟨(ad101.add ((aa).toNat * 25)).block, (ad101.add ((aa).toNat * 25)).off + 2, none⟩ = some (.int .i64 ((rd_T34 l0 aa).f2)) ∧ w'.cell? ⟨(ad101.add ((aa).toNat * 25)).block, (ad101.add ((aa).toNat * 25)).off + 3, none⟩ = some (.string ((rd_T34 l0 aa).f3)) ∧ w'.cell? ⟨(ad101.add ((aa).toNat * 25)).block, (ad101.add ((aa).toNat * 25)).off + 4, none⟩ = some (.int .i64 ((rd_T34 l0 aa).f4)) ∧ w'.cell? ⟨(ad101.add ((aa).toNat * 25)).block, (ad101.add ((aa).toNat * 25)).off + 5, none⟩ = some (.int .i64 ((rd_T34 l0 aa).f5)) ∧ w'.cell? ⟨(ad101.add ((aa).toNat * 25)).block, (ad101.add ((aa).toNat * 25)).off + 6, none⟩ = some (.string ((rd_T34 l0 aa).f6)) ∧ w'.cell? ⟨(ad101.add ((aa).toNat * 25)).block, (ad101.add ((aa).toNat * 25)).off + 7, none⟩ = some (.int .i64 ((rd_T34 l0 aa).f7)) ∧ w'.cell? ⟨(ad101.add ((aa).toNat * 25)).block, (ad101.add ((aa).toNat * 25)).off + 8, none⟩ = some (.int .i64 ((rd_T34 l0 aa).f8)) ∧ w'.cell? ⟨(ad101.add ((aa).toNat * 25)).block, (ad101.add ((aa).toNat * 25)).off + 9, none⟩ = some (.string ((rd_T34 l0 aa).f9)) ∧ w'.cell? ⟨(ad101.add ((aa).toNat * 25)).block, (ad101.add ((aa).toNat * 25)).off + 10, none⟩ = some (.int .i64 ((rd_T34 l0 aa).f10)) ∧ w'.cell? ⟨(ad101.add ((aa).toNat * 25)).block, (ad101.add ((aa).toNat * 25)).off + 11, none⟩ = some (.string ((rd_T34 l0 aa).f11)) ∧ w'.cell? ⟨(ad101.add ((aa).toNat * 25)).block, (ad101.add ((aa).toNat * 25)).off + 12, none⟩ = some (.int .i64 ((rd_T34 l0 aa).f12)) ∧ w'.cell? ⟨(ad101.add ((aa).toNat * 25)).block, (ad101.add ((aa).toNat * 25)).off + 13, none⟩ = some (.int .i64 ((rd_T34 l0 aa).f13)) ∧ w'.cell? ⟨(ad101.add ((aa).toNat * 25)).block, (ad101.add ((aa).toNat * 25)).off + 14, none⟩ = some (.int .i64 ((rd_T34 l0 aa).f14)) ∧ w'.cell? ⟨(ad101.add ((aa).toNat * 25)).block, (ad101.add ((aa).toNat * 25)).off + 15, none⟩ = some (.int .i64 ((rd_T34 l0 aa).f15)) ∧ w'.cell? ⟨(ad101.add ((aa).toNat * 25)).block, (ad101.add ((aa).toNat * 25)).off + 16, none⟩ = some (.int .i64 ((rd_T34 l0 aa).f16)) ∧ w'.cell? ⟨(ad101.add ((aa).toNat * 25)).block, (ad101.add ((aa).toNat * 25)).off + 17, none⟩ = some (.int .i64 ((rd_T34 l0 aa).f17)) ∧ w'.cell? ⟨(ad101.add ((aa).toNat * 25)).block, (ad101.add ((aa).toNat * 25)).off + 18, none⟩ = some (.int .i64 ((rd_T34 l0 aa).f18)) ∧ w'.cell? ⟨(ad101.add ((aa).toNat * 25)).block, (ad101.add ((aa).toNat * 25)).off + 19, none⟩ = some (.string ((rd_T34 l0 aa).f19)) ∧ w'.cell? ⟨(ad101.add ((aa).toNat * 25)).block, (ad101.add ((aa).toNat * 25)).off + 20, none⟩ = some (.string ((rd_T34 l0 aa).f20)) ∧ w'.cell? ⟨(ad101.add ((aa).toNat * 25)).block, (ad101.add ((aa).toNat * 25)).off + 21, none⟩ = some (.slice dr ((rd_T34 l0 aa).f21).length dt) ∧ w'.cell? ⟨(ad101.add ((aa).toNat * 25)).block, (ad101.add ((aa).toNat * 25)).off + 22, none⟩ = some (.int .i64 ((rd_T34 l0 aa).f22)) ∧ w'.cell? ⟨(ad101.add ((aa).toNat * 25)).block, (ad101.add ((aa).toNat * 25)).off + 23, none⟩ = some (.string ((rd_T34 l0 aa).f23)) ∧ w'.cell? ⟨(ad101.add ((aa).toNat * 25)).block, (ad101.add ((aa).toNat * 25)).off + 24, none⟩ = some (.slice du ((rd_T34 l0 aa).f24).length dv) ∧ w'.cell? (ad102.add ((aa).toNat * 25)) = some (.int .i64 ((rd_T34 l1 aa).f0)) ∧ w'.cell? ⟨(ad102.add ((aa).toNat * 25)).block, (ad102.add ((aa).toNat * 25)).off + 1, none⟩ = some (.int .i64 ((rd_T34 l1 aa).f1)) ∧ w'.cell? ⟨(ad102.add ((aa).toNat * 25)).block, (ad102.add ((aa).toNat * 25)).off + 2, none⟩ = some (.int .i64 ((rd_T34 l1 aa).f2)) ∧ w'.cell? ⟨(ad102.add ((aa).toNat * 25)).block, (ad102.add ((aa).toNat * 25)).off + 3, none⟩ = some (.string ((rd_T34 l1 aa).f3)) ∧ w'.cell? ⟨(ad102.add ((aa).toNat * 25)).block, (ad102.add ((aa).toNat * 25)).off + 4, none⟩ = some (.int .i64 ((rd_T34 l1 aa).f4)) ∧ w'.cell? ⟨(ad102.add ((aa).toNat * 25)).block, (ad102.add ((aa).toNat * 25)).off + 5, none⟩ = some (.int .i64 ((rd_T34 l1 aa).f5)) ∧ w'.cell? ⟨(ad102.add ((aa).toNat * 25)).block, (ad102.add ((aa).toNat * 25)).off + 6, none⟩ = some (.string ((rd_T34 l1 aa).f6)) ∧ w'.cell? ⟨(ad102.add ((aa).toNat * 25)).block, (ad102.add ((aa).toNat * 25)).off + 7, none⟩ = some (.int .i64 ((rd_T34 l1 aa).f7)) ∧ w'.cell? ⟨(ad102.add ((aa).toNat * 25)).block, (ad102.add ((aa).toNat * 25)).off + 8, none⟩ = some (.int .i64 ((rd_T34 l1 aa).f8)) ∧ w'.cell? ⟨(ad102.add ((aa).toNat * 25)).block, (ad102.add ((aa).toNat * 25)).off + 9, none⟩ = some (.string ((rd_T34 l1 aa).f9)) ∧ w'.cell? ⟨(ad102.add ((aa).toNat * 25)).block, (ad102.add ((aa).toNat * 25)).off + 10, none⟩ = some (.int .i64 ((rd_T34 l1 aa).f10)) ∧ w'.cell? ⟨(ad102.add ((aa).toNat * 25)).block, (ad102.add ((aa).toNat * 25)).off + 11, none⟩ = some (.string ((rd_T34 l1 aa).f11)) ∧ w'.cell? ⟨(ad102.add ((aa).toNat * 25)).block, (ad102.add ((aa).toNat * 25)).off + 12, none⟩ = some (.int .i64 ((rd_T34 l1 aa).f12)) ∧ w'.cell? ⟨(ad102.add ((aa).toNat * 25)).block, (ad102.add ((aa).toNat * 25)).off + 13, none⟩ = some (.int .i64 ((rd_T34 l1 aa).f13)) ∧ w'.cell? ⟨(ad102.add ((aa).toNat * 25)).block, (ad102.add ((aa).toNat * 25)).off + 14, none⟩ = some (.int .i64 ((rd_T34 l1 aa).f14)) ∧ w'.cell? ⟨(ad102.add ((aa).toNat * 25)).block, (ad102.add ((aa).toNat * 25)).off + 15, none⟩ = some (.int .i64 ((rd_T34 l1 aa).f15)) ∧ w'.cell? ⟨(ad102.add ((aa).toNat * 25)).block, (ad102.add ((aa).toNat * 25)).off + 16, none⟩ = some (.int .i64 ((rd_T34 l1 aa).f16)) ∧ w'.cell? ⟨(ad102.add ((aa).toNat * 25)).block, (ad102.add ((aa).toNat * 25)).off + 17, none⟩ = some (.int .i64 ((rd_T34 l1 aa).f17)) ∧ w'.cell? ⟨(ad102.add ((aa).toNat * 25)).block, (ad102.add ((aa).toNat * 25)).off + 18, none⟩ = some (.int .i64 ((rd_T34 l1 aa).f18)) ∧ w'.cell? ⟨(ad102.add ((aa).toNat * 25)).block, (ad102.add ((aa).toNat * 25)).off + 19, none⟩ = some (.string ((rd_T34 l1 aa).f19)) ∧ w'.cell? ⟨(ad102.add ((aa).toNat * 25)).block, (ad102.add ((aa).toNat * 25)).off + 20, none⟩ = some (.string ((rd_T34 l1 aa).f20)) ∧ w'.cell? ⟨(ad102.add ((aa).toNat * 25)).block, (ad102.add ((aa).toNat * 25)).off + 21, none⟩ = some (.slice dy ((rd_T34 l1 aa).f21).length dz) ∧ w'.cell? ⟨(ad102.add ((aa).toNat * 25)).block, (ad102.add ((aa).toNat * 25)).off + 22, none⟩ = some (.int .i64 ((rd_T34 l1 aa).f22)) ∧ w'.cell? ⟨(ad102.add ((aa).toNat * 25)).block, (ad102.add ((aa).toNat * 25)).off + 23, none⟩ = some (.string ((rd_T34 l1 aa).f23)) ∧ w'.cell? ⟨(ad102.add ((aa).toNat * 25)).block, (ad102.add ((aa).toNat * 25)).off + 24, none⟩ = some (.slice dA ((rd_T34 l1 aa).f24).length dB)) (ds := []) (Sq.b 10 0) Z16 rfl rfl ⟨(Sq.up HB.out hw101_0), (Sq.up HB.out hw101_1), (Sq.up HB.out hw101_2), (Sq.up HB.out hw101_3), (Sq.up HB.out hw101_4), (Sq.up HB.out hw101_5), (Sq.up HB.out hw101_6), (Sq.up HB.out hw101_7), (Sq.up HB.out hw101_8), (Sq.up HB.out hw101_9), (Sq.up HB.out hw101_10), (Sq.up HB.out hw101_11), (Sq.up HB.out hw101_12), (Sq.up HB.out hw101_13), (Sq.up HB.out hw101_14), (Sq.up HB.out hw101_15), (Sq.up HB.out hw101_16), (Sq.up HB.out hw101_17), (Sq.up HB.out hw101_18), (Sq.up HB.out hw101_19), (Sq.up HB.out hw101_20), (Sq.up HB.out hw101_21), (Sq.up HB.out hw101_22), (Sq.up HB.out hw101_23), (Sq.up HB.out hw101_24), (Sq.up HB.out hw102_0), (Sq.up HB.out hw102_1), (Sq.up HB.out hw102_2), (Sq.up HB.out hw102_3), (Sq.up HB.out hw102_4), (Sq.up HB.out hw102_5), (Sq.up HB.out hw102_6), (Sq.up HB.out hw102_7), (Sq.up HB.out hw102_8), (Sq.up HB.out hw102_9), (Sq.up HB.out hw102_10), (Sq.up HB.out hw102_11), (Sq.up HB.out hw102_12), (Sq.up HB.out hw102_13), (Sq.up HB.out hw102_14), (Sq.up HB.out hw102_15), (Sq.up HB.out hw102_16), (Sq.up HB.out hw102_17), (Sq.up HB.out hw102_18), (Sq.up HB.out hw102_19), (Sq.up HB.out hw102_20), (Sq.up HB.out hw102_21), (Sq.up HB.out hw102_22), (Sq.up HB.out hw102_23), (Sq.up HB.out hw102_24)⟩ (fun hHeld => ?_); refine with_tabW roadbookref07_SameAll.tab6 roadbookref07_SameAll.bits6 (fun HT_ HW_ => ?_)
        generalize wr.drew = w11 at HB dw dx dC dD hx101_0 hx101_1 hx101_10 hx101_11 hx101_12 hx101_13 hx101_14 hx101_15 hx101_16 hx101_17 hx101_18 hx101_19 hx101_2 hx101_20 hx101_21 hx101_22 hx101_23 hx101_24 hx101_3 hx101_4 hx101_5 hx101_6 hx101_7 hx101_8 hx101_9 hx102_0 hx102_1 hx102_10 hx102_11 hx102_12 hx102_13 hx102_14 hx102_15 hx102_16 hx102_17 hx102_18 hx102_19 hx102_2 hx102_20 hx102_21 hx102_22 hx102_23 hx102_24 hx102_3 hx102_4 hx102_5 hx102_6 hx102_7 hx102_8 hx102_9 hHeld ⊢
        refine Sq.pur 0 (some 17) (Sq.b 10 1) HT_.out ?_
        refine Sq.pur 1 (some 18) (Sq.b 10 3) HT_.out ?_
        refine Sq.pur 2 (some 19) (Sq.b 10 7) HT_.out ?_
        refine Sq.pur 4 (some 21) (Sq.b 10 23) HT_.out ?_
        refine Sq.pur 5 (some 22) (Sq.b 10 55) HT_.out ?_
        refine Sq.pur 6 (some 23) (Sq.b 10 119) HT_.out ?_
        refine Sq.tak 3 (some 20) (Sq.b 10 127) HT_.out HW_.out hHeld (v := ?_) (a' := ?_) ?_ ?_ ?_
        rotate_left
        ·rintro w' ⟨s0, s1, s2, s3, s4, s5, s6, s7, s8, s9, s10, s11, s12, s13, s14, s15, s16, s17, s18, s19, s20, s21, s22, s23, s24, s25, s26, s27, s28, s29, s30, s31, s32, s33, s34, s35, s36, s37, s38, s39, s40, s41, s42, s43, s44, s45, s46, s47, s48, s49⟩
         first | (refine Eq.trans (Pre.load_run (ty := 34) rfl Z27 (by with_reducible assumption) Try.underlying34 rfl Z16) ?_; with_reducible rfl) | (refine Eq.trans (Pre.load_run_a (ty := 34) rfl Z27 Pre.range25 Try.underlying34 rfl Z16) ?_; with_reducible rfl) | (go_simp; with_reducible rfl)
        rotate_left
        ·simp only [Act.put, Sq.s1, Sq.s2, Sq.s3, i64_w, i32_w]
         rfl
        refine Sq.tak 7 (some 24) (Sq.b 10 255) HT_.out HW_.out hHeld (v := ?_) (a' := ?_) ?_ ?_ ?_
        rotate_left
        ·rintro w' ⟨s0, s1, s2, s3, s4, s5, s6, s7, s8, s9, s10, s11, s12, s13, s14, s15, s16, s17, s18, s19, s20, s21, s22, s23, s24, s25, s26, s27, s28, s29, s30, s31, s32, s33, s34, s35, s36, s37, s38, s39, s40, s41, s42, s43, s44, s45, s46, s47, s48, s49⟩
         first | (refine Eq.trans (Pre.load_run (ty := 34) rfl Z27 (by with_reducible assumption) Try.underlying34 rfl Z16) ?_; with_reducible rfl) | (refine Eq.trans (Pre.load_run_a (ty := 34) rfl Z27 Pre.range25 Try.underlying34 rfl Z16) ?_; with_reducible rfl) | (go_simp; with_reducible rfl)
        rotate_left
        ·simp only [Act.put, Sq.s1, Sq.s2, Sq.s3, i64_w, i32_w]
         rfl
        refine one_ (i := 8) (N := some 25) (Sq.b 10 511) rfl rfl (one_of HT_.out Z16) Z18 (fun K hK => ?_)
        refine goes_ Try.func25 Z16 rfl #[.agg #[.int .i64 ((rd_T34 l0 aa).f0), .int .i64 ((rd_T34 l0 aa).f1), .int .i64 ((rd_T34 l0 aa).f2), .string ((rd_T34 l0 aa).f3), .int .i64 ((rd_T34 l0 aa).f4), .int .i64 ((rd_T34 l0 aa).f5), .string ((rd_T34 l0 aa).f6), .int .i64 ((rd_T34 l0 aa).f7), .int .i64 ((rd_T34 l0 aa).f8), .string ((rd_T34 l0 aa).f9), .int .i64 ((rd_T34 l0 aa).f10), .string ((rd_T34 l0 aa).f11), .int .i64 ((rd_T34 l0 aa).f12), .int .i64 ((rd_T34 l0 aa).f13), .int .i64 ((rd_T34 l0 aa).f14), .int .i64 ((rd_T34 l0 aa).f15), .int .i64 ((rd_T34 l0 aa).f16), .int .i64 ((rd_T34 l0 aa).f17), .int .i64 ((rd_T34 l0 aa).f18), .string ((rd_T34 l0 aa).f19), .string ((rd_T34 l0 aa).f20), .slice dr ((rd_T34 l0 aa).f21).length dt, .int .i64 ((rd_T34 l0 aa).f22), .string ((rd_T34 l0 aa).f23), .slice du ((rd_T34 l0 aa).f24).length dv], .agg #[.int .i64 ((rd_T34 l1 aa).f0), .int .i64 ((rd_T34 l1 aa).f1), .int .i64 ((rd_T34 l1 aa).f2), .string ((rd_T34 l1 aa).f3), .int .i64 ((rd_T34 l1 aa).f4), .int .i64 ((rd_T34 l1 aa).f5), .string ((rd_T34 l1 aa).f6), .int .i64 ((rd_T34 l1 aa).f7), .int .i64 ((rd_T34 l1 aa).f8), .string ((rd_T34 l1 aa).f9), .int .i64 ((rd_T34 l1 aa).f10), .string ((rd_T34 l1 aa).f11), .int .i64 ((rd_T34 l1 aa).f12), .int .i64 ((rd_T34 l1 aa).f13), .int .i64 ((rd_T34 l1 aa).f14), .int .i64 ((rd_T34 l1 aa).f15), .int .i64 ((rd_T34 l1 aa).f16), .int .i64 ((rd_T34 l1 aa).f17), .int .i64 ((rd_T34 l1 aa).f18), .string ((rd_T34 l1 aa).f19), .string ((rd_T34 l1 aa).f20), .slice dy ((rd_T34 l1 aa).f21).length dz, .int .i64 ((rd_T34 l1 aa).f22), .string ((rd_T34 l1 aa).f23), .slice dA ((rd_T34 l1 aa).f24).length dB]] Z27 rfl rfl Z4 ?_
        with_reducible refine (roadbookref07_Same.calls k1 ((rd_T34 l0 aa).f0) ((rd_T34 l0 aa).f1) ((rd_T34 l0 aa).f2) ((rd_T34 l0 aa).f3) ((rd_T34 l0 aa).f4) ((rd_T34 l0 aa).f5) ((rd_T34 l0 aa).f6) ((rd_T34 l0 aa).f7) ((rd_T34 l0 aa).f8) ((rd_T34 l0 aa).f9) ((rd_T34 l0 aa).f10) ((rd_T34 l0 aa).f11) ((rd_T34 l0 aa).f12) ((rd_T34 l0 aa).f13) ((rd_T34 l0 aa).f14) ((rd_T34 l0 aa).f15) ((rd_T34 l0 aa).f16) ((rd_T34 l0 aa).f17) ((rd_T34 l0 aa).f18) ((rd_T34 l0 aa).f19) ((rd_T34 l0 aa).f20) _ _ ((rd_T34 l0 aa).f21) ((rd_T34 l0 aa).f22) ((rd_T34 l0 aa).f23) _ _ ((rd_T34 l0 aa).f24) ((rd_T34 l1 aa).f0) ((rd_T34 l1 aa).f1) ((rd_T34 l1 aa).f2) ((rd_T34 l1 aa).f3) ((rd_T34 l1 aa).f4) ((rd_T34 l1 aa).f5) ((rd_T34 l1 aa).f6) ((rd_T34 l1 aa).f7) ((rd_T34 l1 aa).f8) ((rd_T34 l1 aa).f9) ((rd_T34 l1 aa).f10) ((rd_T34 l1 aa).f11) ((rd_T34 l1 aa).f12) ((rd_T34 l1 aa).f13) ((rd_T34 l1 aa).f14) ((rd_T34 l1 aa).f15) ((rd_T34 l1 aa).f16) ((rd_T34 l1 aa).f17) ((rd_T34 l1 aa).f18) ((rd_T34 l1 aa).f19) ((rd_T34 l1 aa).f20) _ _ ((rd_T34 l1 aa).f21) ((rd_T34 l1 aa).f22) ((rd_T34 l1 aa).f23) _ _ ((rd_T34 l1 aa).f24) false _ ?side1 ?side2 ?side3 ?side4 ?side5 ?side6 ?side7 ?side8 A7.out).mono ?_
        (case side1 => exact Z43)
        (case side2 => exact dM.out)
        (case side3 => exact Z42)
        (case side4 => exact dN.out)
        (case side5 => exact Z41)
        (case side6 => exact dO.out)
        (case side7 => exact Z40)
        (case side8 => exact dP.out)
        rintro e hA ⟨rfl, hb⟩
        refine ⟨_, rfl, ?_⟩
        have cQ := Aside0.mk (below_step Z0 hb)
        clear HB
        have HB := cQ
        clear cQ
        (try clear hb)
        (try clear hb2)
        (try clear hk)
        (try clear hi)
        refine hK.out _ _ ⟨(Sq.up HB.out hw101_0), (Sq.up HB.out hw101_1), (Sq.up HB.out hw101_2), (Sq.up HB.out hw101_3), (Sq.up HB.out hw101_4), (Sq.up HB.out hw101_5), (Sq.up HB.out hw101_6), (Sq.up HB.out hw101_7), (Sq.up HB.out hw101_8), (Sq.up HB.out hw101_9), (Sq.up HB.out hw101_10), (Sq.up HB.out hw101_11), (Sq.up HB.out hw101_12), (Sq.up HB.out hw101_13), (Sq.up HB.out hw101_14), (Sq.up HB.out hw101_15), (Sq.up HB.out hw101_16), (Sq.up HB.out hw101_17), (Sq.up HB.out hw101_18), (Sq.up HB.out hw101_19), (Sq.up HB.out hw101_20), (Sq.up HB.out hw101_21), (Sq.up HB.out hw101_22), (Sq.up HB.out hw101_23), (Sq.up HB.out hw101_24), (Sq.up HB.out hw102_0), (Sq.up HB.out hw102_1), (Sq.up HB.out hw102_2), (Sq.up HB.out hw102_3), (Sq.up HB.out hw102_4), (Sq.up HB.out hw102_5), (Sq.up HB.out hw102_6), (Sq.up HB.out hw102_7), (Sq.up HB.out hw102_8), (Sq.up HB.out hw102_9), (Sq.up HB.out hw102_10), (Sq.up HB.out hw102_11), (Sq.up HB.out hw102_12), (Sq.up HB.out hw102_13), (Sq.up HB.out hw102_14), (Sq.up HB.out hw102_15), (Sq.up HB.out hw102_16), (Sq.up HB.out hw102_17), (Sq.up HB.out hw102_18), (Sq.up HB.out hw102_19), (Sq.up HB.out hw102_20), (Sq.up HB.out hw102_21), (Sq.up HB.out hw102_22), (Sq.up HB.out hw102_23), (Sq.up HB.out hw102_24)⟩ (fun hHeld => ?_)
        clear hK K
        refine norm_ (a' := ?_) ?_ ?_
        rotate_left
        ·show Act.put _ (some 25) _ = _
         simp only [Act.put, Sq.s1, Sq.s2, Sq.s3, i64_w, i32_w]
         rfl
        refine Sq.pur 9 (some 26) (Sq.b 10 1023) HT_.out ?_
        refine done_ (done_of HT_.out Z16) ?_
        try go_wp2_with (first | ((with_reducible refine Pre.gate_load 34 rfl ?_); (try (refine gate_guard Z27 ?_; dsimp only)); refine Pre.load_event_a rfl rfl rfl Z27 Pre.range25 Try.underlying34 rfl Z16 ?_))
        go_ret
        exact ⟨Z2, Z0⟩
      ·rw [if_neg c6] at H
       exact absurd H Z36
     ·rw [if_neg c5] at H
      exact absurd H Z36
    ·rw [if_neg c4] at H
     have cG : decide (aa < (l0.length : Int)) = false := decide_eq_false c4
     clear c4
     obtain rfl := Option.some.inj H
     go_wp2_with (first | ((with_reducible refine Pre.gate_load 34 rfl ?_); (try (refine gate_guard Z27 ?_; dsimp only)); refine Pre.load_event_a rfl rfl rfl Z27 Pre.range25 Try.underlying34 rfl Z16 ?_))
     go_ret
     exact ⟨Z2, Z0⟩
 ·rw [if_neg c3] at H
  have bY : ((l0.length : Int) == (l1.length : Int)) = false := beq_eq_false_iff_ne.mpr c3
  have cE : ((l0.length : Int) != (l1.length : Int)) = true := bne_iff_ne.mpr c3
  have dU : (l0.length == l1.length) = false := by first | simpa using c3 | (simp at c3 ⊢; omega)
  obtain rfl := Option.some.inj H
  go_enter Try.func10, Try.ntmps10
  go_wp2_with (first | ((with_reducible refine Pre.gate_load 34 rfl ?_); (try (refine gate_guard Z27 ?_; dsimp only)); refine Pre.load_event_a rfl rfl rfl Z27 Pre.range25 Try.underlying34 rfl Z16 ?_))
  go_ret
  exact ⟨Z2, Z0⟩

end Go.Proofs.Ytnifhgackjkkbaa.PN
