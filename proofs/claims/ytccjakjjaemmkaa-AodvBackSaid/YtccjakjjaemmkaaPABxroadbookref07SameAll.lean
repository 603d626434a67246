-- Written by mp.py, a program of this work (wip/tools), out of the translation; Lean checks it.
import Derived.Test.YtccjakjjaemmkaaPABxZ
import Derived.Test.YtccjakjjaemmkaaPABxroadbookref07Same
import Derived.Test.YtccjakjjaemmkaaLoad
namespace Go.Proofs.Ytccjakjjaemmkaa.PAB
open Go.RowKit Go.Proofs.YtccjakjjaemmkaaW.PrintWords Go.Proofs.YtccjakjjaemmkaaW.PrintLast Go.Proofs.YtccjakjjaemmkaaW.PrintMore
attribute [local go_sem] max2_int min2_int max_two min_two max_three min_three max_four min_four   -- for this text's walks alone
set_option linter.unusedVariables false
set_option linter.unusedSimpArgs false

/-! ### roadbookref07_SameAll: function 43 -/
def roadbookref07_SameAll.l0 : Nat → List (S25) → List (S25) → Int → Option (Bool)
 | 0, _, _, _ => none
 | k + 1, x0, x1, x5 => if x5 < (x0.length : Int) then (if 0 ≤ x5 then (if x5 < (x1.length : Int) then ((roadbookref07_Same.f k ((rd_T25 x0 x5).f0) ((rd_T25 x0 x5).f1) ((rd_T25 x0 x5).f2) ((rd_T25 x0 x5).f3) ((rd_T25 x0 x5).f4) ((rd_T25 x0 x5).f5) ((rd_T25 x0 x5).f6) ((rd_T25 x0 x5).f7) ((rd_T25 x0 x5).f8) ((rd_T25 x0 x5).f9) ((rd_T25 x0 x5).f10) ((rd_T25 x0 x5).f11) ((rd_T25 x0 x5).f12) ((rd_T25 x0 x5).f13) ((rd_T25 x0 x5).f14) ((rd_T25 x0 x5).f15) ((rd_T25 x0 x5).f16) ((rd_T25 x0 x5).f17) ((rd_T25 x0 x5).f18) ((rd_T25 x0 x5).f19) ((rd_T25 x0 x5).f20) ((rd_T25 x0 x5).f21) ((rd_T25 x0 x5).f22) ((rd_T25 x0 x5).f23) ((rd_T25 x0 x5).f24) ((rd_T25 x1 x5).f0) ((rd_T25 x1 x5).f1) ((rd_T25 x1 x5).f2) ((rd_T25 x1 x5).f3) ((rd_T25 x1 x5).f4) ((rd_T25 x1 x5).f5) ((rd_T25 x1 x5).f6) ((rd_T25 x1 x5).f7) ((rd_T25 x1 x5).f8) ((rd_T25 x1 x5).f9) ((rd_T25 x1 x5).f10) ((rd_T25 x1 x5).f11) ((rd_T25 x1 x5).f12) ((rd_T25 x1 x5).f13) ((rd_T25 x1 x5).f14) ((rd_T25 x1 x5).f15) ((rd_T25 x1 x5).f16) ((rd_T25 x1 x5).f17) ((rd_T25 x1 x5).f18) ((rd_T25 x1 x5).f19) ((rd_T25 x1 x5).f20) ((rd_T25 x1 x5).f21) ((rd_T25 x1 x5).f22) ((rd_T25 x1 x5).f23) ((rd_T25 x1 x5).f24)).bind fun aW => (if aW = true then (roadbookref07_SameAll.l0 k x0 x1 (wrap64 (x5 + 1))) else (some false))) else (none)) else (none)) else (some true)
def roadbookref07_SameAll.f (k : Nat) (l0 : List (S25)) (l1 : List (S25)) : Option (Bool) := if (l0.length : Int) = (l1.length : Int) then (roadbookref07_SameAll.l0 k l0 l1 0) else (some false)
theorem roadbookref07_SameAll.mono_l : ∀ k, (∀ y0 y1 y2, LeO (roadbookref07_SameAll.l0 k y0 y1 y2) (roadbookref07_SameAll.l0 (k + 1) y0 y1 y2))
 | 0 => Sq.mz
 | k + 1 => by
  have ih0 := roadbookref07_SameAll.mono_l k
  ·intros
   unfold roadbookref07_SameAll.l0
   have m0 := roadbookref07_Same.mono
   exact Sq.mo
theorem roadbookref07_SameAll.mono : ∀ a0 a1 k, LeO (roadbookref07_SameAll.f k a0 a1) (roadbookref07_SameAll.f (k + 1) a0 a1) := by
 intro a0 a1 k
 have ih0 := roadbookref07_SameAll.mono_l k
 unfold roadbookref07_SameAll.f
 have m0 := roadbookref07_Same.mono
 exact Sq.mo
def roadbookref07_SameAll.T6 : Bool × List (List Nat × List Nat) := (true, [([], []), ([], []), ([0, 1], [0, 1]), ([2], [2]), ([], []), ([], []), ([4, 5], [4, 5]), ([6], [6]), ([3, 7], [3, 7]), ([8], [8])])
def roadbookref07_SameAll.B6 : List Nat := [0, 0, 3, 7, 0, 0, 48, 112, 255, 511]
theorem roadbookref07_SameAll.tab6 : rtab .any (opsOf Try.f43 6) = roadbookref07_SameAll.T6 := by kernel_rfl
theorem roadbookref07_SameAll.bits6 : waitsOk roadbookref07_SameAll.T6.2 roadbookref07_SameAll.B6 = true := by kernel_rfl

set_option maxHeartbeats 8000000 in
set_option maxRecDepth 100000 in
theorem roadbookref07_SameAll.calls (k : Nat) (A0 : Option Addr) (c0 : Nat) (l0 : List (S25)) (A1 : Option Addr) (c1 : Nat) (l1 : List (S25)) (r : Bool) (w : World) (hS : Kd.C k25 w A0 l0.length l0) (gN : l0.length ≤ c0) (nb : Kd.C k25 w A1 l1.length l1) (nc : l1.length ≤ c1) (h : roadbookref07_SameAll.f k l0 l1 = some r) :
  Calls Try.prog 43 #[.slice A0 l0.length c0, .slice A1 l1.length c1] w fun e w' => e = .returned (.bool r) ∧ Below w.heap.size w w' := by
 have fi := Try.underlying25
 have gY := Aside0.mk hS
 have lh := Aside0.mk gN
 clear hS gN
 have nf := Aside0.mk nb
 have tB := Aside0.mk nc
 clear nb nc
 have HB := Aside0.mk (Below.refl w.heap.size w)
 have H : (if (l0.length : Int) = (l1.length : Int) then (roadbookref07_SameAll.l0 k l0 l1 0) else (some false)) = some r := h
 clear h
 by_cases c3 : (l0.length : Int) = (l1.length : Int)
 ·rw [if_pos c3] at H
  have fZ : ((l0.length : Int) == (l1.length : Int)) = true := beq_iff_eq.mpr c3
  have hT : ((l0.length : Int) != (l1.length : Int)) = false := bne_eq_false_iff_eq.mpr c3
  have jt : (l0.length == l1.length) = true := by first | simpa using c3 | (simp at c3 ⊢; omega)
  clear c3
  have H' := Aside0.mk H
  clear H
  go_enter Try.func43, Try.ntmps43
  go_wp2_with (first | ((with_reducible refine Pre.gate_load 25 rfl ?_); (try (refine gate_guard Z23 ?_; dsimp only)); refine Pre.load_event_a rfl rfl rfl Z23 Pre.range25 Try.underlying25 rfl Z14 ?_))
  go_loopg [5] k (fun kq v5 w' => ∃ (aj : Int), v5 = .int .i64 aj ∧ Aside0 (roadbookref07_SameAll.l0 kq l0 l1 aj = some r) ∧ Aside0 (kq ≤ k) ∧ Aside0 (Below w.heap.size w w'))
  case atStart => exact ⟨(0), Z16, H', ⟨Nat.le_refl _⟩, ⟨Z1⟩⟩
  case round =>
   clear H'
   try clear c1
   try clear p2
   try clear c3
   try clear fZ
   try clear hT
   try clear jt
   obtain ⟨aj, rfl, HA, HK1, HB⟩ := hrel
   cases gk with
   | zero => exact absurd HA.out (by simp [roadbookref07_SameAll.l0])
   | succ k1 =>
    have H := HA.out
    clear HA
    simp only [roadbookref07_SameAll.l0] at H
    by_cases c4 : aj < (l0.length : Int)
    ·rw [if_pos c4] at H
     have dg : decide (aj < (l0.length : Int)) = true := decide_eq_true c4
     clear c4
     by_cases c5 : 0 ≤ aj
     ·rw [if_pos c5] at H
      have fM : decide (0 ≤ aj) = true := decide_eq_true c5
      clear c5
      by_cases c6 : aj < (l1.length : Int)
      ·rw [if_pos c6] at H
       have fg : decide (aj < (l1.length : Int)) = true := decide_eq_true c6
       clear c6
       replace H := Option.bind_eq_some_iff.mp H
       obtain ⟨aW, qD, H⟩ := H
       replace H : (if aW = true then (roadbookref07_SameAll.l0 k1 l0 l1 (wrap64 (aj + 1))) else (some false)) = some r := H
       have A7 := Aside0.mk qD
       clear qD
       by_cases c8 : aW = true
       ·subst c8
        replace H := Sq.itT H
        have H' := Aside0.mk H
        clear H
        try go_wp2_with (first | ((with_reducible refine Pre.gate_load 25 rfl ?_); (try (refine gate_guard Z23 ?_; dsimp only)); refine Pre.load_event_a rfl rfl rfl Z23 Pre.range25 Try.underlying25 rfl Z14 ?_))
        have bY := Aside0.mk (below_drew1 HB.out)
        clear HB
        have HB := bY
        clear bY
        have p101 : 0 ≤ (aj : Int) := of_decide_eq_true Z6
        have q101 : aj < (l0.length : Int) := of_decide_eq_true Z6
        obtain ⟨ad101, eQ, eR, eS, eT, e101, hx101_0, hx101_1, hx101_2, hx101_3, hx101_4, hx101_5, hx101_6, hx101_7, hx101_8, hx101_9, hx101_10, hx101_11, hx101_12, hx101_13, hx101_14, hx101_15, hx101_16, hx101_17, hx101_18, hx101_19, hx101_20, hx101_21, hx101_22, hx101_23, hx101_24, hl101_21, hi101_21, hl101_24, hi101_24⟩ := at_T25 gY.out aj p101 q101
        have hw101_24 := hx101_24
        have hw101_23 := hx101_23
        have hw101_22 := hx101_22
        have hw101_21 := hx101_21
        have hw101_20 := hx101_20
        have hw101_19 := hx101_19
        have hw101_18 := hx101_18
        have hw101_17 := hx101_17
        have hw101_16 := hx101_16
        have hw101_15 := hx101_15
        have hw101_14 := hx101_14
        have hw101_13 := hx101_13
        have hw101_12 := hx101_12
        have hw101_11 := hx101_11
        have hw101_10 := hx101_10
        have hw101_9 := hx101_9
        have hw101_8 := hx101_8
        have hw101_7 := hx101_7
        have hw101_6 := hx101_6
        have hw101_5 := hx101_5
        have hw101_4 := hx101_4
        have hw101_3 := hx101_3
        have hw101_2 := hx101_2
        have hw101_1 := hx101_1
        have hw101_0 := hx101_0
        cases e101
        replace hx101_0 := Sq.up HB.out hx101_0
        replace hx101_1 := Sq.up HB.out hx101_1
        replace hx101_2 := Sq.up HB.out hx101_2
        replace hx101_3 := Sq.up HB.out hx101_3
        replace hx101_4 := Sq.up HB.out hx101_4
        replace hx101_5 := Sq.up HB.out hx101_5
        replace hx101_6 := Sq.up HB.out hx101_6
        replace hx101_7 := Sq.up HB.out hx101_7
        replace hx101_8 := Sq.up HB.out hx101_8
        replace hx101_9 := Sq.up HB.out hx101_9
        replace hx101_10 := Sq.up HB.out hx101_10
        replace hx101_11 := Sq.up HB.out hx101_11
        replace hx101_12 := Sq.up HB.out hx101_12
        replace hx101_13 := Sq.up HB.out hx101_13
        replace hx101_14 := Sq.up HB.out hx101_14
        replace hx101_15 := Sq.up HB.out hx101_15
        replace hx101_16 := Sq.up HB.out hx101_16
        replace hx101_17 := Sq.up HB.out hx101_17
        replace hx101_18 := Sq.up HB.out hx101_18
        replace hx101_19 := Sq.up HB.out hx101_19
        replace hx101_20 := Sq.up HB.out hx101_20
        replace hx101_21 := Sq.up HB.out hx101_21
        replace hx101_22 := Sq.up HB.out hx101_22
        replace hx101_23 := Sq.up HB.out hx101_23
        replace hx101_24 := Sq.up HB.out hx101_24
        have fn := Aside0.mk hi101_21
        have eY := Aside0.mk hl101_21
        clear hi101_21 hl101_21
        have fo := Aside0.mk hi101_24
        have eZ := Aside0.mk hl101_24
        clear hi101_24 hl101_24
        replace p101 := eq_true p101
        replace q101 := eq_true q101
        have p102 : 0 ≤ (aj : Int) := of_decide_eq_true Z6
        have q102 : aj < (l1.length : Int) := of_decide_eq_true Z6
        obtain ⟨ad102, gP, gQ, gR, gS, e102, hx102_0, hx102_1, hx102_2, hx102_3, hx102_4, hx102_5, hx102_6, hx102_7, hx102_8, hx102_9, hx102_10, hx102_11, hx102_12, hx102_13, hx102_14, hx102_15, hx102_16, hx102_17, hx102_18, hx102_19, hx102_20, hx102_21, hx102_22, hx102_23, hx102_24, hl102_21, hi102_21, hl102_24, hi102_24⟩ := at_T25 nf.out aj p102 q102
        have hw102_24 := hx102_24
        have hw102_23 := hx102_23
        have hw102_22 := hx102_22
        have hw102_21 := hx102_21
        have hw102_20 := hx102_20
        have hw102_19 := hx102_19
        have hw102_18 := hx102_18
        have hw102_17 := hx102_17
        have hw102_16 := hx102_16
        have hw102_15 := hx102_15
        have hw102_14 := hx102_14
        have hw102_13 := hx102_13
        have hw102_12 := hx102_12
        have hw102_11 := hx102_11
        have hw102_10 := hx102_10
        have hw102_9 := hx102_9
        have hw102_8 := hx102_8
        have hw102_7 := hx102_7
        have hw102_6 := hx102_6
        have hw102_5 := hx102_5
        have hw102_4 := hx102_4
        have hw102_3 := hx102_3
        have hw102_2 := hx102_2
        have hw102_1 := hx102_1
        have hw102_0 := hx102_0
        cases e102
        replace hx102_0 := Sq.up HB.out hx102_0
        replace hx102_1 := Sq.up HB.out hx102_1
        replace hx102_2 := Sq.up HB.out hx102_2
        replace hx102_3 := Sq.up HB.out hx102_3
        replace hx102_4 := Sq.up HB.out hx102_4
        replace hx102_5 := Sq.up HB.out hx102_5
        replace hx102_6 := Sq.up HB.out hx102_6
        replace hx102_7 := Sq.up HB.out hx102_7
        replace hx102_8 := Sq.up HB.out hx102_8
        replace hx102_9 := Sq.up HB.out hx102_9
        replace hx102_10 := Sq.up HB.out hx102_10
        replace hx102_11 := Sq.up HB.out hx102_11
        replace hx102_12 := Sq.up HB.out hx102_12
        replace hx102_13 := Sq.up HB.out hx102_13
        replace hx102_14 := Sq.up HB.out hx102_14
        replace hx102_15 := Sq.up HB.out hx102_15
        replace hx102_16 := Sq.up HB.out hx102_16
        replace hx102_17 := Sq.up HB.out hx102_17
        replace hx102_18 := Sq.up HB.out hx102_18
        replace hx102_19 := Sq.up HB.out hx102_19
        replace hx102_20 := Sq.up HB.out hx102_20
        replace hx102_21 := Sq.up HB.out hx102_21
        replace hx102_22 := Sq.up HB.out hx102_22
        replace hx102_23 := Sq.up HB.out hx102_23
        replace hx102_24 := Sq.up HB.out hx102_24
        have gT := Aside0.mk hi102_21
        have hU := Aside0.mk hl102_21
        clear hi102_21 hl102_21
        have gU := Aside0.mk hi102_24
        have hV := Aside0.mk hl102_24
        clear hi102_24 hl102_24
        replace p102 := eq_true p102
        replace q102 := eq_true q102
        refine start_ (n := 10) (S := fun w' => w'.cell? (ad101.add ((aj).toNat * 25)) = some (.int .i64 ((rd_T25 l0 aj).f0)) ∧ w'.cell? ⟨(ad101.add ((aj).toNat * 25)).block, (ad101.add ((aj).toNat * 25)).off + 1, none⟩ = some (.int .i64 ((rd_T25 l0 aj).f1)) ∧ w'.cell? ⟨(ad101.add ((aj).toNat * 25)).block, (ad101.add ((aj).toNat * 25)).off + 2, none⟩ = some (.int .i64 ((rd_T25 l0 aj).f2)) ∧ w'.cell? ⟨(ad101.add ((aj).toNat * 25)).block, (ad101.add ((aj).toNat * 25)).off + 3, none⟩ = some (.string ((rd_T25 l0 aj).f3)) ∧ w'.cell? ⟨(ad101.add ((aj).toNat * 25)).block, (ad101.add ((aj).toNat * 25)).off + 4, none⟩ = some (.int .i64 ((rd_T25 l0 aj).f4)) ∧ w'.cell? ⟨(ad101.add ((aj).toNat * 25)).block, (ad101.add ((aj).toNat * 25)).off + 5, none⟩ = some (.int .i64 ((rd_T25 l0 aj).f5)) ∧ w'.cell? ⟨(ad101.add ((aj).toNat * 25)).block, (ad101.add ((aj).toNat * 25)).off + 6, none⟩ = some (.string ((rd_T25 l0 aj).f6)) ∧ w'.cell? ⟨(ad101.add ((aj).toNat * 25)).block, (ad101.add ((aj).toNat * 25)).off + 7, none⟩ = some (.int .i64 ((rd_T25 l0 aj).f7)) ∧ w'.cell? ⟨(ad101.add ((aj).toNat * 25)).block, (ad101.add ((aj).toNat * 25)).off + 8, none⟩ = some (.int .i64 ((rd_T25 l0 aj).f8)) ∧ w'.cell? ⟨(ad101.add ((aj).toNat * 25)).block, (ad101.add ((aj).toNat * 25)).off + 9, none⟩ = some (.string ((rd_T25 l0 aj).f9)) ∧ w'.cell? ⟨(ad101.add ((aj).toNat * 25)).block, (ad101.add ((aj).toNat * 25)).off + 10, none⟩ = some (.int .i64 ((rd_T25 l0 aj).f10)) ∧ w'.cell? ⟨(ad101.add ((aj).toNat * 25)).block, (ad101.add ((aj).toNat * 25)).off + 11, none⟩ = some (.string ((rd_T25 l0 aj).f11)) ∧ w'.cell? ⟨(ad101.add ((aj).toNat * 25)).block, (ad101.add ((aj).toNat * 25)).off + 12, none⟩ = some (.int .i64 ((rd_T25 l0 aj).f12)) ∧ w'.cell? ⟨(ad101.add ((aj).toNat * 25)).block, (ad101.add ((aj).toNat * 25)).off + 13, none⟩ = some (.int .i64 ((rd_T25 l0 aj).f13)) ∧ w'.cell? ⟨(ad101.add ((aj).toNat * 25)).block, (ad101.add ((aj).toNat * 25)).off + 14, none⟩ = some (.int .i64 ((rd_T25 l0 aj).f14)) ∧ w'.cell? ⟨(ad101.add ((aj).toNat * 25)).block, (ad101.add ((aj).toNat * 25)).off + 15, none⟩ = some (.int .i64 ((rd_T25 l0 aj).f15)) ∧ w'.cell? ⟨(ad101.add ((aj).toNat * 25)).block, (ad101.add ((aj).toNat * 25)).off + 16, none⟩ = some (.int .i64 ((rd_T25 l0 aj).f16)) ∧ w'.cell? ⟨(ad101.add ((aj).toNat * 25)).block, (ad101.add ((aj).toNat * 25)).off + 17, none⟩ = some (.int .i64 ((rd_T25 l0 aj).f17)) ∧ w'.cell? ⟨(ad101.add ((aj).toNat * 25)).block, (ad101.add ((aj).toNat * 25)).off + 18, none⟩ = some (.int .i64 ((rd_T25 l0 aj).f18)) ∧ w'.cell? ⟨(ad101.add ((aj).toNat * 25)).block, (ad101.add ((aj).toNat * 25)).off + 19, none⟩ = some (.string ((rd_T25 l0 aj).f19)) ∧ w'.cell? ⟨(ad101.add ((aj).toNat * 25)).block, (ad101.add ((aj).toNat * 25)).off + 20, none⟩ = some (.string ((rd_T25 l0 aj).f20)) ∧ w'.cell? ⟨(ad101.add ((aj).toNat * 25)).block, (ad101.add ((aj).toNat * 25)).off + 21, none⟩ = some (.slice eQ ((rd_T25 l0 aj).f21).length eR) ∧ w'.cell? ⟨(ad101.add ((aj).toNat * 25)).block, (ad101.add ((aj).toNat * 25)).off + 22, none⟩ = some (.int .i64 ((rd_T25 l0 aj).f22)) ∧ w'.cell? ⟨(ad101.add ((aj).toNat * 25)).block, (ad101.add ((aj).toNat * 25)).off + 23, none⟩ = some (.string ((rd_T25 l0 aj).f23)) ∧ w'.cell? ⟨(ad101.add ((aj).toNat * 25)).block, (ad101.add ((aj).toNat * 25)).off + 24, none⟩ = some (.slice eS ((rd_T25 l0 aj).f24).length eT) ∧ w'.cell? (ad102.add ((aj).toNat * 25)) = some (.int .i64 ((rd_T25 l1 aj).f0)) ∧ w'.cell? ⟨(ad102.add ((aj).toNat * 25)).block, (ad102.add ((aj).toNat * 25)).off + 1, none⟩ = some (.int .i64 ((rd_T25 l1 aj).f1)) ∧ w'.cell? ⟨(ad102.add ((aj).toNat * 25)).block, (ad102.add ((aj).toNat * 25)).off + 2, none⟩ = some (.int .i64 ((rd_T25 l1 aj).f2)) ∧ w'.cell? ⟨(ad102.add ((aj).toNat * 25)).block, (ad102.add ((aj).toNat * 25)).off + 3, none⟩ = some (.string ((rd_T25 l1 aj).f3)) ∧ w'.cell? ⟨(ad102.add ((aj).toNat * 25)).block, (ad102.add ((aj).toNat * 25)).off + 4, none⟩ = some (.int .i64 ((rd_T25 l1 aj).f4)) ∧ w'.cell? ⟨(ad102.add ((aj).toNat * 25)).block, (ad102.add ((aj).toNat * 25)).off + 5, none⟩ = some (.int .i64 ((rd_T25 l1 aj).f5)) ∧ w'.cell? ⟨(ad102.add ((aj).toNat * 25)).block, (ad102.add ((aj).toNat * 25)).off + 6, none⟩ = some (.string ((rd_T25 l1 aj).f6)) ∧ w'.cell? ⟨(ad102.add ((aj).toNat * 25)).block, (ad102.add ((aj).toNat * 25)).off + 7, none⟩ = some (.int .i64 ((rd_T25 l1 aj).f7)) ∧ w'.cell? ⟨(ad102.add ((aj).toNat * 25)).block, (ad102.add ((aj).toNat * 25)).off + 8, none⟩ = some (.int .i64 ((rd_T25 l1 aj).f8)) ∧ w'.cell? ⟨(ad102.add ((aj).toNat * 25)).block, (ad102.add ((aj).toNat * 25)).off + 9, none⟩ = some (.string ((rd_T25 l1 aj).f9)) ∧ w'.cell? ⟨(ad102.add ((aj).toNat * 25)).block, (ad102.add ((aj).toNat * 25)).off + 10, none⟩ = some (.int .i64 ((rd_T25 l1 aj).f10)) ∧ w'.cell? ⟨(ad102.add ((aj).toNat * 25)).block, (ad102.add ((aj).toNat * 25)).off + 11, none⟩ = some (.string ((rd_T25 l1 aj).f11)) ∧ w'.cell? ⟨(ad102.add ((aj).toNat * 25)).block, (ad102.add ((aj).toNat * 25)).off + 12, none⟩ = some (.int .i64 ((rd_T25 l1 aj).f12)) ∧ w'.cell? ⟨(ad102.add ((aj).toNat * 25)).block, (ad102.add ((aj).toNat * 25)).off + 13, none⟩ = some (.int .i64 ((rd_T25 l1 aj).f13)) ∧ w'.cell? ⟨(ad102.add ((aj).toNat * 25)).block, (ad102.add ((aj).toNat * 25)).off + 14, none⟩ = some (.int .i64 ((rd_T25 l1 aj).f14)) ∧ w'.cell? ⟨(ad102.add ((aj).toNat * 25)).block, (ad102.add ((aj).toNat * 25)).off + 15, none⟩ = some (.int .i64 ((rd_T25 l1 aj).f15)) ∧ w'.cell? ⟨(ad102.add ((aj).toNat * 25)).block, (ad102.add ((aj).toNat * 25)).off + 16, none⟩ = some (.int .i64 ((rd_T25 l1 aj).f16)) ∧ w'.cell? ⟨(ad102.add ((aj).toNat * 25)).block, (ad102.add ((aj).toNat * 25)).off + 17, none⟩ = some (.int .i64 ((rd_T25 l1 aj).f17)) ∧ w'.cell? ⟨(ad102.add ((aj).toNat * 25)).block, (ad102.add ((aj).toNat * 25)).off + 18, none⟩ = some (.int .i64 ((rd_T25 l1 aj).f18)) ∧ w'.cell? ⟨(ad102.add ((aj).toNat * 25)).block, (ad102.add ((aj).toNat * 25)).off + 19, none⟩ = some (.string ((rd_T25 l1 aj).f19)) ∧ w'.cell? ⟨(ad102.add ((aj).toNat * 25)).block, (ad102.add ((aj).toNat * 25)).off + 20, none⟩ = some (.string ((rd_T25 l1 aj).f20)) ∧ w'.cell? ⟨(ad102.add ((aj).toNat * 25)).block, (ad102.add ((aj).toNat * 25)).off + 21, none⟩ = some (.slice gP ((rd_T25 l1 aj).f21).length gQ) ∧ w'.cell? ⟨(ad102.add ((aj).toNat * 25)).block, (ad102.add ((aj).toNat * 25)).off + 22, none⟩ = some (.int .i64 ((rd_T25 l1 aj).f22)) ∧ w'.cell? ⟨(ad102.add ((aj).toNat * 25)).block, (ad102.add ((aj).toNat * 25)).off + 23, none⟩ = some (.string ((rd_T25 l1 aj).f23)) ∧ w'.cell? ⟨(ad102.add ((aj).toNat * 25)).block, (ad102.add ((aj).toNat * 25)).off + 24, none⟩ = some (.slice gR ((rd_T25 l1 aj).f24).length gS)) (ds := []) (Sq.b 10 0) Z14 rfl rfl ⟨(Sq.up HB.out hw101_0), (Sq.up HB.out hw101_1), (Sq.up HB.out hw101_2), (Sq.up HB.out hw101_3), (Sq.up HB.out hw101_4), (Sq.up HB.out hw101_5), (Sq.up HB.out hw101_6), (Sq.up HB.out hw101_7), (Sq.up HB.out hw101_8), (Sq.up HB.out hw101_9), (Sq.up HB.out hw101_10), (Sq.up HB.out hw101_11), (Sq.up HB.out hw101_12), (Sq.up HB.out hw101_13), (Sq.up HB.out hw101_14), (Sq.up HB.out hw101_15), (Sq.up HB.out hw101_16), (Sq.up HB.out hw101_17), (Sq.up HB.out hw101_18), (Sq.up HB.out hw101_19), (Sq.up HB.out hw101_20), (Sq.up HB.out hw101_21), (Sq.up HB.out hw101_22), (Sq.up HB.out hw101_23), (Sq.up HB.out hw101_24), (Sq.up HB.out hw102_0), (Sq.up HB.out hw102_1), (Sq.up HB.out hw102_2), (Sq.up HB.out hw102_3), (Sq.up HB.out hw102_4), (Sq.up HB.out hw102_5), (Sq.up HB.out hw102_6), (Sq.up HB.out hw102_7), (Sq.up HB.out hw102_8), (Sq.up HB.out hw102_9), (Sq.up HB.out hw102_10), (Sq.up HB.out hw102_11), (Sq.up HB.out hw102_12), (Sq.up HB.out hw102_13), (Sq.up HB.out hw102_14), (Sq.up HB.out hw102_15), (Sq.up HB.out hw102_16), (Sq.up HB.out hw102_17), (Sq.up HB.out hw102_18), (Sq.up HB.out hw102_19), (Sq.up HB.out hw102_20), (Sq.up HB.out hw102_21), (Sq.up HB.out hw102_22), (Sq.up HB.out hw102_23), (Sq.up HB.out hw102_24)⟩ (fun hHeld => ?_); refine with_tabW roadbookref07_SameAll.tab6 roadbookref07_SameAll.bits6 (fun HT_ HW_ => ?_)
        generalize wr.drew = w9 at HB fn fo gT gU hx101_0 hx101_1 hx101_10 hx101_11 hx101_12 hx101_13 hx101_14 hx101_15 hx101_16 hx101_17 hx101_18 hx101_19 hx101_2 hx101_20 hx101_21 hx101_22 hx101_23 hx101_24 hx101_3 hx101_4 hx101_5 hx101_6 hx101_7 hx101_8 hx101_9 hx102_0 hx102_1 hx102_10 hx102_11 hx102_12 hx102_13 hx102_14 hx102_15 hx102_16 hx102_17 hx102_18 hx102_19 hx102_2 hx102_20 hx102_21 hx102_22 hx102_23 hx102_24 hx102_3 hx102_4 hx102_5 hx102_6 hx102_7 hx102_8 hx102_9 hHeld ⊢
        refine Sq.pur 0 (some 17) (Sq.b 10 1) HT_.out ?_
        refine Sq.pur 1 (some 18) (Sq.b 10 3) HT_.out ?_
        refine Sq.pur 2 (some 19) (Sq.b 10 7) HT_.out ?_
        refine Sq.pur 4 (some 21) (Sq.b 10 23) HT_.out ?_
        refine Sq.pur 5 (some 22) (Sq.b 10 55) HT_.out ?_
        refine Sq.pur 6 (some 23) (Sq.b 10 119) HT_.out ?_
        refine Sq.tak 3 (some 20) (Sq.b 10 127) HT_.out HW_.out hHeld (v := ?_) (a' := ?_) ?_ ?_ ?_
        rotate_left
        ·rintro w' ⟨s0, s1, s2, s3, s4, s5, s6, s7, s8, s9, s10, s11, s12, s13, s14, s15, s16, s17, s18, s19, s20, s21, s22, s23, s24, s25, s26, s27, s28, s29, s30, s31, s32, s33, s34, s35, s36, s37, s38, s39, s40, s41, s42, s43, s44, s45, s46, s47, s48, s49⟩
         first | (refine Eq.trans (Pre.load_run (ty := 25) rfl Z23 Z81 Try.underlying25 rfl Z14) ?_; with_reducible rfl) | (refine Eq.trans (Pre.load_run_a (ty := 25) rfl Z23 Pre.range25 Try.underlying25 rfl Z14) ?_; with_reducible rfl) | (go_simp; with_reducible rfl)
        rotate_left
        ·simp only [Act.put, Sq.s1, Sq.s2, Sq.s3, i64_w, i32_w]
         rfl
        refine Sq.tak 7 (some 24) (Sq.b 10 255) HT_.out HW_.out hHeld (v := ?_) (a' := ?_) ?_ ?_ ?_
        rotate_left
        ·rintro w' ⟨s0, s1, s2, s3, s4, s5, s6, s7, s8, s9, s10, s11, s12, s13, s14, s15, s16, s17, s18, s19, s20, s21, s22, s23, s24, s25, s26, s27, s28, s29, s30, s31, s32, s33, s34, s35, s36, s37, s38, s39, s40, s41, s42, s43, s44, s45, s46, s47, s48, s49⟩
         first | (refine Eq.trans (Pre.load_run (ty := 25) rfl Z23 Z81 Try.underlying25 rfl Z14) ?_; with_reducible rfl) | (refine Eq.trans (Pre.load_run_a (ty := 25) rfl Z23 Pre.range25 Try.underlying25 rfl Z14) ?_; with_reducible rfl) | (go_simp; with_reducible rfl)
        rotate_left
        ·simp only [Act.put, Sq.s1, Sq.s2, Sq.s3, i64_w, i32_w]
         rfl
        refine one_ (i := 8) (N := some 25) (Sq.b 10 511) rfl rfl (one_of HT_.out Z14) Z29 (fun K hK => ?_)
        refine goes_ Try.func24 Z14 rfl #[.agg #[.int .i64 ((rd_T25 l0 aj).f0), .int .i64 ((rd_T25 l0 aj).f1), .int .i64 ((rd_T25 l0 aj).f2), .string ((rd_T25 l0 aj).f3), .int .i64 ((rd_T25 l0 aj).f4), .int .i64 ((rd_T25 l0 aj).f5), .string ((rd_T25 l0 aj).f6), .int .i64 ((rd_T25 l0 aj).f7), .int .i64 ((rd_T25 l0 aj).f8), .string ((rd_T25 l0 aj).f9), .int .i64 ((rd_T25 l0 aj).f10), .string ((rd_T25 l0 aj).f11), .int .i64 ((rd_T25 l0 aj).f12), .int .i64 ((rd_T25 l0 aj).f13), .int .i64 ((rd_T25 l0 aj).f14), .int .i64 ((rd_T25 l0 aj).f15), .int .i64 ((rd_T25 l0 aj).f16), .int .i64 ((rd_T25 l0 aj).f17), .int .i64 ((rd_T25 l0 aj).f18), .string ((rd_T25 l0 aj).f19), .string ((rd_T25 l0 aj).f20), .slice eQ ((rd_T25 l0 aj).f21).length eR, .int .i64 ((rd_T25 l0 aj).f22), .string ((rd_T25 l0 aj).f23), .slice eS ((rd_T25 l0 aj).f24).length eT], .agg #[.int .i64 ((rd_T25 l1 aj).f0), .int .i64 ((rd_T25 l1 aj).f1), .int .i64 ((rd_T25 l1 aj).f2), .string ((rd_T25 l1 aj).f3), .int .i64 ((rd_T25 l1 aj).f4), .int .i64 ((rd_T25 l1 aj).f5), .string ((rd_T25 l1 aj).f6), .int .i64 ((rd_T25 l1 aj).f7), .int .i64 ((rd_T25 l1 aj).f8), .string ((rd_T25 l1 aj).f9), .int .i64 ((rd_T25 l1 aj).f10), .string ((rd_T25 l1 aj).f11), .int .i64 ((rd_T25 l1 aj).f12), .int .i64 ((rd_T25 l1 aj).f13), .int .i64 ((rd_T25 l1 aj).f14), .int .i64 ((rd_T25 l1 aj).f15), .int .i64 ((rd_T25 l1 aj).f16), .int .i64 ((rd_T25 l1 aj).f17), .int .i64 ((rd_T25 l1 aj).f18), .string ((rd_T25 l1 aj).f19), .string ((rd_T25 l1 aj).f20), .slice gP ((rd_T25 l1 aj).f21).length gQ, .int .i64 ((rd_T25 l1 aj).f22), .string ((rd_T25 l1 aj).f23), .slice gR ((rd_T25 l1 aj).f24).length gS]] Z23 rfl rfl Z4 ?_
        with_reducible refine (roadbookref07_Same.calls k1 ((rd_T25 l0 aj).f0) ((rd_T25 l0 aj).f1) ((rd_T25 l0 aj).f2) ((rd_T25 l0 aj).f3) ((rd_T25 l0 aj).f4) ((rd_T25 l0 aj).f5) ((rd_T25 l0 aj).f6) ((rd_T25 l0 aj).f7) ((rd_T25 l0 aj).f8) ((rd_T25 l0 aj).f9) ((rd_T25 l0 aj).f10) ((rd_T25 l0 aj).f11) ((rd_T25 l0 aj).f12) ((rd_T25 l0 aj).f13) ((rd_T25 l0 aj).f14) ((rd_T25 l0 aj).f15) ((rd_T25 l0 aj).f16) ((rd_T25 l0 aj).f17) ((rd_T25 l0 aj).f18) ((rd_T25 l0 aj).f19) ((rd_T25 l0 aj).f20) _ _ ((rd_T25 l0 aj).f21) ((rd_T25 l0 aj).f22) ((rd_T25 l0 aj).f23) _ _ ((rd_T25 l0 aj).f24) ((rd_T25 l1 aj).f0) ((rd_T25 l1 aj).f1) ((rd_T25 l1 aj).f2) ((rd_T25 l1 aj).f3) ((rd_T25 l1 aj).f4) ((rd_T25 l1 aj).f5) ((rd_T25 l1 aj).f6) ((rd_T25 l1 aj).f7) ((rd_T25 l1 aj).f8) ((rd_T25 l1 aj).f9) ((rd_T25 l1 aj).f10) ((rd_T25 l1 aj).f11) ((rd_T25 l1 aj).f12) ((rd_T25 l1 aj).f13) ((rd_T25 l1 aj).f14) ((rd_T25 l1 aj).f15) ((rd_T25 l1 aj).f16) ((rd_T25 l1 aj).f17) ((rd_T25 l1 aj).f18) ((rd_T25 l1 aj).f19) ((rd_T25 l1 aj).f20) _ _ ((rd_T25 l1 aj).f21) ((rd_T25 l1 aj).f22) ((rd_T25 l1 aj).f23) _ _ ((rd_T25 l1 aj).f24) true _ ?side1 ?side2 ?side3 ?side4 ?side5 ?side6 ?side7 ?side8 A7.out).mono ?_
        (case side1 => exact Z61)
        (case side2 => exact eY.out)
        (case side3 => exact Z60)
        (case side4 => exact eZ.out)
        (case side5 => exact Z99)
        (case side6 => exact hU.out)
        (case side7 => exact Z98)
        (case side8 => exact hV.out)
        rintro e rN ⟨rfl, hb⟩
        refine ⟨_, rfl, ?_⟩
        have bY := Aside0.mk (below_step Z1 hb)
        clear HB
        have HB := bY
        clear bY
        (try clear hb)
        (try clear hb2)
        (try clear hk)
        (try clear hi)
        refine hK.out _ _ ⟨(Sq.up HB.out hw101_0), (Sq.up HB.out hw101_1), (Sq.up HB.out hw101_2), (Sq.up HB.out hw101_3), (Sq.up HB.out hw101_4), (Sq.up HB.out hw101_5), (Sq.up HB.out hw101_6), (Sq.up HB.out hw101_7), (Sq.up HB.out hw101_8), (Sq.up HB.out hw101_9), (Sq.up HB.out hw101_10), (Sq.up HB.out hw101_11), (Sq.up HB.out hw101_12), (Sq.up HB.out hw101_13), (Sq.up HB.out hw101_14), (Sq.up HB.out hw101_15), (Sq.up HB.out hw101_16), (Sq.up HB.out hw101_17), (Sq.up HB.out hw101_18), (Sq.up HB.out hw101_19), (Sq.up HB.out hw101_20), (Sq.up HB.out hw101_21), (Sq.up HB.out hw101_22), (Sq.up HB.out hw101_23), (Sq.up HB.out hw101_24), (Sq.up HB.out hw102_0), (Sq.up HB.out hw102_1), (Sq.up HB.out hw102_2), (Sq.up HB.out hw102_3), (Sq.up HB.out hw102_4), (Sq.up HB.out hw102_5), (Sq.up HB.out hw102_6), (Sq.up HB.out hw102_7), (Sq.up HB.out hw102_8), (Sq.up HB.out hw102_9), (Sq.up HB.out hw102_10), (Sq.up HB.out hw102_11), (Sq.up HB.out hw102_12), (Sq.up HB.out hw102_13), (Sq.up HB.out hw102_14), (Sq.up HB.out hw102_15), (Sq.up HB.out hw102_16), (Sq.up HB.out hw102_17), (Sq.up HB.out hw102_18), (Sq.up HB.out hw102_19), (Sq.up HB.out hw102_20), (Sq.up HB.out hw102_21), (Sq.up HB.out hw102_22), (Sq.up HB.out hw102_23), (Sq.up HB.out hw102_24)⟩ (fun hHeld => ?_)
        clear hK K
        refine norm_ (a' := ?_) ?_ ?_
        rotate_left
        ·show Act.put _ (some 25) _ = _
         simp only [Act.put, Sq.s1, Sq.s2, Sq.s3, i64_w, i32_w]
         rfl
        refine Sq.pur 9 (some 26) (Sq.b 10 1023) HT_.out ?_
        refine done_ (done_of HT_.out Z14) ?_
        try go_wp2_with (first | ((with_reducible refine Pre.gate_load 25 rfl ?_); (try (refine gate_guard Z23 ?_; dsimp only)); refine Pre.load_event_a rfl rfl rfl Z23 Pre.range25 Try.underlying25 rfl Z14 ?_))
        go_roundg k1
        case measure => have := HK1.out; omega
        case rel => exact ⟨(wrap64 (aj + 1)), Z16, H', ⟨Z86⟩, ⟨Z1⟩⟩
       ·replace c8 := Bool.eq_false_iff.mpr c8
        subst c8
        replace H := Sq.itF H
        obtain rfl := Option.some.inj H
        try go_wp2_with (first | ((with_reducible refine Pre.gate_load 25 rfl ?_); (try (refine gate_guard Z23 ?_; dsimp only)); refine Pre.load_event_a rfl rfl rfl Z23 Pre.range25 Try.underlying25 rfl Z14 ?_))
        have bY := Aside0.mk (below_drew1 HB.out)
        clear HB
        have HB := bY
        clear bY
        have p101 : 0 ≤ (aj : Int) := of_decide_eq_true Z6
        have q101 : aj < (l0.length : Int) := of_decide_eq_true Z6
        obtain ⟨ad101, eQ, eR, eS, eT, e101, hx101_0, hx101_1, hx101_2, hx101_3, hx101_4, hx101_5, hx101_6, hx101_7, hx101_8, hx101_9, hx101_10, hx101_11, hx101_12, hx101_13, hx101_14, hx101_15, hx101_16, hx101_17, hx101_18, hx101_19, hx101_20, hx101_21, hx101_22, hx101_23, hx101_24, hl101_21, hi101_21, hl101_24, hi101_24⟩ := at_T25 gY.out aj p101 q101
        have hw101_24 := hx101_24
        have hw101_23 := hx101_23
        have hw101_22 := hx101_22
        have hw101_21 := hx101_21
        have hw101_20 := hx101_20
        have hw101_19 := hx101_19
        have hw101_18 := hx101_18
        have hw101_17 := hx101_17
        have hw101_16 := hx101_16
        have hw101_15 := hx101_15
        have hw101_14 := hx101_14
        have hw101_13 := hx101_13
        have hw101_12 := hx101_12
        have hw101_11 := hx101_11
        have hw101_10 := hx101_10
        have hw101_9 := hx101_9
        have hw101_8 := hx101_8
        have hw101_7 := hx101_7
        have hw101_6 := hx101_6
        have hw101_5 := hx101_5
        have hw101_4 := hx101_4
        have hw101_3 := hx101_3
        have hw101_2 := hx101_2
        have hw101_1 := hx101_1
        have hw101_0 := hx101_0
        cases e101
        replace hx101_0 := Sq.up HB.out hx101_0
        replace hx101_1 := Sq.up HB.out hx101_1
        replace hx101_2 := Sq.up HB.out hx101_2
        replace hx101_3 := Sq.up HB.out hx101_3
        replace hx101_4 := Sq.up HB.out hx101_4
        replace hx101_5 := Sq.up HB.out hx101_5
        replace hx101_6 := Sq.up HB.out hx101_6
        replace hx101_7 := Sq.up HB.out hx101_7
        replace hx101_8 := Sq.up HB.out hx101_8
        replace hx101_9 := Sq.up HB.out hx101_9
        replace hx101_10 := Sq.up HB.out hx101_10
        replace hx101_11 := Sq.up HB.out hx101_11
        replace hx101_12 := Sq.up HB.out hx101_12
        replace hx101_13 := Sq.up HB.out hx101_13
        replace hx101_14 := Sq.up HB.out hx101_14
        replace hx101_15 := Sq.up HB.out hx101_15
        replace hx101_16 := Sq.up HB.out hx101_16
        replace hx101_17 := Sq.up HB.out hx101_17
        replace hx101_18 := Sq.up HB.out hx101_18
        replace hx101_19 := Sq.up HB.out hx101_19
        replace hx101_20 := Sq.up HB.out hx101_20
        replace hx101_21 := Sq.up HB.out hx101_21
        replace hx101_22 := Sq.up HB.out hx101_22
        replace hx101_23 := Sq.up HB.out hx101_23
        replace hx101_24 := Sq.up HB.out hx101_24
        have fn := Aside0.mk hi101_21
        have eY := Aside0.mk hl101_21
        clear hi101_21 hl101_21
        have fo := Aside0.mk hi101_24
        have eZ := Aside0.mk hl101_24
        clear hi101_24 hl101_24
        replace p101 := eq_true p101
        replace q101 := eq_true q101
        have p102 : 0 ≤ (aj : Int) := of_decide_eq_true Z6
        have q102 : aj < (l1.length : Int) := of_decide_eq_true Z6
        obtain ⟨ad102, gP, gQ, gR, gS, e102, hx102_0, hx102_1, hx102_2, hx102_3, hx102_4, hx102_5, hx102_6, hx102_7, hx102_8, hx102_9, hx102_10, hx102_11, hx102_12, hx102_13, hx102_14, hx102_15, hx102_16, hx102_17, hx102_18, hx102_19, hx102_20, hx102_21, hx102_22, hx102_23, hx102_24, hl102_21, hi102_21, hl102_24, hi102_24⟩ := at_T25 nf.out aj p102 q102
        have hw102_24 := hx102_24
        have hw102_23 := hx102_23
        have hw102_22 := hx102_22
        have hw102_21 := hx102_21
        have hw102_20 := hx102_20
        have hw102_19 := hx102_19
        have hw102_18 := hx102_18
        have hw102_17 := hx102_17
        have hw102_16 := hx102_16
        have hw102_15 := hx102_15
        have hw102_14 := hx102_14
        have hw102_13 := hx102_13
        have hw102_12 := hx102_12
        have hw102_11 := hx102_11
        have hw102_10 := hx102_10
        have hw102_9 := hx102_9
        have hw102_8 := hx102_8
        have hw102_7 := hx102_7
        have hw102_6 := hx102_6
        have hw102_5 := hx102_5
        have hw102_4 := hx102_4
        have hw102_3 := hx102_3
        have hw102_2 := hx102_2
        have hw102_1 := hx102_1
        have hw102_0 := hx102_0
        cases e102
        replace hx102_0 := Sq.up HB.out hx102_0
        replace hx102_1 := Sq.up HB.out hx102_1
        replace hx102_2 := Sq.up HB.out hx102_2
        replace hx102_3 := Sq.up HB.out hx102_3
        replace hx102_4 := Sq.up HB.out hx102_4
        replace hx102_5 := Sq.up HB.out hx102_5
        replace hx102_6 := Sq.up HB.out hx102_6
        replace hx102_7 := Sq.up HB.out hx102_7
        replace hx102_8 := Sq.up HB.out hx102_8
        replace hx102_9 := Sq.up HB.out hx102_9
        replace hx102_10 := Sq.up HB.out hx102_10
        replace hx102_11 := Sq.up HB.out hx102_11
        replace hx102_12 := Sq.up HB.out hx102_12
        replace hx102_13 := Sq.up HB.out hx102_13
        replace hx102_14 := Sq.up HB.out hx102_14
        replace hx102_15 := Sq.up HB.out hx102_15
        replace hx102_16 := Sq.up HB.out hx102_16
        replace hx102_17 := Sq.up HB.out hx102_17
        replace hx102_18 := Sq.up HB.out hx102_18
        replace hx102_19 := Sq.up HB.out hx102_19
        replace hx102_20 := Sq.up HB.out hx102_20
        replace hx102_21 := Sq.up HB.out hx102_21
        replace hx102_22 := Sq.up HB.out hx102_22
        replace hx102_23 := Sq.up HB.out hx102_23
        replace hx102_24 := Sq.up HB.out hx102_24
        have gT := Aside0.mk hi102_21
        have hU := Aside0.mk hl102_21
        clear hi102_21 hl102_21
        have gU := Aside0.mk hi102_24
        have hV := Aside0.mk hl102_24
        clear hi102_24 hl102_24
        replace p102 := eq_true p102
        replace q102 := eq_true q102
        refine start_ (n := 10) (S := fun w' => w'.cell? (ad101.add ((aj).toNat * 25)) = some (.int .i64 ((rd_T25 l0 aj).f0)) ∧ w'.cell? ⟨(ad101.add ((aj).toNat * 25)).block, (ad101.add ((aj).toNat * 25)).off + 1, none⟩ = some (.int .i64 ((rd_T25 l0 aj).f1)) ∧ w'.cell? ⟨(ad101.add ((aj).toNat * 25)).block, (ad101.add ((aj).toNat * 25)).off + 2, none⟩ = some (.int .i64 ((rd_T25 l0 aj).f2)) ∧ w'.cell? ⟨(ad101.add ((aj).toNat * 25)).block, (ad101.add ((aj).toNat * 25)).off + 3, none⟩ = some (.string ((rd_T25 l0 aj).f3)) ∧ w'.cell? ⟨(ad101.add ((aj).toNat * 25)).block, (ad101.add ((aj).toNat * 25)).off + 4, none⟩ = some (.int .i64 ((rd_T25 l0 aj).f4)) ∧ w'.cell? ⟨(ad101.add ((aj).toNat * 25)).block, (ad101.add ((aj).toNat * 25)).off + 5, none⟩ = some (.int .i64 ((rd_T25 l0 aj).f5)) ∧ w'.cell? ⟨(ad101.add ((aj).toNat * 25)).block, (ad101.add ((aj).toNat * 25)).off + 6, none⟩ = some (.string ((rd_T25 l0 aj).f6)) ∧ w'.cell? ⟨(ad101.add ((aj).toNat * 25)).block, (ad101.add ((aj).toNat * 25)).off + 7, none⟩ = some (.int .i64 ((rd_T25 l0 aj).f7)) ∧ w'.cell? ⟨(ad101.add ((aj).toNat * 25)).block, (ad101.add ((aj).toNat * 25)).off + 8, none⟩ = some (.int .i64 ((rd_T25 l0 aj).f8)) ∧ w'.cell? ⟨(ad101.add ((aj).toNat * 25)).block, (ad101.add ((aj).toNat * 25)).off + 9, none⟩ = some (.string ((rd_T25 l0 aj).f9)) ∧ w'.cell? ⟨(ad101.add ((aj).toNat * 25)).block, (ad101.add ((aj).toNat * 25)).off + 10, none⟩ = some (.int .i64 ((rd_T25 l0 aj).f10)) ∧ w'.cell? ⟨(ad101.add ((aj).toNat * 25)).block, (ad101.add ((aj).toNat * 25)).off + 11, none⟩ = some (.string ((rd_T25 l0 aj).f11)) ∧ w'.cell? ⟨(ad101.add ((aj).toNat * 25)).block, (ad101.add ((aj).toNat * 25)).off + 12, none⟩ = some (.int .i64 ((rd_T25 l0 aj).f12)) ∧ w'.cell? ⟨(ad101.add ((aj).toNat * 25)).block, (ad101.add ((aj).toNat * 25)).off + 13, none⟩ = some (.int .i64 ((rd_T25 l0 aj).f13)) ∧ w'.cell? ⟨(ad101.add ((aj).toNat * 25)).block, (ad101.add ((aj).toNat * 25)).off + 14, none⟩ = some (.int .i64 ((rd_T25 l0 aj).f14)) ∧ w'.cell? ⟨(ad101.add ((aj).toNat * 25)).block, (ad101.add ((aj).toNat * 25)).off + 15, none⟩ = some (.int .i64 ((rd_T25 l0 aj).f15)) ∧ w'.cell? ⟨(ad101.add ((aj).toNat * 25)).block, (ad101.add ((aj).toNat * 25)).off + 16, none⟩ = some (.int .i64 ((rd_T25 l0 aj).f16)) ∧ w'.cell? ⟨(ad101.add ((aj).toNat * 25)).block, (ad101.add ((aj).toNat * 25)).off + 17, none⟩ = some (.int .i64 ((rd_T25 l0 aj).f17)) ∧ w'.cell? ⟨(ad101.add ((aj).toNat * 25)).block, (ad101.add ((aj).toNat * 25)).off + 18, none⟩ = some (.int .i64 ((rd_T25 l0 aj).f18)) ∧ w'.cell? ⟨(ad101.add ((aj).toNat * 25)).block, (ad101.add ((aj).toNat * 25)).off + 19, none⟩ = some (.string ((rd_T25 l0 aj).f19)) ∧ w'.cell? ⟨(ad101.add ((aj).toNat * 25)).block, (ad101.add ((aj).toNat * 25)).off + 20, none⟩ = some (.string ((rd_T25 l0 aj).f20)) ∧ w'.cell? ⟨(ad101.add ((aj).toNat * 25)).block, (ad101.add ((aj).toNat * 25)).off + 21, none⟩ = some (.slice eQ ((rd_T25 l0 aj).f21).length eR) ∧ w'.cell? ⟨(ad101.add ((aj).toNat * 25)).block, (ad101.add ((aj).toNat * 25)).off + 22, none⟩ = some (.int .i64 ((rd_T25 l0 aj).f22)) ∧ w'.cell? ⟨(ad101.add ((aj).toNat * 25)).block, (ad101.add ((aj).toNat * 25)).off + 23, none⟩ = some (.string ((rd_T25 l0 aj).f23)) ∧ w'.cell? ⟨(ad101.add ((aj).toNat * 25)).block, (ad101.add ((aj).toNat * 25)).off + 24, none⟩ = some (.slice eS ((rd_T25 l0 aj).f24).length eT) ∧ w'.cell? (ad102.add ((aj).toNat * 25)) = some (.int .i64 ((rd_T25 l1 aj).f0)) ∧ w'.cell? ⟨(ad102.add ((aj).toNat * 25)).block, (ad102.add ((aj).toNat * 25)).off + 1, none⟩ = some (.int .i64 ((rd_T25 l1 aj).f1)) ∧ w'.cell? ⟨(ad102.add ((aj).toNat * 25)).block, (ad102.add ((aj).toNat * 25)).off + 2, none⟩ = some (.int .i64 ((rd_T25 l1 aj).f2)) ∧ w'.cell? ⟨(ad102.add ((aj).toNat * 25)).block, (ad102.add ((aj).toNat * 25)).off + 3, none⟩ = some (.string ((rd_T25 l1 aj).f3)) ∧ w'.cell? ⟨(ad102.add ((aj).toNat * 25)).block, (ad102.add ((aj).toNat * 25)).off + 4, none⟩ = some (.int .i64 ((rd_T25 l1 aj).f4)) ∧ w'.cell? ⟨(ad102.add ((aj).toNat * 25)).block, (ad102.add ((aj).toNat * 25)).off + 5, none⟩ = some (.int .i64 ((rd_T25 l1 aj).f5)) ∧ w'.cell? ⟨(ad102.add ((aj).toNat * 25)).block, (ad102.add ((aj).toNat * 25)).off + 6, none⟩ = some (.string ((rd_T25 l1 aj).f6)) ∧ w'.cell? ⟨(ad102.add ((aj).toNat * 25)).block, (ad102.add ((aj).toNat * 25)).off + 7, none⟩ = some (.int .i64 ((rd_T25 l1 aj).f7)) ∧ w'.cell? ⟨(ad102.add ((aj).toNat * 25)).block, (ad102.add ((aj).toNat * 25)).off + 8, none⟩ = some (.int .i64 ((rd_T25 l1 aj).f8)) ∧ w'.cell? ⟨(ad102.add ((aj).toNat * 25)).block, (ad102.add ((aj).toNat * 25)).off + 9, none⟩ = some (.string ((rd_T25 l1 aj).f9)) ∧ w'.cell? ⟨(ad102.add ((aj).toNat * 25)).block, (ad102.add ((aj).toNat * 25)).off + 10, none⟩ = some (.int .i64 ((rd_T25 l1 aj).f10)) ∧ w'.cell? ⟨(ad102.add ((aj).toNat * 25)).block, (ad102.add ((aj).toNat * 25)).off + 11, none⟩ = some (.string ((rd_T25 l1 aj).f11)) ∧ w'.cell? ⟨(ad102.add ((aj).toNat * 25)).block, (ad102.add ((aj).toNat * 25)).off + 12, none⟩ = some (.int .i64 ((rd_T25 l1 aj).f12)) ∧ w'.cell? ⟨(ad102.add ((aj).toNat * 25)).block, (ad102.add ((aj).toNat * 25)).off + 13, none⟩ = some (.int .i64 ((rd_T25 l1 aj).f13)) ∧ w'.cell? ⟨(ad102.add ((aj).toNat * 25)).block, (ad102.add ((aj).toNat * 25)).off + 14, none⟩ = some (.int .i64 ((rd_T25 l1 aj).f14)) ∧ w'.cell? ⟨(ad102.add ((aj).toNat * 25)).block, (ad102.add ((aj).toNat * 25)).off + 15, none⟩ = some (.int .i64 ((rd_T25 l1 aj).f15)) ∧ w'.cell? ⟨(ad102.add ((aj).toNat * 25)).block, (ad102.add ((aj).toNat * 25)).off + 16, none⟩ = some (.int .i64 ((rd_T25 l1 aj).f16)) ∧ w'.cell? ⟨(ad102.add ((aj).toNat * 25)).block, (ad102.add ((aj).toNat * 25)).off + 17, none⟩ = some (.int .i64 ((rd_T25 l1 aj).f17)) ∧ w'.cell? ⟨(ad102.add ((aj).toNat * 25)).block, (ad102.add ((aj).toNat * 25)).off + 18, none⟩ = some (.int .i64 ((rd_T25 l1 aj).f18)) ∧ w'.cell? ⟨(ad102.add ((aj).toNat * 25)).block, (ad102.add ((aj).toNat * 25)).off + 19, none⟩ = some (.string ((rd_T25 l1 aj).f19)) ∧ w'.cell? ⟨(ad102.add ((aj).toNat * 25)).block, (ad102.add ((aj).toNat * 25)).off + 20, none⟩ = some (.string ((rd_T25 l1 aj).f20)) ∧ w'.cell? ⟨(ad102.add ((aj).toNat * 25)).block, (ad102.add ((aj).toNat * 25)).off + 21, none⟩ = some (.slice gP ((rd_T25 l1 aj).f21).length gQ) ∧ w'.cell? ⟨(ad102.add ((aj).toNat * 25)).block, (ad102.add ((aj).toNat * 25)).off + 22, none⟩ = some (.int .i64 ((rd_T25 l1 aj).f22)) ∧ w'.cell? ⟨(ad102.add ((aj).toNat * 25)).block, (ad102.add ((aj).toNat * 25)).off + 23, none⟩ = some (.string ((rd_T25 l1 aj).f23)) ∧ w'.cell? ⟨(ad102.add ((aj).toNat * 25)).block, (ad102.add ((aj).toNat * 25)).off + 24, none⟩ = some (.slice gR ((rd_T25 l1 aj).f24).length gS)) (ds := []) (Sq.b 10 0) Z14 rfl rfl ⟨(Sq.up HB.out hw101_0), (Sq.up HB.out hw101_1), (Sq.up HB.out hw101_2), (Sq.up HB.out hw101_3), (Sq.up HB.out hw101_4), (Sq.up HB.out hw101_5), (Sq.up HB.out hw101_6), (Sq.up HB.out hw101_7), (Sq.up HB.out hw101_8), (Sq.up HB.out hw101_9), (Sq.up HB.out hw101_10), (Sq.up HB.out hw101_11), (Sq.up HB.out hw101_12), (Sq.up HB.out hw101_13), (Sq.up HB.out hw101_14), (Sq.up HB.out hw101_15), (Sq.up HB.out hw101_16), (Sq.up HB.out hw101_17), (Sq.up HB.out hw101_18), (Sq.up HB.out hw101_19), (Sq.up HB.out hw101_20), (Sq.up HB.out hw101_21), (Sq.up HB.out hw101_22), (Sq.up HB.out hw101_23), (Sq.up HB.out hw101_24), (Sq.up HB.out hw102_0), (Sq.up HB.out hw102_1), (Sq.up HB.out hw102_2), (Sq.up HB.out hw102_3), (Sq.up HB.out hw102_4), (Sq.up HB.out hw102_5), (Sq.up HB.out hw102_6), (Sq.up HB.out hw102_7), (Sq.up HB.out hw102_8), (Sq.up HB.out hw102_9), (Sq.up HB.out hw102_10), (Sq.up HB.out hw102_11), (Sq.up HB.out hw102_12), (Sq.up HB.out hw102_13), (Sq.up HB.out hw102_14), (Sq.up HB.out hw102_15), (Sq.up HB.out hw102_16), (Sq.up HB.out hw102_17), (Sq.up HB.out hw102_18), (Sq.up HB.out hw102_19), (Sq.up HB.out hw102_20), (Sq.up HB.out hw102_21), (Sq.up HB.out hw102_22), (Sq.up HB.out hw102_23), (Sq.up HB.out hw102_24)⟩ (fun hHeld => ?_); refine with_tabW roadbookref07_SameAll.tab6 roadbookref07_SameAll.bits6 (fun HT_ HW_ => ?_)
        generalize wr.drew = ln at HB fn fo gT gU hx101_0 hx101_1 hx101_10 hx101_11 hx101_12 hx101_13 hx101_14 hx101_15 hx101_16 hx101_17 hx101_18 hx101_19 hx101_2 hx101_20 hx101_21 hx101_22 hx101_23 hx101_24 hx101_3 hx101_4 hx101_5 hx101_6 hx101_7 hx101_8 hx101_9 hx102_0 hx102_1 hx102_10 hx102_11 hx102_12 hx102_13 hx102_14 hx102_15 hx102_16 hx102_17 hx102_18 hx102_19 hx102_2 hx102_20 hx102_21 hx102_22 hx102_23 hx102_24 hx102_3 hx102_4 hx102_5 hx102_6 hx102_7 hx102_8 hx102_9 hHeld ⊢
        refine Sq.pur 0 (some 17) (Sq.b 10 1) HT_.out ?_
        refine Sq.pur 1 (some 18) (Sq.b 10 3) HT_.out ?_
        refine Sq.pur 2 (some 19) (Sq.b 10 7) HT_.out ?_
        refine Sq.pur 4 (some 21) (Sq.b 10 23) HT_.out ?_
        refine Sq.pur 5 (some 22) (Sq.b 10 55) HT_.out ?_
        refine Sq.pur 6 (some 23) (Sq.b 10 119) HT_.out ?_
        refine Sq.tak 3 (some 20) (Sq.b 10 127) HT_.out HW_.out hHeld (v := ?_) (a' := ?_) ?_ ?_ ?_
        rotate_left
        ·rintro w' ⟨s0, s1, s2, s3, s4, s5, s6, s7, s8, s9, s10, s11, s12, s13, s14, s15, s16, s17, s18, s19, s20, s21, s22, s23, s24, s25, s26, s27, s28, s29, s30, s31, s32, s33, s34, s35, s36, s37, s38, s39, s40, s41, s42, s43, s44, s45, s46, s47, s48, s49⟩
         first | (refine Eq.trans (Pre.load_run (ty := 25) rfl Z23 Z81 Try.underlying25 rfl Z14) ?_; with_reducible rfl) | (refine Eq.trans (Pre.load_run_a (ty := 25) rfl Z23 Pre.range25 Try.underlying25 rfl Z14) ?_; with_reducible rfl) | (go_simp; with_reducible rfl)
        rotate_left
        ·simp only [Act.put, Sq.s1, Sq.s2, Sq.s3, i64_w, i32_w]
         rfl
        refine Sq.tak 7 (some 24) (Sq.b 10 255) HT_.out HW_.out hHeld (v := ?_) (a' := ?_) ?_ ?_ ?_
        rotate_left
        ·rintro w' ⟨s0, s1, s2, s3, s4, s5, s6, s7, s8, s9, s10, s11, s12, s13, s14, s15, s16, s17, s18, s19, s20, s21, s22, s23, s24, s25, s26, s27, s28, s29, s30, s31, s32, s33, s34, s35, s36, s37, s38, s39, s40, s41, s42, s43, s44, s45, s46, s47, s48, s49⟩
         first | (refine Eq.trans (Pre.load_run (ty := 25) rfl Z23 Z81 Try.underlying25 rfl Z14) ?_; with_reducible rfl) | (refine Eq.trans (Pre.load_run_a (ty := 25) rfl Z23 Pre.range25 Try.underlying25 rfl Z14) ?_; with_reducible rfl) | (go_simp; with_reducible rfl)
        rotate_left
        ·simp only [Act.put, Sq.s1, Sq.s2, Sq.s3, i64_w, i32_w]
         rfl
        refine one_ (i := 8) (N := some 25) (Sq.b 10 511) rfl rfl (one_of HT_.out Z14) Z29 (fun K hK => ?_)
        refine goes_ Try.func24 Z14 rfl #[.agg #[.int .i64 ((rd_T25 l0 aj).f0), .int .i64 ((rd_T25 l0 aj).f1), .int .i64 ((rd_T25 l0 aj).f2), .string ((rd_T25 l0 aj).f3), .int .i64 ((rd_T25 l0 aj).f4), .int .i64 ((rd_T25 l0 aj).f5), .string ((rd_T25 l0 aj).f6), .int .i64 ((rd_T25 l0 aj).f7), .int .i64 ((rd_T25 l0 aj).f8), .string ((rd_T25 l0 aj).f9), .int .i64 ((rd_T25 l0 aj).f10), .string ((rd_T25 l0 aj).f11), .int .i64 ((rd_T25 l0 aj).f12), .int .i64 ((rd_T25 l0 aj).f13), .int .i64 ((rd_T25 l0 aj).f14), .int .i64 ((rd_T25 l0 aj).f15), .int .i64 ((rd_T25 l0 aj).f16), .int .i64 ((rd_T25 l0 aj).f17), .int .i64 ((rd_T25 l0 aj).f18), .string ((rd_T25 l0 aj).f19), .string ((rd_T25 l0 aj).f20), .slice eQ ((rd_T25 l0 aj).f21).length eR, .int .i64 ((rd_T25 l0 aj).f22), .string ((rd_T25 l0 aj).f23), .slice eS ((rd_T25 l0 aj).f24).length eT], .agg #[.int .i64 ((rd_T25 l1 aj).f0), .int .i64 ((rd_T25 l1 aj).f1), .int .i64 ((rd_T25 l1 aj).f2), .string ((rd_T25 l1 aj).f3), .int .i64 ((rd_T25 l1 aj).f4), .int .i64 ((rd_T25 l1 aj).f5), .string ((rd_T25 l1 aj).f6), .int .i64 ((rd_T25 l1 aj).f7), .int .i64 ((rd_T25 l1 aj).f8), .string ((rd_T25 l1 aj).f9), .int .i64 ((rd_T25 l1 aj).f10), .string ((rd_T25 l1 aj).f11), .int .i64 ((rd_T25 l1 aj).f12), .int .i64 ((rd_T25 l1 aj).f13), .int .i64 ((rd_T25 l1 aj).f14), .int .i64 ((rd_T25 l1 aj).f15), .int .i64 ((rd_T25 l1 aj).f16), .int .i64 ((rd_T25 l1 aj).f17), .int .i64 ((rd_T25 l1 aj).f18), .string ((rd_T25 l1 aj).f19), .string ((rd_T25 l1 aj).f20), .slice gP ((rd_T25 l1 aj).f21).length gQ, .int .i64 ((rd_T25 l1 aj).f22), .string ((rd_T25 l1 aj).f23), .slice gR ((rd_T25 l1 aj).f24).length gS]] Z23 rfl rfl Z4 ?_
        with_reducible refine (roadbookref07_Same.calls k1 ((rd_T25 l0 aj).f0) ((rd_T25 l0 aj).f1) ((rd_T25 l0 aj).f2) ((rd_T25 l0 aj).f3) ((rd_T25 l0 aj).f4) ((rd_T25 l0 aj).f5) ((rd_T25 l0 aj).f6) ((rd_T25 l0 aj).f7) ((rd_T25 l0 aj).f8) ((rd_T25 l0 aj).f9) ((rd_T25 l0 aj).f10) ((rd_T25 l0 aj).f11) ((rd_T25 l0 aj).f12) ((rd_T25 l0 aj).f13) ((rd_T25 l0 aj).f14) ((rd_T25 l0 aj).f15) ((rd_T25 l0 aj).f16) ((rd_T25 l0 aj).f17) ((rd_T25 l0 aj).f18) ((rd_T25 l0 aj).f19) ((rd_T25 l0 aj).f20) _ _ ((rd_T25 l0 aj).f21) ((rd_T25 l0 aj).f22) ((rd_T25 l0 aj).f23) _ _ ((rd_T25 l0 aj).f24) ((rd_T25 l1 aj).f0) ((rd_T25 l1 aj).f1) ((rd_T25 l1 aj).f2) ((rd_T25 l1 aj).f3) ((rd_T25 l1 aj).f4) ((rd_T25 l1 aj).f5) ((rd_T25 l1 aj).f6) ((rd_T25 l1 aj).f7) ((rd_T25 l1 aj).f8) ((rd_T25 l1 aj).f9) ((rd_T25 l1 aj).f10) ((rd_T25 l1 aj).f11) ((rd_T25 l1 aj).f12) ((rd_T25 l1 aj).f13) ((rd_T25 l1 aj).f14) ((rd_T25 l1 aj).f15) ((rd_T25 l1 aj).f16) ((rd_T25 l1 aj).f17) ((rd_T25 l1 aj).f18) ((rd_T25 l1 aj).f19) ((rd_T25 l1 aj).f20) _ _ ((rd_T25 l1 aj).f21) ((rd_T25 l1 aj).f22) ((rd_T25 l1 aj).f23) _ _ ((rd_T25 l1 aj).f24) false _ ?side1 ?side2 ?side3 ?side4 ?side5 ?side6 ?side7 ?side8 A7.out).mono ?_
        (case side1 => exact Z61)
        (case side2 => exact eY.out)
        (case side3 => exact Z60)
        (case side4 => exact eZ.out)
        (case side5 => exact Z99)
        (case side6 => exact hU.out)
        (case side7 => exact Z98)
        (case side8 => exact hV.out)
        rintro e po ⟨rfl, hb⟩
        refine ⟨_, rfl, ?_⟩
        have bY := Aside0.mk (below_step Z1 hb)
        clear HB
        have HB := bY
        clear bY
        (try clear hb)
        (try clear hb2)
        (try clear hk)
        (try clear hi)
        refine hK.out _ _ ⟨(Sq.up HB.out hw101_0), (Sq.up HB.out hw101_1), (Sq.up HB.out hw101_2), (Sq.up HB.out hw101_3), (Sq.up HB.out hw101_4), (Sq.up HB.out hw101_5), (Sq.up HB.out hw101_6), (Sq.up HB.out hw101_7), (Sq.up HB.out hw101_8), (Sq.up HB.out hw101_9), (Sq.up HB.out hw101_10), (Sq.up HB.out hw101_11), (Sq.up HB.out hw101_12), (Sq.up HB.out hw101_13), (Sq.up HB.out hw101_14), (Sq.up HB.out hw101_15), (Sq.up HB.out hw101_16), (Sq.up HB.out hw101_17), (Sq.up HB.out hw101_18), (Sq.up HB.out hw101_19), (Sq.up HB.out hw101_20), (Sq.up HB.out hw101_21), (Sq.up HB.out hw101_22), (Sq.up HB.out hw101_23), (Sq.up HB.out hw101_24), (Sq.up HB.out hw102_0), (Sq.up HB.out hw102_1), (Sq.up HB.out hw102_2), (Sq.up HB.out hw102_3), (Sq.up HB.out hw102_4), (Sq.up HB.out hw102_5), (Sq.up HB.out hw102_6), (Sq.up HB.out hw102_7), (Sq.up HB.out hw102_8), (Sq.up HB.out hw102_9), (Sq.up HB.out hw102_10), (Sq.up HB.out hw102_11), (Sq.up HB.out hw102_12), (Sq.up HB.out hw102_13), (Sq.up HB.out hw102_14), (Sq.up HB.out hw102_15), (Sq.up HB.out hw102_16), (Sq.up HB.out hw102_17), (Sq.up HB.out hw102_18), (Sq.up HB.out hw102_19), (Sq.up HB.out hw102_20), (Sq.up HB.out hw102_21), (Sq.up HB.out hw102_22), (Sq.up HB.out hw102_23), (Sq.up HB.out hw102_24)⟩ (fun hHeld => ?_)
        clear hK K
        refine norm_ (a' := ?_) ?_ ?_
        rotate_left
        ·show Act.put _ (some 25) _ = _
         simp only [Act.put, Sq.s1, Sq.s2, Sq.s3, i64_w, i32_w]
         rfl
        refine Sq.pur 9 (some 26) (Sq.b 10 1023) HT_.out ?_
        refine done_ (done_of HT_.out Z14) ?_
        try go_wp2_with (first | ((with_reducible refine Pre.gate_load 25 rfl ?_); (try (refine gate_guard Z23 ?_; dsimp only)); refine Pre.load_event_a rfl rfl rfl Z23 Pre.range25 Try.underlying25 rfl Z14 ?_))
        go_ret
        exact ⟨Z5, Z1⟩
      ·rw [if_neg c6] at H
       exact absurd H Z71
     ·rw [if_neg c5] at H
      exact absurd H Z71
    ·rw [if_neg c4] at H
     have dg : decide (aj < (l0.length : Int)) = false := decide_eq_false c4
     clear c4
     obtain rfl := Option.some.inj H
     go_wp2_with (first | ((with_reducible refine Pre.gate_load 25 rfl ?_); (try (refine gate_guard Z23 ?_; dsimp only)); refine Pre.load_event_a rfl rfl rfl Z23 Pre.range25 Try.underlying25 rfl Z14 ?_))
     go_ret
     exact ⟨Z5, Z1⟩
 ·rw [if_neg c3] at H
  have fZ : ((l0.length : Int) == (l1.length : Int)) = false := beq_eq_false_iff_ne.mpr c3
  have hT : ((l0.length : Int) != (l1.length : Int)) = true := bne_iff_ne.mpr c3
  have jt : (l0.length == l1.length) = false := by first | simpa using c3 | (simp at c3 ⊢; omega)
  obtain rfl := Option.some.inj H
  go_enter Try.func43, Try.ntmps43
  go_wp2_with (first | ((with_reducible refine Pre.gate_load 25 rfl ?_); (try (refine gate_guard Z23 ?_; dsimp only)); refine Pre.load_event_a rfl rfl rfl Z23 Pre.range25 Try.underlying25 rfl Z14 ?_))
  go_ret
  exact ⟨Z5, Z1⟩

end Go.Proofs.Ytccjakjjaemmkaa.PAB
