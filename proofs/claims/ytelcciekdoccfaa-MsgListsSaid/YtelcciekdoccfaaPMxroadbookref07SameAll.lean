-- Written by mp.py, a program of this work (wip/tools), out of the translation; Lean checks it.
import Derived.Test.YtelcciekdoccfaaPMxZ
import Derived.Test.YtelcciekdoccfaaPMxroadbookref07Same
import Derived.Test.YtelcciekdoccfaaLoad
namespace Go.Proofs.Ytelcciekdoccfaa.PM
open Go.RowKit Go.Proofs.YtelcciekdoccfaaW.PrintWords Go.Proofs.YtelcciekdoccfaaW.PrintLast Go.Proofs.YtelcciekdoccfaaW.PrintMore
attribute [local go_sem] max2_int min2_int max_two min_two max_three min_three max_four min_four   -- for this text's walks alone
set_option linter.unusedVariables false
set_option linter.unusedSimpArgs false

/-! ### roadbookref07_SameAll: function 65 -/
def roadbookref07_SameAll.l0 : Nat → List (S58) → List (S58) → Int → Option (Bool)
 | 0, _, _, _ => none
 | k + 1, x0, x1, x5 => if x5 < (x0.length : Int) then (if 0 ≤ x5 then (if x5 < (x1.length : Int) then ((roadbookref07_Same.f k ((rd_T58 x0 x5).f0) ((rd_T58 x0 x5).f1) ((rd_T58 x0 x5).f2) ((rd_T58 x0 x5).f3) ((rd_T58 x0 x5).f4) ((rd_T58 x0 x5).f5) ((rd_T58 x0 x5).f6) ((rd_T58 x0 x5).f7) ((rd_T58 x0 x5).f8) ((rd_T58 x0 x5).f9) ((rd_T58 x0 x5).f10) ((rd_T58 x0 x5).f11) ((rd_T58 x0 x5).f12) ((rd_T58 x0 x5).f13) ((rd_T58 x0 x5).f14) ((rd_T58 x0 x5).f15) ((rd_T58 x0 x5).f16) ((rd_T58 x0 x5).f17) ((rd_T58 x0 x5).f18) ((rd_T58 x0 x5).f19) ((rd_T58 x0 x5).f20) ((rd_T58 x0 x5).f21) ((rd_T58 x0 x5).f22) ((rd_T58 x0 x5).f23) ((rd_T58 x0 x5).f24) ((rd_T58 x1 x5).f0) ((rd_T58 x1 x5).f1) ((rd_T58 x1 x5).f2) ((rd_T58 x1 x5).f3) ((rd_T58 x1 x5).f4) ((rd_T58 x1 x5).f5) ((rd_T58 x1 x5).f6) ((rd_T58 x1 x5).f7) ((rd_T58 x1 x5).f8) ((rd_T58 x1 x5).f9) ((rd_T58 x1 x5).f10) ((rd_T58 x1 x5).f11) ((rd_T58 x1 x5).f12) ((rd_T58 x1 x5).f13) ((rd_T58 x1 x5).f14) ((rd_T58 x1 x5).f15) ((rd_T58 x1 x5).f16) ((rd_T58 x1 x5).f17) ((rd_T58 x1 x5).f18) ((rd_T58 x1 x5).f19) ((rd_T58 x1 x5).f20) ((rd_T58 x1 x5).f21) ((rd_T58 x1 x5).f22) ((rd_T58 x1 x5).f23) ((rd_T58 x1 x5).f24)).bind fun cC => (if cC = true then (roadbookref07_SameAll.l0 k x0 x1 (wrap64 (x5 + 1))) else (some false))) else (none)) else (none)) else (some true)
def roadbookref07_SameAll.f (k : Nat) (l0 : List (S58)) (l1 : List (S58)) : Option (Bool) := if (l0.length : Int) = (l1.length : Int) then (roadbookref07_SameAll.l0 k l0 l1 0) else (some false)
theorem roadbookref07_SameAll.mono_l : ∀ k, (∀ y0 y1 y2, LeO (roadbookref07_SameAll.l0 k y0 y1 y2) (roadbookref07_SameAll.l0 (k + 1) y0 y1 y2))
 | 0 => fun _ _ _ r h => by simp [roadbookref07_SameAll.l0] at h
 | k + 1 => by
  have ih0 := roadbookref07_SameAll.mono_l k
  ·intro y0 y1 y2
   unfold roadbookref07_SameAll.l0
   repeat' first
   | (with_reducible exact ih0 ..)
   | (with_reducible exact roadbookref07_Same.mono _ _ _ _ _ _ _ _ _ _ _ _ _ _ _ _ _ _ _ _ _ _ _ _ _ _ _ _ _ _ _ _ _ _ _ _ _ _ _ _ _ _ _ _ _ _ _ _ _ _ _)
   | (with_reducible exact LeO.refl _)
   | (with_reducible exact LeO.none _)
   | (with_reducible refine LeO.ite ?_ ?_)
   | (with_reducible refine LeO.bind ?_ (fun _ => ?_))
   | exact ih0 ..
   | exact roadbookref07_Same.mono _ _ _ _ _ _ _ _ _ _ _ _ _ _ _ _ _ _ _ _ _ _ _ _ _ _ _ _ _ _ _ _ _ _ _ _ _ _ _ _ _ _ _ _ _ _ _ _ _ _ _
   | exact LeO.none _
   | refine LeO.ite ?_ ?_
   | refine LeO.bind ?_ (fun _ => ?_)
theorem roadbookref07_SameAll.mono : ∀ a0 a1 k, LeO (roadbookref07_SameAll.f k a0 a1) (roadbookref07_SameAll.f (k + 1) a0 a1) := by
 intro a0 a1 k
 have ih0 := roadbookref07_SameAll.mono_l k
 unfold roadbookref07_SameAll.f
 repeat' first
   | (with_reducible exact ih0 ..)
   | (with_reducible exact roadbookref07_Same.mono _ _ _ _ _ _ _ _ _ _ _ _ _ _ _ _ _ _ _ _ _ _ _ _ _ _ _ _ _ _ _ _ _ _ _ _ _ _ _ _ _ _ _ _ _ _ _ _ _ _ _)
   | (with_reducible exact LeO.refl _)
   | (with_reducible exact LeO.none _)
   | (with_reducible refine LeO.ite ?_ ?_)
   | (with_reducible refine LeO.bind ?_ (fun _ => ?_))
   | exact ih0 ..
   | exact roadbookref07_Same.mono _ _ _ _ _ _ _ _ _ _ _ _ _ _ _ _ _ _ _ _ _ _ _ _ _ _ _ _ _ _ _ _ _ _ _ _ _ _ _ _ _ _ _ _ _ _ _ _ _ _ _
   | exact LeO.none _
   | refine LeO.ite ?_ ?_
   | refine LeO.bind ?_ (fun _ => ?_)
def roadbookref07_SameAll.T6 : Bool × List (List Nat × List Nat) := (true, [([], []), ([], []), ([0, 1], [0, 1]), ([2], [2]), ([], []), ([], []), ([4, 5], [4, 5]), ([6], [6]), ([3, 7], [3, 7]), ([8], [8])])
def roadbookref07_SameAll.B6 : List Nat := [0, 0, 3, 7, 0, 0, 48, 112, 255, 511]
theorem roadbookref07_SameAll.tab6 : rtab .any (opsOf Try.f65 6) = roadbookref07_SameAll.T6 := by kernel_rfl
theorem roadbookref07_SameAll.bits6 : waitsOk roadbookref07_SameAll.T6.2 roadbookref07_SameAll.B6 = true := by kernel_rfl

set_option maxHeartbeats 8000000 in
set_option maxRecDepth 100000 in
theorem roadbookref07_SameAll.calls (k : Nat) (A0 : Option Addr) (c0 : Nat) (l0 : List (S58)) (A1 : Option Addr) (c1 : Nat) (l1 : List (S58)) (r : Bool) (w : World) (dm : Kd.C k58 w A0 l0.length l0) (cU : l0.length ≤ c0) (fh : Kd.C k58 w A1 l1.length l1) (fi : l1.length ≤ c1) (h : roadbookref07_SameAll.f k l0 l1 = some r) :
  Calls Try.prog 65 #[.slice A0 l0.length c0, .slice A1 l1.length c1] w fun e w' => e = .returned (.bool r) ∧ Below w.heap.size w w' := by
 have fp := Try.underlying58
 have df := Aside0.mk dm
 have fP := Aside0.mk cU
 clear dm cU
 have fj := Aside0.mk fh
 have ig := Aside0.mk fi
 clear fh fi
 have HB := Aside0.mk (Below.refl w.heap.size w)
 have H : (if (l0.length : Int) = (l1.length : Int) then (roadbookref07_SameAll.l0 k l0 l1 0) else (some false)) = some r := h
 clear h
 by_cases c3 : (l0.length : Int) = (l1.length : Int)
 ·rw [if_pos c3] at H
  have db : ((l0.length : Int) == (l1.length : Int)) = true := beq_iff_eq.mpr c3
  have dn : ((l0.length : Int) != (l1.length : Int)) = false := bne_eq_false_iff_eq.mpr c3
  have dp : (l0.length == l1.length) = true := by first | simpa using c3 | (simp at c3 ⊢; omega)
  clear c3
  have H' := Aside0.mk H
  clear H
  go_enter Try.func65, Try.ntmps65
  go_wp2_with (first | ((with_reducible refine Pre.gate_load 58 rfl ?_); (try (refine gate_guard Z13 ?_; dsimp only)); refine Pre.load_event_a rfl rfl rfl Z13 Pre.range25 Try.underlying58 rfl Z5 ?_))
  go_loopg [5] k (fun kq v5 w' => ∃ (aa : Int), v5 = .int .i64 aa ∧ Aside0 (roadbookref07_SameAll.l0 kq l0 l1 aa = some r) ∧ Aside0 (kq ≤ k) ∧ Aside0 (Below w.heap.size w w'))
  case atStart => exact ⟨(0), Z7, H', ⟨Nat.le_refl _⟩, ⟨Z0⟩⟩
  case round =>
   clear H'
   try clear c1
   try clear p2
   try clear c3
   try clear db
   try clear dn
   try clear dp
   obtain ⟨aa, rfl, HA, HK1, HB⟩ := hrel
   cases gk with
   | zero => exact absurd HA.out (by simp [roadbookref07_SameAll.l0])
   | succ k1 =>
    have H := HA.out
    clear HA
    simp only [roadbookref07_SameAll.l0] at H
    by_cases c4 : aa < (l0.length : Int)
    ·rw [if_pos c4] at H
     have cL : decide (aa < (l0.length : Int)) = true := decide_eq_true c4
     clear c4
     by_cases c5 : 0 ≤ aa
     ·rw [if_pos c5] at H
      have ec : decide (0 ≤ aa) = true := decide_eq_true c5
      clear c5
      by_cases c6 : aa < (l1.length : Int)
      ·rw [if_pos c6] at H
       have dC : decide (aa < (l1.length : Int)) = true := decide_eq_true c6
       clear c6
       replace H := Option.bind_eq_some_iff.mp H
       obtain ⟨cC, hF, H⟩ := H
       replace H : (if cC = true then (roadbookref07_SameAll.l0 k1 l0 l1 (wrap64 (aa + 1))) else (some false)) = some r := H
       have A7 := Aside0.mk hF
       clear hF
       by_cases c8 : cC = true
       ·subst c8
        replace H := Sq.itT H
        have H' := Aside0.mk H
        clear H
        try go_wp2_with (first | ((with_reducible refine Pre.gate_load 58 rfl ?_); (try (refine gate_guard Z13 ?_; dsimp only)); refine Pre.load_event_a rfl rfl rfl Z13 Pre.range25 Try.underlying58 rfl Z5 ?_))
        have aH := Aside0.mk (below_drew1 HB.out)
        clear HB
        have HB := aH
        clear aH
        have p101 : 0 ≤ (aa : Int) := of_decide_eq_true Z2
        have q101 : aa < (l0.length : Int) := of_decide_eq_true Z2
        obtain ⟨ad101, cM, cN, cO, cP, e101, hx101_0, hx101_1, hx101_2, hx101_3, hx101_4, hx101_5, hx101_6, hx101_7, hx101_8, hx101_9, hx101_10, hx101_11, hx101_12, hx101_13, hx101_14, hx101_15, hx101_16, hx101_17, hx101_18, hx101_19, hx101_20, hx101_21, hx101_22, hx101_23, hx101_24, hl101_21, hi101_21, hl101_24, hi101_24⟩ := at_T58 df.out aa p101 q101
        have hw101_24 := hx101_24
        have hw101_23 := hx101_23
        have hw101_22 := hx101_22
        have hw101_21 := hx101_21
        have hw101_20 := hx101_20
        have hw101_19 := hx101_19
        have hw101_18 := hx101_18
        have hw101_17 := hx101_17
        have hw101_16 := hx101_16
        have hw101_15 := hx101_15
        have hw101_14 := hx101_14
        have hw101_13 := hx101_13
        have hw101_12 := hx101_12
        have hw101_11 := hx101_11
        have hw101_10 := hx101_10
        have hw101_9 := hx101_9
        have hw101_8 := hx101_8
        have hw101_7 := hx101_7
        have hw101_6 := hx101_6
        have hw101_5 := hx101_5
        have hw101_4 := hx101_4
        have hw101_3 := hx101_3
        have hw101_2 := hx101_2
        have hw101_1 := hx101_1
        have hw101_0 := hx101_0
        cases e101
        replace hx101_0 := (HB.out.cell (World.block_lt_of_cell? w _ hx101_0)).trans hx101_0
        replace hx101_1 := (HB.out.cell (World.block_lt_of_cell? w _ hx101_1)).trans hx101_1
        replace hx101_2 := (HB.out.cell (World.block_lt_of_cell? w _ hx101_2)).trans hx101_2
        replace hx101_3 := (HB.out.cell (World.block_lt_of_cell? w _ hx101_3)).trans hx101_3
        replace hx101_4 := (HB.out.cell (World.block_lt_of_cell? w _ hx101_4)).trans hx101_4
        replace hx101_5 := (HB.out.cell (World.block_lt_of_cell? w _ hx101_5)).trans hx101_5
        replace hx101_6 := (HB.out.cell (World.block_lt_of_cell? w _ hx101_6)).trans hx101_6
        replace hx101_7 := (HB.out.cell (World.block_lt_of_cell? w _ hx101_7)).trans hx101_7
        replace hx101_8 := (HB.out.cell (World.block_lt_of_cell? w _ hx101_8)).trans hx101_8
        replace hx101_9 := (HB.out.cell (World.block_lt_of_cell? w _ hx101_9)).trans hx101_9
        replace hx101_10 := (HB.out.cell (World.block_lt_of_cell? w _ hx101_10)).trans hx101_10
        replace hx101_11 := (HB.out.cell (World.block_lt_of_cell? w _ hx101_11)).trans hx101_11
        replace hx101_12 := (HB.out.cell (World.block_lt_of_cell? w _ hx101_12)).trans hx101_12
        replace hx101_13 := (HB.out.cell (World.block_lt_of_cell? w _ hx101_13)).trans hx101_13
        replace hx101_14 := (HB.out.cell (World.block_lt_of_cell? w _ hx101_14)).trans hx101_14
        replace hx101_15 := (HB.out.cell (World.block_lt_of_cell? w _ hx101_15)).trans hx101_15
        replace hx101_16 := (HB.out.cell (World.block_lt_of_cell? w _ hx101_16)).trans hx101_16
        replace hx101_17 := (HB.out.cell (World.block_lt_of_cell? w _ hx101_17)).trans hx101_17
        replace hx101_18 := (HB.out.cell (World.block_lt_of_cell? w _ hx101_18)).trans hx101_18
        replace hx101_19 := (HB.out.cell (World.block_lt_of_cell? w _ hx101_19)).trans hx101_19
        replace hx101_20 := (HB.out.cell (World.block_lt_of_cell? w _ hx101_20)).trans hx101_20
        replace hx101_21 := (HB.out.cell (World.block_lt_of_cell? w _ hx101_21)).trans hx101_21
        replace hx101_22 := (HB.out.cell (World.block_lt_of_cell? w _ hx101_22)).trans hx101_22
        replace hx101_23 := (HB.out.cell (World.block_lt_of_cell? w _ hx101_23)).trans hx101_23
        replace hx101_24 := (HB.out.cell (World.block_lt_of_cell? w _ hx101_24)).trans hx101_24
        have cX := Aside0.mk hi101_21
        have cR := Aside0.mk hl101_21
        clear hi101_21 hl101_21
        have cY := Aside0.mk hi101_24
        have cS := Aside0.mk hl101_24
        clear hi101_24 hl101_24
        replace p101 := eq_true p101
        replace q101 := eq_true q101
        have p102 : 0 ≤ (aa : Int) := of_decide_eq_true Z2
        have q102 : aa < (l1.length : Int) := of_decide_eq_true Z2
        obtain ⟨ad102, dq, dr, dt, du, e102, hx102_0, hx102_1, hx102_2, hx102_3, hx102_4, hx102_5, hx102_6, hx102_7, hx102_8, hx102_9, hx102_10, hx102_11, hx102_12, hx102_13, hx102_14, hx102_15, hx102_16, hx102_17, hx102_18, hx102_19, hx102_20, hx102_21, hx102_22, hx102_23, hx102_24, hl102_21, hi102_21, hl102_24, hi102_24⟩ := at_T58 fj.out aa p102 q102
        have hw102_24 := hx102_24
        have hw102_23 := hx102_23
        have hw102_22 := hx102_22
        have hw102_21 := hx102_21
        have hw102_20 := hx102_20
        have hw102_19 := hx102_19
        have hw102_18 := hx102_18
        have hw102_17 := hx102_17
        have hw102_16 := hx102_16
        have hw102_15 := hx102_15
        have hw102_14 := hx102_14
        have hw102_13 := hx102_13
        have hw102_12 := hx102_12
        have hw102_11 := hx102_11
        have hw102_10 := hx102_10
        have hw102_9 := hx102_9
        have hw102_8 := hx102_8
        have hw102_7 := hx102_7
        have hw102_6 := hx102_6
        have hw102_5 := hx102_5
        have hw102_4 := hx102_4
        have hw102_3 := hx102_3
        have hw102_2 := hx102_2
        have hw102_1 := hx102_1
        have hw102_0 := hx102_0
        cases e102
        replace hx102_0 := (HB.out.cell (World.block_lt_of_cell? w _ hx102_0)).trans hx102_0
        replace hx102_1 := (HB.out.cell (World.block_lt_of_cell? w _ hx102_1)).trans hx102_1
        replace hx102_2 := (HB.out.cell (World.block_lt_of_cell? w _ hx102_2)).trans hx102_2
        replace hx102_3 := (HB.out.cell (World.block_lt_of_cell? w _ hx102_3)).trans hx102_3
        replace hx102_4 := (HB.out.cell (World.block_lt_of_cell? w _ hx102_4)).trans hx102_4
        replace hx102_5 := (HB.out.cell (World.block_lt_of_cell? w _ hx102_5)).trans hx102_5
        replace hx102_6 := (HB.out.cell (World.block_lt_of_cell? w _ hx102_6)).trans hx102_6
        replace hx102_7 := (HB.out.cell (World.block_lt_of_cell? w _ hx102_7)).trans hx102_7
        replace hx102_8 := (HB.out.cell (World.block_lt_of_cell? w _ hx102_8)).trans hx102_8
        replace hx102_9 := (HB.out.cell (World.block_lt_of_cell? w _ hx102_9)).trans hx102_9
        replace hx102_10 := (HB.out.cell (World.block_lt_of_cell? w _ hx102_10)).trans hx102_10
        replace hx102_11 := (HB.out.cell (World.block_lt_of_cell? w _ hx102_11)).trans hx102_11
        replace hx102_12 := (HB.out.cell (World.block_lt_of_cell? w _ hx102_12)).trans hx102_12
        replace hx102_13 := (HB.out.cell (World.block_lt_of_cell? w _ hx102_13)).trans hx102_13
        replace hx102_14 := (HB.out.cell (World.block_lt_of_cell? w _ hx102_14)).trans hx102_14
        replace hx102_15 := (HB.out.cell (World.block_lt_of_cell? w _ hx102_15)).trans hx102_15
        replace hx102_16 := (HB.out.cell (World.block_lt_of_cell? w _ hx102_16)).trans hx102_16
        replace hx102_17 := (HB.out.cell (World.block_lt_of_cell? w _ hx102_17)).trans hx102_17
        replace hx102_18 := (HB.out.cell (World.block_lt_of_cell? w _ hx102_18)).trans hx102_18
        replace hx102_19 := (HB.out.cell (World.block_lt_of_cell? w _ hx102_19)).trans hx102_19
        replace hx102_20 := (HB.out.cell (World.block_lt_of_cell? w _ hx102_20)).trans hx102_20
        replace hx102_21 := (HB.out.cell (World.block_lt_of_cell? w _ hx102_21)).trans hx102_21
        replace hx102_22 := (HB.out.cell (World.block_lt_of_cell? w _ hx102_22)).trans hx102_22
        replace hx102_23 := (HB.out.cell (World.block_lt_of_cell? w _ hx102_23)).trans hx102_23
        replace hx102_24 := (HB.out.cell (World.block_lt_of_cell? w _ hx102_24)).trans hx102_24
        have dv := Aside0.mk hi102_21
        have ee := Aside0.mk hl102_21
        clear hi102_21 hl102_21
        have dw := Aside0.mk hi102_24
        have ef := Aside0.mk hl102_24
        clear hi102_24 hl102_24
        replace p102 := eq_true p102
        replace q102 := eq_true q102
        refine start_ (n := 10) (S := fun w' => w'.cell? (ad101.add ((aa).toNat * 25)) = some (.int .i64 ((rd_T58 l0 aa).f0)) ∧ w'.cell? ⟨(ad101.add ((aa).toNat * 25)).block, (ad101.add ((aa).toNat * 25)).off + 1, none⟩ = some (.int .i64 ((rd_T58 l0 aa).f1)) ∧ w'.cell? ⟨(ad101.add ((aa).toNat * 25)).block, (ad101.add ((aa).toNat * 25)).off + 2, none⟩ = some (.int .i64 ((rd_T58 l0 aa).f2)) ∧ w'.cell? ⟨(ad101.add ((aa).toNat * 25)).block, (ad101.add ((aa).toNat * 25)).off + 3, none⟩ = some (.string ((rd_T58 l0 aa).f3)) ∧ w'.cell? ⟨(ad101.add ((aa).toNat * 25)).block, (ad101.add ((aa).toNat * 25)).off + 4, none⟩ = some (.int .i64 ((rd_T58 l0 aa).f4)) ∧ w'.cell? ⟨(ad101.add ((aa).toNat * 25)).block, (ad101.add ((aa).toNat * 25)).off + 5, none⟩ = some (.int .i64 ((rd_T58 l0 aa).f5)) ∧ w'.cell? ⟨(ad101.add ((aa).toNat * 25)).block, (ad101.add ((aa).toNat * 25)).off + 6, none⟩ = some (.string ((rd_T58 l0 aa).f6)) ∧ w'.cell? ⟨(ad101.add ((aa).toNat * 25)).block, (ad101.add ((aa).toNat * 25)).off + 7, none⟩ = some (.int .i64 ((rd_T58 l0 aa).f7)) ∧ w'.cell? ⟨(ad101.add ((aa).toNat * 25)).block, (ad101.add ((aa).toNat * 25)).off + 8, none⟩ = some (.int .i64 ((rd_T58 l0 aa).f8)) ∧ w'.cell? ⟨(ad101.add ((aa).toNat * 25)).block, (ad101.add ((aa).toNat * 25)).off + 9, none⟩ = some (.string ((rd_T58 l0 aa).f9)) ∧ w'.cell? ⟨(ad101.add ((aa).toNat * 25)).block, (ad101.add ((aa).toNat * 25)).off + 10, none⟩ = some (.int .i64 ((rd_T58 l0 aa).f10)) ∧ w'.cell? ⟨(ad101.add ((aa).toNat * 25)).block, (ad101.add ((aa).toNat * 25)).off + 11, none⟩ = some (.string ((rd_T58 l0 aa).f11)) ∧ w'.cell? ⟨(ad101.add ((aa).toNat * 25)).block, (ad101.add ((aa).toNat * 25)).off + 12, none⟩ = some (.int .i64 ((rd_T58 l0 aa).f12)) ∧ w'.cell? ⟨(ad101.add ((aa).toNat * 25)).block, (ad101.add ((aa).toNat * 25)).off + 13, none⟩ = some (.int .i64 ((rd_T58 l0 aa).f13)) ∧ w'.cell? ⟨(ad101.add ((aa).toNat * 25)).block, (ad101.add ((aa).toNat * 25)).off + 14, none⟩ = some (.int .i64 ((rd_T58 l0 aa).f14)) ∧ w'.cell? ⟨(ad101.add ((aa).toNat * 25)).block, (ad101.add ((aa).toNat * 25)).off + 15, none⟩ = some (.int .i64 ((rd_T58 l0 aa).f15)) ∧ w'.cell? ⟨(ad101.add ((aa).toNat * 25)).block, (ad101.add ((aa).toNat * 25)).off + 16, none⟩ = some (.int .i64 ((rd_T58 l0 aa).f16)) ∧ w'.cell? ⟨(ad101.add ((aa).toNat * 25)).block, (ad101.add ((aa).toNat * 25)).off + 17, none⟩ = some (.int .i64 ((rd_T58 l0 aa).f17)) ∧ w'.cell? ⟨(ad101.add ((aa).toNat * 25)).block, (ad101.add ((aa).toNat * 25)).off + 18, none⟩ = some (.int .i64 ((rd_T58 l0 aa).f18)) ∧ w'.cell? ⟨(ad101.add ((aa).toNat * 25)).block, (ad101.add ((aa).toNat * 25)).off + 19, none⟩ = some (.string ((rd_T58 l0 aa).f19)) ∧ w'.cell? ⟨(ad101.add ((aa).toNat * 25)).block, (ad101.add ((aa).toNat * 25)).off + 20, none⟩ = some (.string ((rd_T58 l0 aa).f20)) ∧ w'.cell? ⟨(ad101.add ((aa).toNat * 25)).block, (ad101.add ((aa).toNat * 25)).off + 21, none⟩ = some (.slice cM ((rd_T58 l0 aa).f21).length cN) ∧ w'.cell? ⟨(ad101.add ((aa).toNat * 25)).block, (ad101.add ((aa).toNat * 25)).off + 22, none⟩ = some (.int .i64 ((rd_T58 l0 aa).f22)) ∧ w'.cell? ⟨(ad101.add ((aa).toNat * 25)).block, (ad101.add ((aa).toNat * 25)).off + 23, none⟩ = some (.string ((rd_T58 l0 aa).f23)) ∧ w'.cell? ⟨(ad101.add ((aa).toNat * 25)).block, (ad101.add ((aa).toNat * 25)).off + 24, none⟩ = some (.slice cO ((rd_T58 l0 aa).f24).length cP) ∧ w'.cell? (ad102.add ((aa).toNat * 25)) = some (.int .i64 ((rd_T58 l1 aa).f0)) ∧ w'.cell? ⟨(ad102.add ((aa).toNat * 25)).block, (ad102.add ((aa).toNat * 25)).off + 1, none⟩ = some (.int .i64 ((rd_T58 l1 aa).f1)) ∧ w'.cell? ⟨(ad102.add ((aa).toNat * 25)).block, (ad102.add ((aa).toNat * 25)).off + 2, none⟩ = some (.int .i64 ((rd_T58 l1 aa).f2)) ∧ w'.cell? ⟨(ad102.add ((aa).toNat * 25)).block, (ad102.add ((aa).toNat * 25)).off + 3, none⟩ = some (.string ((rd_T58 l1 aa).f3)) ∧ w'.cell? ⟨(ad102.add ((aa).toNat * 25)).block, (ad102.add ((aa).toNat * 25)).off + 4, none⟩ = some (.int .i64 ((rd_T58 l1 aa).f4)) ∧ w'.cell? ⟨(ad102.add ((aa).toNat * 25)).block, (ad102.add ((aa).toNat * 25)).off + 5, none⟩ = some (.int .i64 ((rd_T58 l1 aa).f5)) ∧ w'.cell? ⟨(ad102.add ((aa).toNat * 25)).block, (ad102.add ((aa).toNat * 25)).off + 6, none⟩ = some (.string ((rd_T58 l1 aa).f6)) ∧ w'.cell? ⟨(ad102.add ((aa).toNat * 25)).block, (ad102.add ((aa).toNat * 25)).off + 7, none⟩ = some (.int .i64 ((rd_T58 l1 aa).f7)) ∧ w'.cell? ⟨(ad102.add ((aa).toNat * 25)).block, (ad102.add ((aa).toNat * 25)).off + 8, none⟩ = some (.int .i64 ((rd_T58 l1 aa).f8)) ∧ w'.cell? ⟨(ad102.add ((aa).toNat * 25)).block, (ad102.add ((aa).toNat * 25)).off + 9, none⟩ = some (.string ((rd_T58 l1 aa).f9)) ∧ w'.cell? ⟨(ad102.add ((aa).toNat * 25)).block, (ad102.add ((aa).toNat * 25)).off + 10, none⟩ = some (.int .i64 ((rd_T58 l1 aa).f10)) ∧ w'.cell? ⟨(ad102.add ((aa).toNat * 25)).block, (ad102.add ((aa).toNat * 25)).off + 11, none⟩ = some (.string ((rd_T58 l1 aa).f11)) ∧ w'.cell? ⟨(ad102.add ((aa).toNat * 25)).block, (ad102.add ((aa).toNat * 25)).off + 12, none⟩ = some (.int .i64 ((rd_T58 l1 aa).f12)) ∧ w'.cell? ⟨(ad102.add ((aa).toNat * 25)).block, (ad102.add ((aa).toNat * 25)).off + 13, none⟩ = some (.int .i64 ((rd_T58 l1 aa).f13)) ∧ w'.cell? ⟨(ad102.add ((aa).toNat * 25)).block, (ad102.add ((aa).toNat * 25)).off + 14, none⟩ = some (.int .i64 ((rd_T58 l1 aa).f14)) ∧ w'.cell? ⟨(ad102.add ((aa).toNat * 25)).block, (ad102.add ((aa).toNat * 25)).off + 15, none⟩ = some (.int .i64 ((rd_T58 l1 aa).f15)) ∧ w'.cell? ⟨(ad102.add ((aa).toNat * 25)).block, (ad102.add ((aa).toNat * 25)).off + 16, none⟩ = some (.int .i64 ((rd_T58 l1 aa).f16)) ∧ w'.cell? ⟨(ad102.add ((aa).toNat * 25)).block, (ad102.add ((aa).toNat * 25)).off + 17, none⟩ = some (.int .i64 ((rd_T58 l1 aa).f17)) ∧ w'.cell? ⟨(ad102.add ((aa).toNat * 25)).block, (ad102.add ((aa).toNat * 25)).off + 18, none⟩ = some (.int .i64 ((rd_T58 l1 aa).f18)) ∧ w'.cell? ⟨(ad102.add ((aa).toNat * 25)).block, (ad102.add ((aa).toNat * 25)).off + 19, none⟩ = some (.string ((rd_T58 l1 aa).f19)) ∧ w'.cell? ⟨(ad102.add ((aa).toNat * 25)).block, (ad102.add ((aa).toNat * 25)).off + 20, none⟩ = some (.string ((rd_T58 l1 aa).f20)) ∧ w'.cell? ⟨(ad102.add ((aa).toNat * 25)).block, (ad102.add ((aa).toNat * 25)).off + 21, none⟩ = some (.slice dq ((rd_T58 l1 aa).f21).length dr) ∧ w'.cell? ⟨(ad102.add ((aa).toNat * 25)).block, (ad102.add ((aa).toNat * 25)).off + 22, none⟩ = some (.int .i64 ((rd_T58 l1 aa).f22)) ∧ w'.cell? ⟨(ad102.add ((aa).toNat * 25)).block, (ad102.add ((aa).toNat * 25)).off + 23, none⟩ = some (.string ((rd_T58 l1 aa).f23)) ∧ w'.cell? ⟨(ad102.add ((aa).toNat * 25)).block, (ad102.add ((aa).toNat * 25)).off + 24, none⟩ = some (.slice dt ((rd_T58 l1 aa).f24).length du)) (ds := []) #[false, false, false, false, false, false, false, false, false, false] Z5 rfl rfl ⟨((HB.out.cell (World.block_lt_of_cell? w _ hw101_0)).trans hw101_0), ((HB.out.cell (World.block_lt_of_cell? w _ hw101_1)).trans hw101_1), ((HB.out.cell (World.block_lt_of_cell? w _ hw101_2)).trans hw101_2), ((HB.out.cell (World.block_lt_of_cell? w _ hw101_3)).trans hw101_3), ((HB.out.cell (World.block_lt_of_cell? w _ hw101_4)).trans hw101_4), ((HB.out.cell (World.block_lt_of_cell? w _ hw101_5)).trans hw101_5), ((HB.out.cell (World.block_lt_of_cell? w _ hw101_6)).trans hw101_6), ((HB.out.cell (World.block_lt_of_cell? w _ hw101_7)).trans hw101_7), ((HB.out.cell (World.block_lt_of_cell? w _ hw101_8)).trans hw101_8), ((HB.out.cell (World.block_lt_of_cell? w _ hw101_9)).trans hw101_9), ((HB.out.cell (World.block_lt_of_cell? w _ hw101_10)).trans hw101_10), ((HB.out.cell (World.block_lt_of_cell? w _ hw101_11)).trans hw101_11), ((HB.out.cell (World.block_lt_of_cell? w _ hw101_12)).trans hw101_12), ((HB.out.cell (World.block_lt_of_cell? w _ hw101_13)).trans hw101_13), ((HB.out.cell (World.block_lt_of_cell? w _ hw101_14)).trans hw101_14), ((HB.out.cell (World.block_lt_of_cell? w _ hw101_15)).trans hw101_15), ((HB.out.cell (World.block_lt_of_cell? w _ hw101_16)).trans hw101_16), ((HB.out.cell (World.block_lt_of_cell? w _ hw101_17)).trans hw101_17), ((HB.out.cell (World.block_lt_of_cell? w _ hw101_18)).trans hw101_18), ((HB.out.cell (World.block_lt_of_cell? w _ hw101_19)).trans hw101_19), ((HB.out.cell (World.block_lt_of_cell? w _ hw101_20)).trans hw101_20), ((HB.out.cell (World.block_lt_of_cell? w _ hw101_21)).trans hw101_21), ((HB.out.cell (World.block_lt_of_cell? w _ hw101_22)).trans hw101_22), ((HB.out.cell (World.block_lt_of_cell? w _ hw101_23)).trans hw101_23), ((HB.out.cell (World.block_lt_of_cell? w _ hw101_24)).trans hw101_24), ((HB.out.cell (World.block_lt_of_cell? w _ hw102_0)).trans hw102_0), ((HB.out.cell (World.block_lt_of_cell? w _ hw102_1)).trans hw102_1), ((HB.out.cell (World.block_lt_of_cell? w _ hw102_2)).trans hw102_2), ((HB.out.cell (World.block_lt_of_cell? w _ hw102_3)).trans hw102_3), ((HB.out.cell (World.block_lt_of_cell? w _ hw102_4)).trans hw102_4), ((HB.out.cell (World.block_lt_of_cell? w _ hw102_5)).trans hw102_5), ((HB.out.cell (World.block_lt_of_cell? w _ hw102_6)).trans hw102_6), ((HB.out.cell (World.block_lt_of_cell? w _ hw102_7)).trans hw102_7), ((HB.out.cell (World.block_lt_of_cell? w _ hw102_8)).trans hw102_8), ((HB.out.cell (World.block_lt_of_cell? w _ hw102_9)).trans hw102_9), ((HB.out.cell (World.block_lt_of_cell? w _ hw102_10)).trans hw102_10), ((HB.out.cell (World.block_lt_of_cell? w _ hw102_11)).trans hw102_11), ((HB.out.cell (World.block_lt_of_cell? w _ hw102_12)).trans hw102_12), ((HB.out.cell (World.block_lt_of_cell? w _ hw102_13)).trans hw102_13), ((HB.out.cell (World.block_lt_of_cell? w _ hw102_14)).trans hw102_14), ((HB.out.cell (World.block_lt_of_cell? w _ hw102_15)).trans hw102_15), ((HB.out.cell (World.block_lt_of_cell? w _ hw102_16)).trans hw102_16), ((HB.out.cell (World.block_lt_of_cell? w _ hw102_17)).trans hw102_17), ((HB.out.cell (World.block_lt_of_cell? w _ hw102_18)).trans hw102_18), ((HB.out.cell (World.block_lt_of_cell? w _ hw102_19)).trans hw102_19), ((HB.out.cell (World.block_lt_of_cell? w _ hw102_20)).trans hw102_20), ((HB.out.cell (World.block_lt_of_cell? w _ hw102_21)).trans hw102_21), ((HB.out.cell (World.block_lt_of_cell? w _ hw102_22)).trans hw102_22), ((HB.out.cell (World.block_lt_of_cell? w _ hw102_23)).trans hw102_23), ((HB.out.cell (World.block_lt_of_cell? w _ hw102_24)).trans hw102_24)⟩ (fun hHeld => ?_); refine with_tabW roadbookref07_SameAll.tab6 roadbookref07_SameAll.bits6 (fun HT_ HW_ => ?_)
        generalize wr.drew = w9 at HB cX cY dv dw hx101_0 hx101_1 hx101_10 hx101_11 hx101_12 hx101_13 hx101_14 hx101_15 hx101_16 hx101_17 hx101_18 hx101_19 hx101_2 hx101_20 hx101_21 hx101_22 hx101_23 hx101_24 hx101_3 hx101_4 hx101_5 hx101_6 hx101_7 hx101_8 hx101_9 hx102_0 hx102_1 hx102_10 hx102_11 hx102_12 hx102_13 hx102_14 hx102_15 hx102_16 hx102_17 hx102_18 hx102_19 hx102_2 hx102_20 hx102_21 hx102_22 hx102_23 hx102_24 hx102_3 hx102_4 hx102_5 hx102_6 hx102_7 hx102_8 hx102_9 hHeld ⊢
        refine pure_ (i := 0) (N := some 17) (v := ?_) (a' := ?_) #[true, false, false, false, false, false, false, false, false, false] rfl rfl (any_of HT_.out Z5) (fun _ _ _ h => h) (Or.inl ⟨Z13, ?_⟩) ?_ ?_
        rotate_left
        ·intro w'
         go_simp
         with_reducible rfl
        rotate_left
        ·simp only [Act.put, List.setIfInBounds_toArray, List.set_cons_zero, List.set_cons_succ, i64_w, i32_w]
         rfl
        refine pure_ (i := 1) (N := some 18) (v := ?_) (a' := ?_) #[true, true, false, false, false, false, false, false, false, false] rfl rfl (any_of HT_.out Z5) (fun _ _ _ h => h) (Or.inl ⟨Z13, ?_⟩) ?_ ?_
        rotate_left
        ·intro w'
         go_simp
         with_reducible rfl
        rotate_left
        ·simp only [Act.put, List.setIfInBounds_toArray, List.set_cons_zero, List.set_cons_succ, i64_w, i32_w]
         rfl
        refine pure_ (i := 2) (N := some 19) (v := ?_) (a' := ?_) #[true, true, true, false, false, false, false, false, false, false] rfl rfl (any_of HT_.out Z5) (fun _ _ _ h => h) (Or.inl ⟨Z13, ?_⟩) ?_ ?_
        rotate_left
        ·intro w'
         go_simp
         with_reducible rfl
        rotate_left
        ·simp only [Act.put, List.setIfInBounds_toArray, List.set_cons_zero, List.set_cons_succ, i64_w, i32_w]
         rfl
        refine pure_ (i := 4) (N := some 21) (v := ?_) (a' := ?_) #[true, true, true, false, true, false, false, false, false, false] rfl rfl (any_of HT_.out Z5) (fun _ _ _ h => h) (Or.inl ⟨Z13, ?_⟩) ?_ ?_
        rotate_left
        ·intro w'
         go_simp
         with_reducible rfl
        rotate_left
        ·simp only [Act.put, List.setIfInBounds_toArray, List.set_cons_zero, List.set_cons_succ, i64_w, i32_w]
         rfl
        refine pure_ (i := 5) (N := some 22) (v := ?_) (a' := ?_) #[true, true, true, false, true, true, false, false, false, false] rfl rfl (any_of HT_.out Z5) (fun _ _ _ h => h) (Or.inl ⟨Z13, ?_⟩) ?_ ?_
        rotate_left
        ·intro w'
         go_simp
         with_reducible rfl
        rotate_left
        ·simp only [Act.put, List.setIfInBounds_toArray, List.set_cons_zero, List.set_cons_succ, i64_w, i32_w]
         rfl
        refine pure_ (i := 6) (N := some 23) (v := ?_) (a' := ?_) #[true, true, true, false, true, true, true, false, false, false] rfl rfl (any_of HT_.out Z5) (fun _ _ _ h => h) (Or.inl ⟨Z13, ?_⟩) ?_ ?_
        rotate_left
        ·intro w'
         go_simp
         with_reducible rfl
        rotate_left
        ·simp only [Act.put, List.setIfInBounds_toArray, List.set_cons_zero, List.set_cons_succ, i64_w, i32_w]
         rfl
        refine take_ (i := 3) (N := some 20) (v := ?_) (a' := ?_) #[true, true, true, true, true, true, true, false, false, false] rfl rfl (take_ofW HT_.out HW_.out Z5) (fun _ _ _ h => h) (Or.inl ⟨Z13, ?_⟩) hHeld ?_ ?_
        rotate_left
        ·rintro w' ⟨s0, s1, s2, s3, s4, s5, s6, s7, s8, s9, s10, s11, s12, s13, s14, s15, s16, s17, s18, s19, s20, s21, s22, s23, s24, s25, s26, s27, s28, s29, s30, s31, s32, s33, s34, s35, s36, s37, s38, s39, s40, s41, s42, s43, s44, s45, s46, s47, s48, s49⟩
         first | (refine Eq.trans (Pre.load_run (ty := 58) rfl Z13 (by with_reducible assumption) Try.underlying58 rfl Z5) ?_; with_reducible rfl) | (refine Eq.trans (Pre.load_run_a (ty := 58) rfl Z13 Pre.range25 Try.underlying58 rfl Z5) ?_; with_reducible rfl) | (go_simp; with_reducible rfl)
        rotate_left
        ·simp only [Act.put, List.setIfInBounds_toArray, List.set_cons_zero, List.set_cons_succ, i64_w, i32_w]
         rfl
        refine take_ (i := 7) (N := some 24) (v := ?_) (a' := ?_) #[true, true, true, true, true, true, true, true, false, false] rfl rfl (take_ofW HT_.out HW_.out Z5) (fun _ _ _ h => h) (Or.inl ⟨Z13, ?_⟩) hHeld ?_ ?_
        rotate_left
        ·rintro w' ⟨s0, s1, s2, s3, s4, s5, s6, s7, s8, s9, s10, s11, s12, s13, s14, s15, s16, s17, s18, s19, s20, s21, s22, s23, s24, s25, s26, s27, s28, s29, s30, s31, s32, s33, s34, s35, s36, s37, s38, s39, s40, s41, s42, s43, s44, s45, s46, s47, s48, s49⟩
         first | (refine Eq.trans (Pre.load_run (ty := 58) rfl Z13 (by with_reducible assumption) Try.underlying58 rfl Z5) ?_; with_reducible rfl) | (refine Eq.trans (Pre.load_run_a (ty := 58) rfl Z13 Pre.range25 Try.underlying58 rfl Z5) ?_; with_reducible rfl) | (go_simp; with_reducible rfl)
        rotate_left
        ·simp only [Act.put, List.setIfInBounds_toArray, List.set_cons_zero, List.set_cons_succ, i64_w, i32_w]
         rfl
        refine one_ (i := 8) (N := some 25) #[true, true, true, true, true, true, true, true, true, false] rfl rfl (one_of HT_.out Z5) Z15 (fun K hK => ?_)
        refine goes_ Try.func47 Z5 rfl #[.agg #[.int .i64 ((rd_T58 l0 aa).f0), .int .i64 ((rd_T58 l0 aa).f1), .int .i64 ((rd_T58 l0 aa).f2), .string ((rd_T58 l0 aa).f3), .int .i64 ((rd_T58 l0 aa).f4), .int .i64 ((rd_T58 l0 aa).f5), .string ((rd_T58 l0 aa).f6), .int .i64 ((rd_T58 l0 aa).f7), .int .i64 ((rd_T58 l0 aa).f8), .string ((rd_T58 l0 aa).f9), .int .i64 ((rd_T58 l0 aa).f10), .string ((rd_T58 l0 aa).f11), .int .i64 ((rd_T58 l0 aa).f12), .int .i64 ((rd_T58 l0 aa).f13), .int .i64 ((rd_T58 l0 aa).f14), .int .i64 ((rd_T58 l0 aa).f15), .int .i64 ((rd_T58 l0 aa).f16), .int .i64 ((rd_T58 l0 aa).f17), .int .i64 ((rd_T58 l0 aa).f18), .string ((rd_T58 l0 aa).f19), .string ((rd_T58 l0 aa).f20), .slice cM ((rd_T58 l0 aa).f21).length cN, .int .i64 ((rd_T58 l0 aa).f22), .string ((rd_T58 l0 aa).f23), .slice cO ((rd_T58 l0 aa).f24).length cP], .agg #[.int .i64 ((rd_T58 l1 aa).f0), .int .i64 ((rd_T58 l1 aa).f1), .int .i64 ((rd_T58 l1 aa).f2), .string ((rd_T58 l1 aa).f3), .int .i64 ((rd_T58 l1 aa).f4), .int .i64 ((rd_T58 l1 aa).f5), .string ((rd_T58 l1 aa).f6), .int .i64 ((rd_T58 l1 aa).f7), .int .i64 ((rd_T58 l1 aa).f8), .string ((rd_T58 l1 aa).f9), .int .i64 ((rd_T58 l1 aa).f10), .string ((rd_T58 l1 aa).f11), .int .i64 ((rd_T58 l1 aa).f12), .int .i64 ((rd_T58 l1 aa).f13), .int .i64 ((rd_T58 l1 aa).f14), .int .i64 ((rd_T58 l1 aa).f15), .int .i64 ((rd_T58 l1 aa).f16), .int .i64 ((rd_T58 l1 aa).f17), .int .i64 ((rd_T58 l1 aa).f18), .string ((rd_T58 l1 aa).f19), .string ((rd_T58 l1 aa).f20), .slice dq ((rd_T58 l1 aa).f21).length dr, .int .i64 ((rd_T58 l1 aa).f22), .string ((rd_T58 l1 aa).f23), .slice dt ((rd_T58 l1 aa).f24).length du]] Z13 rfl rfl Z9 ?_
        with_reducible refine (roadbookref07_Same.calls k1 ((rd_T58 l0 aa).f0) ((rd_T58 l0 aa).f1) ((rd_T58 l0 aa).f2) ((rd_T58 l0 aa).f3) ((rd_T58 l0 aa).f4) ((rd_T58 l0 aa).f5) ((rd_T58 l0 aa).f6) ((rd_T58 l0 aa).f7) ((rd_T58 l0 aa).f8) ((rd_T58 l0 aa).f9) ((rd_T58 l0 aa).f10) ((rd_T58 l0 aa).f11) ((rd_T58 l0 aa).f12) ((rd_T58 l0 aa).f13) ((rd_T58 l0 aa).f14) ((rd_T58 l0 aa).f15) ((rd_T58 l0 aa).f16) ((rd_T58 l0 aa).f17) ((rd_T58 l0 aa).f18) ((rd_T58 l0 aa).f19) ((rd_T58 l0 aa).f20) _ _ ((rd_T58 l0 aa).f21) ((rd_T58 l0 aa).f22) ((rd_T58 l0 aa).f23) _ _ ((rd_T58 l0 aa).f24) ((rd_T58 l1 aa).f0) ((rd_T58 l1 aa).f1) ((rd_T58 l1 aa).f2) ((rd_T58 l1 aa).f3) ((rd_T58 l1 aa).f4) ((rd_T58 l1 aa).f5) ((rd_T58 l1 aa).f6) ((rd_T58 l1 aa).f7) ((rd_T58 l1 aa).f8) ((rd_T58 l1 aa).f9) ((rd_T58 l1 aa).f10) ((rd_T58 l1 aa).f11) ((rd_T58 l1 aa).f12) ((rd_T58 l1 aa).f13) ((rd_T58 l1 aa).f14) ((rd_T58 l1 aa).f15) ((rd_T58 l1 aa).f16) ((rd_T58 l1 aa).f17) ((rd_T58 l1 aa).f18) ((rd_T58 l1 aa).f19) ((rd_T58 l1 aa).f20) _ _ ((rd_T58 l1 aa).f21) ((rd_T58 l1 aa).f22) ((rd_T58 l1 aa).f23) _ _ ((rd_T58 l1 aa).f24) true _ ?side1 ?side2 ?side3 ?side4 ?side5 ?side6 ?side7 ?side8 A7.out).mono ?_
        (case side1 => exact Z24)
        (case side2 => exact cR.out)
        (case side3 => exact Z23)
        (case side4 => exact cS.out)
        (case side5 => exact Z33)
        (case side6 => exact ee.out)
        (case side7 => exact Z32)
        (case side8 => exact ef.out)
        rintro e il ⟨rfl, hb⟩
        refine ⟨_, rfl, ?_⟩
        have aH := Aside0.mk (below_step Z0 hb)
        clear HB
        have HB := aH
        clear aH
        (try clear hb)
        (try clear hb2)
        (try clear hk)
        (try clear hi)
        refine hK.out _ _ ⟨((HB.out.cell (World.block_lt_of_cell? w _ hw101_0)).trans hw101_0), ((HB.out.cell (World.block_lt_of_cell? w _ hw101_1)).trans hw101_1), ((HB.out.cell (World.block_lt_of_cell? w _ hw101_2)).trans hw101_2), ((HB.out.cell (World.block_lt_of_cell? w _ hw101_3)).trans hw101_3), ((HB.out.cell (World.block_lt_of_cell? w _ hw101_4)).trans hw101_4), ((HB.out.cell (World.block_lt_of_cell? w _ hw101_5)).trans hw101_5), ((HB.out.cell (World.block_lt_of_cell? w _ hw101_6)).trans hw101_6), ((HB.out.cell (World.block_lt_of_cell? w _ hw101_7)).trans hw101_7), ((HB.out.cell (World.block_lt_of_cell? w _ hw101_8)).trans hw101_8), ((HB.out.cell (World.block_lt_of_cell? w _ hw101_9)).trans hw101_9), ((HB.out.cell (World.block_lt_of_cell? w _ hw101_10)).trans hw101_10), ((HB.out.cell (World.block_lt_of_cell? w _ hw101_11)).trans hw101_11), ((HB.out.cell (World.block_lt_of_cell? w _ hw101_12)).trans hw101_12), ((HB.out.cell (World.block_lt_of_cell? w _ hw101_13)).trans hw101_13), ((HB.out.cell (World.block_lt_of_cell? w _ hw101_14)).trans hw101_14), ((HB.out.cell (World.block_lt_of_cell? w _ hw101_15)).trans hw101_15), ((HB.out.cell (World.block_lt_of_cell? w _ hw101_16)).trans hw101_16), ((HB.out.cell (World.block_lt_of_cell? w _ hw101_17)).trans hw101_17), ((HB.out.cell (World.block_lt_of_cell? w _ hw101_18)).trans hw101_18), ((HB.out.cell (World.block_lt_of_cell? w _ hw101_19)).trans hw101_19), ((HB.out.cell (World.block_lt_of_cell? w _ hw101_20)).trans hw101_20), ((HB.out.cell (World.block_lt_of_cell? w _ hw101_21)).trans hw101_21), ((HB.out.cell (World.block_lt_of_cell? w _ hw101_22)).trans hw101_22), ((HB.out.cell (World.block_lt_of_cell? w _ hw101_23)).trans hw101_23), ((HB.out.cell (World.block_lt_of_cell? w _ hw101_24)).trans hw101_24), ((HB.out.cell (World.block_lt_of_cell? w _ hw102_0)).trans hw102_0), ((HB.out.cell (World.block_lt_of_cell? w _ hw102_1)).trans hw102_1), ((HB.out.cell (World.block_lt_of_cell? w _ hw102_2)).trans hw102_2), ((HB.out.cell (World.block_lt_of_cell? w _ hw102_3)).trans hw102_3), ((HB.out.cell (World.block_lt_of_cell? w _ hw102_4)).trans hw102_4), ((HB.out.cell (World.block_lt_of_cell? w _ hw102_5)).trans hw102_5), ((HB.out.cell (World.block_lt_of_cell? w _ hw102_6)).trans hw102_6), ((HB.out.cell (World.block_lt_of_cell? w _ hw102_7)).trans hw102_7), ((HB.out.cell (World.block_lt_of_cell? w _ hw102_8)).trans hw102_8), ((HB.out.cell (World.block_lt_of_cell? w _ hw102_9)).trans hw102_9), ((HB.out.cell (World.block_lt_of_cell? w _ hw102_10)).trans hw102_10), ((HB.out.cell (World.block_lt_of_cell? w _ hw102_11)).trans hw102_11), ((HB.out.cell (World.block_lt_of_cell? w _ hw102_12)).trans hw102_12), ((HB.out.cell (World.block_lt_of_cell? w _ hw102_13)).trans hw102_13), ((HB.out.cell (World.block_lt_of_cell? w _ hw102_14)).trans hw102_14), ((HB.out.cell (World.block_lt_of_cell? w _ hw102_15)).trans hw102_15), ((HB.out.cell (World.block_lt_of_cell? w _ hw102_16)).trans hw102_16), ((HB.out.cell (World.block_lt_of_cell? w _ hw102_17)).trans hw102_17), ((HB.out.cell (World.block_lt_of_cell? w _ hw102_18)).trans hw102_18), ((HB.out.cell (World.block_lt_of_cell? w _ hw102_19)).trans hw102_19), ((HB.out.cell (World.block_lt_of_cell? w _ hw102_20)).trans hw102_20), ((HB.out.cell (World.block_lt_of_cell? w _ hw102_21)).trans hw102_21), ((HB.out.cell (World.block_lt_of_cell? w _ hw102_22)).trans hw102_22), ((HB.out.cell (World.block_lt_of_cell? w _ hw102_23)).trans hw102_23), ((HB.out.cell (World.block_lt_of_cell? w _ hw102_24)).trans hw102_24)⟩ (fun hHeld => ?_)
        clear hK K
        refine norm_ (a' := ?_) ?_ ?_
        rotate_left
        ·show Act.put _ (some 25) _ = _
         simp only [Act.put, List.setIfInBounds_toArray, List.set_cons_zero, List.set_cons_succ, i64_w, i32_w]
         rfl
        refine pure_ (i := 9) (N := some 26) (v := ?_) (a' := ?_) #[true, true, true, true, true, true, true, true, true, true] rfl rfl (any_of HT_.out Z5) (fun _ _ _ h => h) (Or.inl ⟨Z13, ?_⟩) ?_ ?_
        rotate_left
        ·intro w'
         go_simp
         with_reducible rfl
        rotate_left
        ·simp only [Act.put, List.setIfInBounds_toArray, List.set_cons_zero, List.set_cons_succ, i64_w, i32_w]
         rfl
        refine done_ (done_of HT_.out Z5) ?_
        try go_wp2_with (first | ((with_reducible refine Pre.gate_load 58 rfl ?_); (try (refine gate_guard Z13 ?_; dsimp only)); refine Pre.load_event_a rfl rfl rfl Z13 Pre.range25 Try.underlying58 rfl Z5 ?_))
        go_roundg k1
        case measure => have := HK1.out; omega
        case rel => exact ⟨(wrap64 (aa + 1)), Z7, H', ⟨Z30⟩, ⟨Z0⟩⟩
       ·replace c8 := Bool.eq_false_iff.mpr c8
        subst c8
        replace H := Sq.itF H
        obtain rfl := Option.some.inj H
        try go_wp2_with (first | ((with_reducible refine Pre.gate_load 58 rfl ?_); (try (refine gate_guard Z13 ?_; dsimp only)); refine Pre.load_event_a rfl rfl rfl Z13 Pre.range25 Try.underlying58 rfl Z5 ?_))
        have aH := Aside0.mk (below_drew1 HB.out)
        clear HB
        have HB := aH
        clear aH
        have p101 : 0 ≤ (aa : Int) := of_decide_eq_true Z2
        have q101 : aa < (l0.length : Int) := of_decide_eq_true Z2
        obtain ⟨ad101, cM, cN, cO, cP, e101, hx101_0, hx101_1, hx101_2, hx101_3, hx101_4, hx101_5, hx101_6, hx101_7, hx101_8, hx101_9, hx101_10, hx101_11, hx101_12, hx101_13, hx101_14, hx101_15, hx101_16, hx101_17, hx101_18, hx101_19, hx101_20, hx101_21, hx101_22, hx101_23, hx101_24, hl101_21, hi101_21, hl101_24, hi101_24⟩ := at_T58 df.out aa p101 q101
        have hw101_24 := hx101_24
        have hw101_23 := hx101_23
        have hw101_22 := hx101_22
        have hw101_21 := hx101_21
        have hw101_20 := hx101_20
        have hw101_19 := hx101_19
        have hw101_18 := hx101_18
        have hw101_17 := hx101_17
        have hw101_16 := hx101_16
        have hw101_15 := hx101_15
        have hw101_14 := hx101_14
        have hw101_13 := hx101_13
        have hw101_12 := hx101_12
        have hw101_11 := hx101_11
        have hw101_10 := hx101_10
        have hw101_9 := hx101_9
        have hw101_8 := hx101_8
        have hw101_7 := hx101_7
        have hw101_6 := hx101_6
        have hw101_5 := hx101_5
        have hw101_4 := hx101_4
        have hw101_3 := hx101_3
        have hw101_2 := hx101_2
        have hw101_1 := hx101_1
        have hw101_0 := hx101_0
        cases e101
        replace hx101_0 := (HB.out.cell (World.block_lt_of_cell? w _ hx101_0)).trans hx101_0
        replace hx101_1 := (HB.out.cell (World.block_lt_of_cell? w _ hx101_1)).trans hx101_1
        replace hx101_2 := (HB.out.cell (World.block_lt_of_cell? w _ hx101_2)).trans hx101_2
        replace hx101_3 := (HB.out.cell (World.block_lt_of_cell? w _ hx101_3)).trans hx101_3
        replace hx101_4 := (HB.out.cell (World.block_lt_of_cell? w _ hx101_4)).trans hx101_4
        replace hx101_5 := (HB.out.cell (World.block_lt_of_cell? w _ hx101_5)).trans hx101_5
        replace hx101_6 := (HB.out.cell (World.block_lt_of_cell? w _ hx101_6)).trans hx101_6
        replace hx101_7 := (HB.out.cell (World.block_lt_of_cell? w _ hx101_7)).trans hx101_7
        replace hx101_8 := (HB.out.cell (World.block_lt_of_cell? w _ hx101_8)).trans hx101_8
        replace hx101_9 := (HB.out.cell (World.block_lt_of_cell? w _ hx101_9)).trans hx101_9
        replace hx101_10 := (HB.out.cell (World.block_lt_of_cell? w _ hx101_10)).trans hx101_10
        replace hx101_11 := (HB.out.cell (World.block_lt_of_cell? w _ hx101_11)).trans hx101_11
        replace hx101_12 := (HB.out.cell (World.block_lt_of_cell? w _ hx101_12)).trans hx101_12
        replace hx101_13 := (HB.out.cell (World.block_lt_of_cell? w _ hx101_13)).trans hx101_13
        replace hx101_14 := (HB.out.cell (World.block_lt_of_cell? w _ hx101_14)).trans hx101_14
        replace hx101_15 := (HB.out.cell (World.block_lt_of_cell? w _ hx101_15)).trans hx101_15
        replace hx101_16 := (HB.out.cell (World.block_lt_of_cell? w _ hx101_16)).trans hx101_16
        replace hx101_17 := (HB.out.cell (World.block_lt_of_cell? w _ hx101_17)).trans hx101_17
        replace hx101_18 := (HB.out.cell (World.block_lt_of_cell? w _ hx101_18)).trans hx101_18
        replace hx101_19 := (HB.out.cell (World.block_lt_of_cell? w _ hx101_19)).trans hx101_19
        replace hx101_20 := (HB.out.cell (World.block_lt_of_cell? w _ hx101_20)).trans hx101_20
        replace hx101_21 := (HB.out.cell (World.block_lt_of_cell? w _ hx101_21)).trans hx101_21
        replace hx101_22 := (HB.out.cell (World.block_lt_of_cell? w _ hx101_22)).trans hx101_22
        replace hx101_23 := (HB.out.cell (World.block_lt_of_cell? w _ hx101_23)).trans hx101_23
        replace hx101_24 := (HB.out.cell (World.block_lt_of_cell? w _ hx101_24)).trans hx101_24
        have cX := Aside0.mk hi101_21
        have cR := Aside0.mk hl101_21
        clear hi101_21 hl101_21
        have cY := Aside0.mk hi101_24
        have cS := Aside0.mk hl101_24
        clear hi101_24 hl101_24
        replace p101 := eq_true p101
        replace q101 := eq_true q101
        have p102 : 0 ≤ (aa : Int) := of_decide_eq_true Z2
        have q102 : aa < (l1.length : Int) := of_decide_eq_true Z2
        obtain ⟨ad102, dq, dr, dt, du, e102, hx102_0, hx102_1, hx102_2, hx102_3, hx102_4, hx102_5, hx102_6, hx102_7, hx102_8, hx102_9, hx102_10, hx102_11, hx102_12, hx102_13, hx102_14, hx102_15, hx102_16, hx102_17, hx102_18, hx102_19, hx102_20, hx102_21, hx102_22, hx102_23, hx102_24, hl102_21, hi102_21, hl102_24, hi102_24⟩ := at_T58 fj.out aa p102 q102
        have hw102_24 := hx102_24
        have hw102_23 := hx102_23
        have hw102_22 := hx102_22
        have hw102_21 := hx102_21
        have hw102_20 := hx102_20
        have hw102_19 := hx102_19
        have hw102_18 := hx102_18
        have hw102_17 := hx102_17
        have hw102_16 := hx102_16
        have hw102_15 := hx102_15
        have hw102_14 := hx102_14
        have hw102_13 := hx102_13
        have hw102_12 := hx102_12
        have hw102_11 := hx102_11
        have hw102_10 := hx102_10
        have hw102_9 := hx102_9
        have hw102_8 := hx102_8
        have hw102_7 := hx102_7
        have hw102_6 := hx102_6
        have hw102_5 := hx102_5
        have hw102_4 := hx102_4
        have hw102_3 := hx102_3
        have hw102_2 := hx102_2
        have hw102_1 := hx102_1
        have hw102_0 := hx102_0
        cases e102
        replace hx102_0 := (HB.out.cell (World.block_lt_of_cell? w _ hx102_0)).trans hx102_0
        replace hx102_1 := (HB.out.cell (World.block_lt_of_cell? w _ hx102_1)).trans hx102_1
        replace hx102_2 := (HB.out.cell (World.block_lt_of_cell? w _ hx102_2)).trans hx102_2
        replace hx102_3 := (HB.out.cell (World.block_lt_of_cell? w _ hx102_3)).trans hx102_3
        replace hx102_4 := (HB.out.cell (World.block_lt_of_cell? w _ hx102_4)).trans hx102_4
        replace hx102_5 := (HB.out.cell (World.block_lt_of_cell? w _ hx102_5)).trans hx102_5
        replace hx102_6 := (HB.out.cell (World.block_lt_of_cell? w _ hx102_6)).trans hx102_6
        replace hx102_7 := (HB.out.cell (World.block_lt_of_cell? w _ hx102_7)).trans hx102_7
        replace hx102_8 := (HB.out.cell (World.block_lt_of_cell? w _ hx102_8)).trans hx102_8
        replace hx102_9 := (HB.out.cell (World.block_lt_of_cell? w _ hx102_9)).trans hx102_9
        replace hx102_10 := (HB.out.cell (World.block_lt_of_cell? w _ hx102_10)).trans hx102_10
        replace hx102_11 := (HB.out.cell (World.block_lt_of_cell? w _ hx102_11)).trans hx102_11
        replace hx102_12 := (HB.out.cell (World.block_lt_of_cell? w _ hx102_12)).trans hx102_12
        replace hx102_13 := (HB.out.cell (World.block_lt_of_cell? w _ hx102_13)).trans hx102_13
        replace hx102_14 := (HB.out.cell (World.block_lt_of_cell? w _ hx102_14)).trans hx102_14
        replace hx102_15 := (HB.out.cell (World.block_lt_of_cell? w _ hx102_15)).trans hx102_15
        replace hx102_16 := (HB.out.cell (World.block_lt_of_cell? w _ hx102_16)).trans hx102_16
        replace hx102_17 := (HB.out.cell (World.block_lt_of_cell? w _ hx102_17)).trans hx102_17
        replace hx102_18 := (HB.out.cell (World.block_lt_of_cell? w _ hx102_18)).trans hx102_18
        replace hx102_19 := (HB.out.cell (World.block_lt_of_cell? w _ hx102_19)).trans hx102_19
        replace hx102_20 := (HB.out.cell (World.block_lt_of_cell? w _ hx102_20)).trans hx102_20
        replace hx102_21 := (HB.out.cell (World.block_lt_of_cell? w _ hx102_21)).trans hx102_21
        replace hx102_22 := (HB.out.cell (World.block_lt_of_cell? w _ hx102_22)).trans hx102_22
        replace hx102_23 := (HB.out.cell (World.block_lt_of_cell? w _ hx102_23)).trans hx102_23
        replace hx102_24 := (HB.out.cell (World.block_lt_of_cell? w _ hx102_24)).trans hx102_24
        have dv := Aside0.mk hi102_21
        have ee := Aside0.mk hl102_21
        clear hi102_21 hl102_21
        have dw := Aside0.mk hi102_24
        have ef := Aside0.mk hl102_24
        clear hi102_24 hl102_24
        replace p102 := eq_true p102
        replace q102 := eq_true q102
        refine start_ (n := 10) (S := fun w' => w'.cell? (ad101.add ((aa).toNat * 25)) = some (.int .i64 ((rd_T58 l0 aa).f0)) ∧ w'.cell? ⟨(ad101.add ((aa).toNat * 25)).block, (ad101.add ((aa).toNat * 25)).off + 1, none⟩ = some (.int .i64 ((rd_T58 l0 aa).f1)) ∧ w'.cell? ⟨(ad101.add ((aa).toNat * 25)).block, (ad101.add ((aa).toNat * 25)).off + 2, none⟩ = some (.int .i64 ((rd_T58 l0 aa).f2)) ∧ w'.cell? ⟨(ad101.add ((aa).toNat * 25)).block, (ad101.add ((aa).toNat * 25)).off + 3, none⟩ = some (.string ((rd_T58 l0 aa).f3)) ∧ w'.cell? ⟨(ad101.add ((aa).toNat * 25)).block, (ad101.add ((aa).toNat * 25)).off + 4, none⟩ = some (.int .i64 ((rd_T58 l0 aa).f4)) ∧ w'.cell? ⟨(ad101.add ((aa).toNat * 25)).block, (ad101.add ((aa).toNat * 25)).off + 5, none⟩ = some (.int .i64 ((rd_T58 l0 aa).f5)) ∧ w'.cell? ⟨(ad101.add ((aa).toNat * 25)).block, (ad101.add ((aa).toNat * 25)).off + 6, none⟩ = some (.string ((rd_T58 l0 aa).f6)) ∧ w'.cell? ⟨(ad101.add ((aa).toNat * 25)).block, (ad101.add ((aa).toNat * 25)).off + 7, none⟩ = some (.int .i64 ((rd_T58 l0 aa).f7)) ∧ w'.cell? ⟨(ad101.add ((aa).toNat * 25)).block, (ad101.add ((aa).toNat * 25)).off + 8, none⟩ = some (.int .i64 ((rd_T58 l0 aa).f8)) ∧ w'.cell? ⟨(ad101.add ((aa).toNat * 25)).block, (ad101.add ((aa).toNat * 25)).off + 9, none⟩ = some (.string ((rd_T58 l0 aa).f9)) ∧ w'.cell? ⟨(ad101.add ((aa).toNat * 25)).block, (ad101.add ((aa).toNat * 25)).off + 10, none⟩ = some (.int .i64 ((rd_T58 l0 aa).f10)) ∧ w'.cell? ⟨(ad101.add ((aa).toNat * 25)).block, (ad101.add ((aa).toNat * 25)).off + 11, none⟩ = some (.string ((rd_T58 l0 aa).f11)) ∧ w'.cell? ⟨(ad101.add ((aa).toNat * 25)).block, (ad101.add ((aa).toNat * 25)).off + 12, none⟩ = some (.int .i64 ((rd_T58 l0 aa).f12)) ∧ w'.cell? ⟨(ad101.add ((aa).toNat * 25)).block, (ad101.add ((aa).toNat * 25)).off + 13, none⟩ = some (.int .i64 ((rd_T58 l0 aa).f13)) ∧ w'.cell? ⟨(ad101.add ((aa).toNat * 25)).block, (ad101.add ((aa).toNat * 25)).off + 14, none⟩ = some (.int .i64 ((rd_T58 l0 aa).f14)) ∧ w'.cell? ⟨(ad101.add ((aa).toNat * 25)).block, (ad101.add ((aa).toNat * 25)).off + 15, none⟩ = some (.int .i64 ((rd_T58 l0 aa).f15)) ∧ w'.cell? ⟨(ad101.add ((aa).toNat * 25)).block, (ad101.add ((aa).toNat * 25)).off + 16, none⟩ = some (.int .i64 ((rd_T58 l0 aa).f16)) ∧ w'.cell? ⟨(ad101.add ((aa).toNat * 25)).block, (ad101.add ((aa).toNat * 25)).off + 17, none⟩ = some (.int .i64 ((rd_T58 l0 aa).f17)) ∧ w'.cell? ⟨(ad101.add ((aa).toNat * 25)).block, (ad101.add ((aa).toNat * 25)).off + 18, none⟩ = some (.int .i64 ((rd_T58 l0 aa).f18)) ∧ w'.cell? ⟨(ad101.add ((aa).toNat * 25)).block, (ad101.add ((aa).toNat * 25)).off + 19, none⟩ = some (.string ((rd_T58 l0 aa).f19)) ∧ w'.cell? ⟨(ad101.add ((aa).toNat * 25)).block, (ad101.add ((aa).toNat * 25)).off + 20, none⟩ = some (.string ((rd_T58 l0 aa).f20)) ∧ w'.cell? ⟨(ad101.add ((aa).toNat * 25)).block, (ad101.add ((aa).toNat * 25)).off + 21, none⟩ = some (.slice cM ((rd_T58 l0 aa).f21).length cN) ∧ w'.cell? ⟨(ad101.add ((aa).toNat * 25)).block, (ad101.add ((aa).toNat * 25)).off + 22, none⟩ = some (.int .i64 ((rd_T58 l0 aa).f22)) ∧ w'.cell? ⟨(ad101.add ((aa).toNat * 25)).block, (ad101.add ((aa).toNat * 25)).off + 23, none⟩ = some (.string ((rd_T58 l0 aa).f23)) ∧ w'.cell? ⟨(ad101.add ((aa).toNat * 25)).block, (ad101.add ((aa).toNat * 25)).off + 24, none⟩ = some (.slice cO ((rd_T58 l0 aa).f24).length cP) ∧ w'.cell? (ad102.add ((aa).toNat * 25)) = some (.int .i64 ((rd_T58 l1 aa).f0)) ∧ w'.cell? ⟨(ad102.add ((aa).toNat * 25)).block, (ad102.add ((aa).toNat * 25)).off + 1, none⟩ = some (.int .i64 ((rd_T58 l1 aa).f1)) ∧ w'.cell? ⟨(ad102.add ((aa).toNat * 25)).block, (ad102.add ((aa).toNat * 25)).off + 2, none⟩ = some (.int .i64 ((rd_T58 l1 aa).f2)) ∧ w'.cell? ⟨(ad102.add ((aa).toNat * 25)).block, (ad102.add ((aa).toNat * 25)).off + 3, none⟩ = some (.string ((rd_T58 l1 aa).f3)) ∧ w'.cell? ⟨(ad102.add ((aa).toNat * 25)).block, (ad102.add ((aa).toNat * 25)).off + 4, none⟩ = some (.int .i64 ((rd_T58 l1 aa).f4)) ∧ w'.cell? ⟨(ad102.add ((aa).toNat * 25)).block, (ad102.add ((aa).toNat * 25)).off + 5, none⟩ = some (.int .i64 ((rd_T58 l1 aa).f5)) ∧ w'.cell? ⟨(ad102.add ((aa).toNat * 25)).block, (ad102.add ((aa).toNat * 25)).off + 6, none⟩ = some (.string ((rd_T58 l1 aa).f6)) ∧ w'.cell? ⟨(ad102.add ((aa).toNat * 25)).block, (ad102.add ((aa).toNat * 25)).off + 7, none⟩ = some (.int .i64 ((rd_T58 l1 aa).f7)) ∧ w'.cell? ⟨(ad102.add ((aa).toNat * 25)).block, (ad102.add ((aa).toNat * 25)).off + 8, none⟩ = some (.int .i64 ((rd_T58 l1 aa).f8)) ∧ w'.cell? ⟨(ad102.add ((aa).toNat * 25)).block, (ad102.add ((aa).toNat * 25)).off + 9, none⟩ = some (.string ((rd_T58 l1 aa).f9)) ∧ w'.cell? ⟨(ad102.add ((aa).toNat * 25)).block, (ad102.add ((aa).toNat * 25)).off + 10, none⟩ = some (.int .i64 ((rd_T58 l1 aa).f10)) ∧ w'.cell? ⟨(ad102.add ((aa).toNat * 25)).block, (ad102.add ((aa).toNat * 25)).off + 11, none⟩ = some (.string ((rd_T58 l1 aa).f11)) ∧ w'.cell? ⟨(ad102.add ((aa).toNat * 25)).block, (ad102.add ((aa).toNat * 25)).off + 12, none⟩ = some (.int .i64 ((rd_T58 l1 aa).f12)) ∧ w'.cell? ⟨(ad102.add ((aa).toNat * 25)).block, (ad102.add ((aa).toNat * 25)).off + 13, none⟩ = some (.int .i64 ((rd_T58 l1 aa).f13)) ∧ w'.cell? ⟨(ad102.add ((aa).toNat * 25)).block, (ad102.add ((aa).toNat * 25)).off + 14, none⟩ = some (.int .i64 ((rd_T58 l1 aa).f14)) ∧ w'.cell? ⟨(ad102.add ((aa).toNat * 25)).block, (ad102.add ((aa).toNat * 25)).off + 15, none⟩ = some (.int .i64 ((rd_T58 l1 aa).f15)) ∧ w'.cell? ⟨(ad102.add ((aa).toNat * 25)).block, (ad102.add ((aa).toNat * 25)).off + 16, none⟩ = some (.int .i64 ((rd_T58 l1 aa).f16)) ∧ w'.cell? ⟨(ad102.add ((aa).toNat * 25)).block, (ad102.add ((aa).toNat * 25)).off + 17, none⟩ = some (.int .i64 ((rd_T58 l1 aa).f17)) ∧ w'.cell? ⟨(ad102.add ((aa).toNat * 25)).block, (ad102.add ((aa).toNat * 25)).off + 18, none⟩ = some (.int .i64 ((rd_T58 l1 aa).f18)) ∧ w'.cell? ⟨(ad102.add ((aa).toNat * 25)).block, (ad102.add ((aa).toNat * 25)).off + 19, none⟩ = some (.string ((rd_T58 l1 aa).f19)) ∧ w'.cell? ⟨(ad102.add ((aa).toNat * 25)).block, (ad102.add ((aa).toNat * 25)).off + 20, none⟩ = some (.string ((rd_T58 l1 aa).f20)) ∧ w'.cell? ⟨(ad102.add ((aa).toNat * 25)).block, (ad102.add ((aa).toNat * 25)).off + 21, none⟩ = some (.slice dq ((rd_T58 l1 aa).f21).length dr) ∧ w'.cell? ⟨(ad102.add ((aa).toNat * 25)).block, (ad102.add ((aa).toNat * 25)).off + 22, none⟩ = some (.int .i64 ((rd_T58 l1 aa).f22)) ∧ w'.cell? ⟨(ad102.add ((aa).toNat * 25)).block, (ad102.add ((aa).toNat * 25)).off + 23, none⟩ = some (.string ((rd_T58 l1 aa).f23)) ∧ w'.cell? ⟨(ad102.add ((aa).toNat * 25)).block, (ad102.add ((aa).toNat * 25)).off + 24, none⟩ = some (.slice dt ((rd_T58 l1 aa).f24).length du)) (ds := []) #[false, false, false, false, false, false, false, false, false, false] Z5 rfl rfl ⟨((HB.out.cell (World.block_lt_of_cell? w _ hw101_0)).trans hw101_0), ((HB.out.cell (World.block_lt_of_cell? w _ hw101_1)).trans hw101_1), ((HB.out.cell (World.block_lt_of_cell? w _ hw101_2)).trans hw101_2), ((HB.out.cell (World.block_lt_of_cell? w _ hw101_3)).trans hw101_3), ((HB.out.cell (World.block_lt_of_cell? w _ hw101_4)).trans hw101_4), ((HB.out.cell (World.block_lt_of_cell? w _ hw101_5)).trans hw101_5), ((HB.out.cell (World.block_lt_of_cell? w _ hw101_6)).trans hw101_6), ((HB.out.cell (World.block_lt_of_cell? w _ hw101_7)).trans hw101_7), ((HB.out.cell (World.block_lt_of_cell? w _ hw101_8)).trans hw101_8), ((HB.out.cell (World.block_lt_of_cell? w _ hw101_9)).trans hw101_9), ((HB.out.cell (World.block_lt_of_cell? w _ hw101_10)).trans hw101_10), ((HB.out.cell (World.block_lt_of_cell? w _ hw101_11)).trans hw101_11), ((HB.out.cell (World.block_lt_of_cell? w _ hw101_12)).trans hw101_12), ((HB.out.cell (World.block_lt_of_cell? w _ hw101_13)).trans hw101_13), ((HB.out.cell (World.block_lt_of_cell? w _ hw101_14)).trans hw101_14), ((HB.out.cell (World.block_lt_of_cell? w _ hw101_15)).trans hw101_15), ((HB.out.cell (World.block_lt_of_cell? w _ hw101_16)).trans hw101_16), ((HB.out.cell (World.block_lt_of_cell? w _ hw101_17)).trans hw101_17), ((HB.out.cell (World.block_lt_of_cell? w _ hw101_18)).trans hw101_18), ((HB.out.cell (World.block_lt_of_cell? w _ hw101_19)).trans hw101_19), ((HB.out.cell (World.block_lt_of_cell? w _ hw101_20)).trans hw101_20), ((HB.out.cell (World.block_lt_of_cell? w _ hw101_21)).trans hw101_21), ((HB.out.cell (World.block_lt_of_cell? w _ hw101_22)).trans hw101_22), ((HB.out.cell (World.block_lt_of_cell? w _ hw101_23)).trans hw101_23), ((HB.out.cell (World.block_lt_of_cell? w _ hw101_24)).trans hw101_24), ((HB.out.cell (World.block_lt_of_cell? w _ hw102_0)).trans hw102_0), ((HB.out.cell (World.block_lt_of_cell? w _ hw102_1)).trans hw102_1), ((HB.out.cell (World.block_lt_of_cell? w _ hw102_2)).trans hw102_2), ((HB.out.cell (World.block_lt_of_cell? w _ hw102_3)).trans hw102_3), ((HB.out.cell (World.block_lt_of_cell? w _ hw102_4)).trans hw102_4), ((HB.out.cell (World.block_lt_of_cell? w _ hw102_5)).trans hw102_5), ((HB.out.cell (World.block_lt_of_cell? w _ hw102_6)).trans hw102_6), ((HB.out.cell (World.block_lt_of_cell? w _ hw102_7)).trans hw102_7), ((HB.out.cell (World.block_lt_of_cell? w _ hw102_8)).trans hw102_8), ((HB.out.cell (World.block_lt_of_cell? w _ hw102_9)).trans hw102_9), ((HB.out.cell (World.block_lt_of_cell? w _ hw102_10)).trans hw102_10), ((HB.out.cell (World.block_lt_of_cell? w _ hw102_11)).trans hw102_11), ((HB.out.cell (World.block_lt_of_cell? w _ hw102_12)).trans hw102_12), ((HB.out.cell (World.block_lt_of_cell? w _ hw102_13)).trans hw102_13), ((HB.out.cell (World.block_lt_of_cell? w _ hw102_14)).trans hw102_14), ((HB.out.cell (World.block_lt_of_cell? w _ hw102_15)).trans hw102_15), ((HB.out.cell (World.block_lt_of_cell? w _ hw102_16)).trans hw102_16), ((HB.out.cell (World.block_lt_of_cell? w _ hw102_17)).trans hw102_17), ((HB.out.cell (World.block_lt_of_cell? w _ hw102_18)).trans hw102_18), ((HB.out.cell (World.block_lt_of_cell? w _ hw102_19)).trans hw102_19), ((HB.out.cell (World.block_lt_of_cell? w _ hw102_20)).trans hw102_20), ((HB.out.cell (World.block_lt_of_cell? w _ hw102_21)).trans hw102_21), ((HB.out.cell (World.block_lt_of_cell? w _ hw102_22)).trans hw102_22), ((HB.out.cell (World.block_lt_of_cell? w _ hw102_23)).trans hw102_23), ((HB.out.cell (World.block_lt_of_cell? w _ hw102_24)).trans hw102_24)⟩ (fun hHeld => ?_); refine with_tabW roadbookref07_SameAll.tab6 roadbookref07_SameAll.bits6 (fun HT_ HW_ => ?_)
        generalize wr.drew = hG at HB cX cY dv dw hx101_0 hx101_1 hx101_10 hx101_11 hx101_12 hx101_13 hx101_14 hx101_15 hx101_16 hx101_17 hx101_18 hx101_19 hx101_2 hx101_20 hx101_21 hx101_22 hx101_23 hx101_24 hx101_3 hx101_4 hx101_5 hx101_6 hx101_7 hx101_8 hx101_9 hx102_0 hx102_1 hx102_10 hx102_11 hx102_12 hx102_13 hx102_14 hx102_15 hx102_16 hx102_17 hx102_18 hx102_19 hx102_2 hx102_20 hx102_21 hx102_22 hx102_23 hx102_24 hx102_3 hx102_4 hx102_5 hx102_6 hx102_7 hx102_8 hx102_9 hHeld ⊢
        refine pure_ (i := 0) (N := some 17) (v := ?_) (a' := ?_) #[true, false, false, false, false, false, false, false, false, false] rfl rfl (any_of HT_.out Z5) (fun _ _ _ h => h) (Or.inl ⟨Z13, ?_⟩) ?_ ?_
        rotate_left
        ·intro w'
         go_simp
         with_reducible rfl
        rotate_left
        ·simp only [Act.put, List.setIfInBounds_toArray, List.set_cons_zero, List.set_cons_succ, i64_w, i32_w]
         rfl
        refine pure_ (i := 1) (N := some 18) (v := ?_) (a' := ?_) #[true, true, false, false, false, false, false, false, false, false] rfl rfl (any_of HT_.out Z5) (fun _ _ _ h => h) (Or.inl ⟨Z13, ?_⟩) ?_ ?_
        rotate_left
        ·intro w'
         go_simp
         with_reducible rfl
        rotate_left
        ·simp only [Act.put, List.setIfInBounds_toArray, List.set_cons_zero, List.set_cons_succ, i64_w, i32_w]
         rfl
        refine pure_ (i := 2) (N := some 19) (v := ?_) (a' := ?_) #[true, true, true, false, false, false, false, false, false, false] rfl rfl (any_of HT_.out Z5) (fun _ _ _ h => h) (Or.inl ⟨Z13, ?_⟩) ?_ ?_
        rotate_left
        ·intro w'
         go_simp
         with_reducible rfl
        rotate_left
        ·simp only [Act.put, List.setIfInBounds_toArray, List.set_cons_zero, List.set_cons_succ, i64_w, i32_w]
         rfl
        refine pure_ (i := 4) (N := some 21) (v := ?_) (a' := ?_) #[true, true, true, false, true, false, false, false, false, false] rfl rfl (any_of HT_.out Z5) (fun _ _ _ h => h) (Or.inl ⟨Z13, ?_⟩) ?_ ?_
        rotate_left
        ·intro w'
         go_simp
         with_reducible rfl
        rotate_left
        ·simp only [Act.put, List.setIfInBounds_toArray, List.set_cons_zero, List.set_cons_succ, i64_w, i32_w]
         rfl
        refine pure_ (i := 5) (N := some 22) (v := ?_) (a' := ?_) #[true, true, true, false, true, true, false, false, false, false] rfl rfl (any_of HT_.out Z5) (fun _ _ _ h => h) (Or.inl ⟨Z13, ?_⟩) ?_ ?_
        rotate_left
        ·intro w'
         go_simp
         with_reducible rfl
        rotate_left
        ·simp only [Act.put, List.setIfInBounds_toArray, List.set_cons_zero, List.set_cons_succ, i64_w, i32_w]
         rfl
        refine pure_ (i := 6) (N := some 23) (v := ?_) (a' := ?_) #[true, true, true, false, true, true, true, false, false, false] rfl rfl (any_of HT_.out Z5) (fun _ _ _ h => h) (Or.inl ⟨Z13, ?_⟩) ?_ ?_
        rotate_left
        ·intro w'
         go_simp
         with_reducible rfl
        rotate_left
        ·simp only [Act.put, List.setIfInBounds_toArray, List.set_cons_zero, List.set_cons_succ, i64_w, i32_w]
         rfl
        refine take_ (i := 3) (N := some 20) (v := ?_) (a' := ?_) #[true, true, true, true, true, true, true, false, false, false] rfl rfl (take_ofW HT_.out HW_.out Z5) (fun _ _ _ h => h) (Or.inl ⟨Z13, ?_⟩) hHeld ?_ ?_
        rotate_left
        ·rintro w' ⟨s0, s1, s2, s3, s4, s5, s6, s7, s8, s9, s10, s11, s12, s13, s14, s15, s16, s17, s18, s19, s20, s21, s22, s23, s24, s25, s26, s27, s28, s29, s30, s31, s32, s33, s34, s35, s36, s37, s38, s39, s40, s41, s42, s43, s44, s45, s46, s47, s48, s49⟩
         first | (refine Eq.trans (Pre.load_run (ty := 58) rfl Z13 (by with_reducible assumption) Try.underlying58 rfl Z5) ?_; with_reducible rfl) | (refine Eq.trans (Pre.load_run_a (ty := 58) rfl Z13 Pre.range25 Try.underlying58 rfl Z5) ?_; with_reducible rfl) | (go_simp; with_reducible rfl)
        rotate_left
        ·simp only [Act.put, List.setIfInBounds_toArray, List.set_cons_zero, List.set_cons_succ, i64_w, i32_w]
         rfl
        refine take_ (i := 7) (N := some 24) (v := ?_) (a' := ?_) #[true, true, true, true, true, true, true, true, false, false] rfl rfl (take_ofW HT_.out HW_.out Z5) (fun _ _ _ h => h) (Or.inl ⟨Z13, ?_⟩) hHeld ?_ ?_
        rotate_left
        ·rintro w' ⟨s0, s1, s2, s3, s4, s5, s6, s7, s8, s9, s10, s11, s12, s13, s14, s15, s16, s17, s18, s19, s20, s21, s22, s23, s24, s25, s26, s27, s28, s29, s30, s31, s32, s33, s34, s35, s36, s37, s38, s39, s40, s41, s42, s43, s44, s45, s46, s47, s48, s49⟩
         first | (refine Eq.trans (Pre.load_run (ty := 58) rfl Z13 (by with_reducible assumption) Try.underlying58 rfl Z5) ?_; with_reducible rfl) | (refine Eq.trans (Pre.load_run_a (ty := 58) rfl Z13 Pre.range25 Try.underlying58 rfl Z5) ?_; with_reducible rfl) | (go_simp; with_reducible rfl)
        rotate_left
        ·simp only [Act.put, List.setIfInBounds_toArray, List.set_cons_zero, List.set_cons_succ, i64_w, i32_w]
         rfl
        refine one_ (i := 8) (N := some 25) #[true, true, true, true, true, true, true, true, true, false] rfl rfl (one_of HT_.out Z5) Z15 (fun K hK => ?_)
        refine goes_ Try.func47 Z5 rfl #[.agg #[.int .i64 ((rd_T58 l0 aa).f0), .int .i64 ((rd_T58 l0 aa).f1), .int .i64 ((rd_T58 l0 aa).f2), .string ((rd_T58 l0 aa).f3), .int .i64 ((rd_T58 l0 aa).f4), .int .i64 ((rd_T58 l0 aa).f5), .string ((rd_T58 l0 aa).f6), .int .i64 ((rd_T58 l0 aa).f7), .int .i64 ((rd_T58 l0 aa).f8), .string ((rd_T58 l0 aa).f9), .int .i64 ((rd_T58 l0 aa).f10), .string ((rd_T58 l0 aa).f11), .int .i64 ((rd_T58 l0 aa).f12), .int .i64 ((rd_T58 l0 aa).f13), .int .i64 ((rd_T58 l0 aa).f14), .int .i64 ((rd_T58 l0 aa).f15), .int .i64 ((rd_T58 l0 aa).f16), .int .i64 ((rd_T58 l0 aa).f17), .int .i64 ((rd_T58 l0 aa).f18), .string ((rd_T58 l0 aa).f19), .string ((rd_T58 l0 aa).f20), .slice cM ((rd_T58 l0 aa).f21).length cN, .int .i64 ((rd_T58 l0 aa).f22), .string ((rd_T58 l0 aa).f23), .slice cO ((rd_T58 l0 aa).f24).length cP], .agg #[.int .i64 ((rd_T58 l1 aa).f0), .int .i64 ((rd_T58 l1 aa).f1), .int .i64 ((rd_T58 l1 aa).f2), .string ((rd_T58 l1 aa).f3), .int .i64 ((rd_T58 l1 aa).f4), .int .i64 ((rd_T58 l1 aa).f5), .string ((rd_T58 l1 aa).f6), .int .i64 ((rd_T58 l1 aa).f7), .int .i64 ((rd_T58 l1 aa).f8), .string ((rd_T58 l1 aa).f9), .int .i64 ((rd_T58 l1 aa).f10), .string ((rd_T58 l1 aa).f11), .int .i64 ((rd_T58 l1 aa).f12), .int .i64 ((rd_T58 l1 aa).f13), .int .i64 ((rd_T58 l1 aa).f14), .int .i64 ((rd_T58 l1 aa).f15), .int .i64 ((rd_T58 l1 aa).f16), .int .i64 ((rd_T58 l1 aa).f17), .int .i64 ((rd_T58 l1 aa).f18), .string ((rd_T58 l1 aa).f19), .string ((rd_T58 l1 aa).f20), .slice dq ((rd_T58 l1 aa).f21).length dr, .int .i64 ((rd_T58 l1 aa).f22), .string ((rd_T58 l1 aa).f23), .slice dt ((rd_T58 l1 aa).f24).length du]] Z13 rfl rfl Z9 ?_
        with_reducible refine (roadbookref07_Same.calls k1 ((rd_T58 l0 aa).f0) ((rd_T58 l0 aa).f1) ((rd_T58 l0 aa).f2) ((rd_T58 l0 aa).f3) ((rd_T58 l0 aa).f4) ((rd_T58 l0 aa).f5) ((rd_T58 l0 aa).f6) ((rd_T58 l0 aa).f7) ((rd_T58 l0 aa).f8) ((rd_T58 l0 aa).f9) ((rd_T58 l0 aa).f10) ((rd_T58 l0 aa).f11) ((rd_T58 l0 aa).f12) ((rd_T58 l0 aa).f13) ((rd_T58 l0 aa).f14) ((rd_T58 l0 aa).f15) ((rd_T58 l0 aa).f16) ((rd_T58 l0 aa).f17) ((rd_T58 l0 aa).f18) ((rd_T58 l0 aa).f19) ((rd_T58 l0 aa).f20) _ _ ((rd_T58 l0 aa).f21) ((rd_T58 l0 aa).f22) ((rd_T58 l0 aa).f23) _ _ ((rd_T58 l0 aa).f24) ((rd_T58 l1 aa).f0) ((rd_T58 l1 aa).f1) ((rd_T58 l1 aa).f2) ((rd_T58 l1 aa).f3) ((rd_T58 l1 aa).f4) ((rd_T58 l1 aa).f5) ((rd_T58 l1 aa).f6) ((rd_T58 l1 aa).f7) ((rd_T58 l1 aa).f8) ((rd_T58 l1 aa).f9) ((rd_T58 l1 aa).f10) ((rd_T58 l1 aa).f11) ((rd_T58 l1 aa).f12) ((rd_T58 l1 aa).f13) ((rd_T58 l1 aa).f14) ((rd_T58 l1 aa).f15) ((rd_T58 l1 aa).f16) ((rd_T58 l1 aa).f17) ((rd_T58 l1 aa).f18) ((rd_T58 l1 aa).f19) ((rd_T58 l1 aa).f20) _ _ ((rd_T58 l1 aa).f21) ((rd_T58 l1 aa).f22) ((rd_T58 l1 aa).f23) _ _ ((rd_T58 l1 aa).f24) false _ ?side1 ?side2 ?side3 ?side4 ?side5 ?side6 ?side7 ?side8 A7.out).mono ?_
        (case side1 => exact Z24)
        (case side2 => exact cR.out)
        (case side3 => exact Z23)
        (case side4 => exact cS.out)
        (case side5 => exact Z33)
        (case side6 => exact ee.out)
        (case side7 => exact Z32)
        (case side8 => exact ef.out)
        rintro e iP ⟨rfl, hb⟩
        refine ⟨_, rfl, ?_⟩
        have aH := Aside0.mk (below_step Z0 hb)
        clear HB
        have HB := aH
        clear aH
        (try clear hb)
        (try clear hb2)
        (try clear hk)
        (try clear hi)
        refine hK.out _ _ ⟨((HB.out.cell (World.block_lt_of_cell? w _ hw101_0)).trans hw101_0), ((HB.out.cell (World.block_lt_of_cell? w _ hw101_1)).trans hw101_1), ((HB.out.cell (World.block_lt_of_cell? w _ hw101_2)).trans hw101_2), ((HB.out.cell (World.block_lt_of_cell? w _ hw101_3)).trans hw101_3), ((HB.out.cell (World.block_lt_of_cell? w _ hw101_4)).trans hw101_4), ((HB.out.cell (World.block_lt_of_cell? w _ hw101_5)).trans hw101_5), ((HB.out.cell (World.block_lt_of_cell? w _ hw101_6)).trans hw101_6), ((HB.out.cell (World.block_lt_of_cell? w _ hw101_7)).trans hw101_7), ((HB.out.cell (World.block_lt_of_cell? w _ hw101_8)).trans hw101_8), ((HB.out.cell (World.block_lt_of_cell? w _ hw101_9)).trans hw101_9), ((HB.out.cell (World.block_lt_of_cell? w _ hw101_10)).trans hw101_10), ((HB.out.cell (World.block_lt_of_cell? w _ hw101_11)).trans hw101_11), ((HB.out.cell (World.block_lt_of_cell? w _ hw101_12)).trans hw101_12), ((HB.out.cell (World.block_lt_of_cell? w _ hw101_13)).trans hw101_13), ((HB.out.cell (World.block_lt_of_cell? w _ hw101_14)).trans hw101_14), ((HB.out.cell (World.block_lt_of_cell? w _ hw101_15)).trans hw101_15), ((HB.out.cell (World.block_lt_of_cell? w _ hw101_16)).trans hw101_16), ((HB.out.cell (World.block_lt_of_cell? w _ hw101_17)).trans hw101_17), ((HB.out.cell (World.block_lt_of_cell? w _ hw101_18)).trans hw101_18), ((HB.out.cell (World.block_lt_of_cell? w _ hw101_19)).trans hw101_19), ((HB.out.cell (World.block_lt_of_cell? w _ hw101_20)).trans hw101_20), ((HB.out.cell (World.block_lt_of_cell? w _ hw101_21)).trans hw101_21), ((HB.out.cell (World.block_lt_of_cell? w _ hw101_22)).trans hw101_22), ((HB.out.cell (World.block_lt_of_cell? w _ hw101_23)).trans hw101_23), ((HB.out.cell (World.block_lt_of_cell? w _ hw101_24)).trans hw101_24), ((HB.out.cell (World.block_lt_of_cell? w _ hw102_0)).trans hw102_0), ((HB.out.cell (World.block_lt_of_cell? w _ hw102_1)).trans hw102_1), ((HB.out.cell (World.block_lt_of_cell? w _ hw102_2)).trans hw102_2), ((HB.out.cell (World.block_lt_of_cell? w _ hw102_3)).trans hw102_3), ((HB.out.cell (World.block_lt_of_cell? w _ hw102_4)).trans hw102_4), ((HB.out.cell (World.block_lt_of_cell? w _ hw102_5)).trans hw102_5), ((HB.out.cell (World.block_lt_of_cell? w _ hw102_6)).trans hw102_6), ((HB.out.cell (World.block_lt_of_cell? w _ hw102_7)).trans hw102_7), ((HB.out.cell (World.block_lt_of_cell? w _ hw102_8)).trans hw102_8), ((HB.out.cell (World.block_lt_of_cell? w _ hw102_9)).trans hw102_9), ((HB.out.cell (World.block_lt_of_cell? w _ hw102_10)).trans hw102_10), ((HB.out.cell (World.block_lt_of_cell? w _ hw102_11)).trans hw102_11), ((HB.out.cell (World.block_lt_of_cell? w _ hw102_12)).trans hw102_12), ((HB.out.cell (World.block_lt_of_cell? w _ hw102_13)).trans hw102_13), ((HB.out.cell (World.block_lt_of_cell? w _ hw102_14)).trans hw102_14), ((HB.out.cell (World.block_lt_of_cell? w _ hw102_15)).trans hw102_15), ((HB.out.cell (World.block_lt_of_cell? w _ hw102_16)).trans hw102_16), ((HB.out.cell (World.block_lt_of_cell? w _ hw102_17)).trans hw102_17), ((HB.out.cell (World.block_lt_of_cell? w _ hw102_18)).trans hw102_18), ((HB.out.cell (World.block_lt_of_cell? w _ hw102_19)).trans hw102_19), ((HB.out.cell (World.block_lt_of_cell? w _ hw102_20)).trans hw102_20), ((HB.out.cell (World.block_lt_of_cell? w _ hw102_21)).trans hw102_21), ((HB.out.cell (World.block_lt_of_cell? w _ hw102_22)).trans hw102_22), ((HB.out.cell (World.block_lt_of_cell? w _ hw102_23)).trans hw102_23), ((HB.out.cell (World.block_lt_of_cell? w _ hw102_24)).trans hw102_24)⟩ (fun hHeld => ?_)
        clear hK K
        refine norm_ (a' := ?_) ?_ ?_
        rotate_left
        ·show Act.put _ (some 25) _ = _
         simp only [Act.put, List.setIfInBounds_toArray, List.set_cons_zero, List.set_cons_succ, i64_w, i32_w]
         rfl
        refine pure_ (i := 9) (N := some 26) (v := ?_) (a' := ?_) #[true, true, true, true, true, true, true, true, true, true] rfl rfl (any_of HT_.out Z5) (fun _ _ _ h => h) (Or.inl ⟨Z13, ?_⟩) ?_ ?_
        rotate_left
        ·intro w'
         go_simp
         with_reducible rfl
        rotate_left
        ·simp only [Act.put, List.setIfInBounds_toArray, List.set_cons_zero, List.set_cons_succ, i64_w, i32_w]
         rfl
        refine done_ (done_of HT_.out Z5) ?_
        try go_wp2_with (first | ((with_reducible refine Pre.gate_load 58 rfl ?_); (try (refine gate_guard Z13 ?_; dsimp only)); refine Pre.load_event_a rfl rfl rfl Z13 Pre.range25 Try.underlying58 rfl Z5 ?_))
        go_ret
        exact ⟨Z8, Z0⟩
      ·rw [if_neg c6] at H
       exact absurd H (by simp)
     ·rw [if_neg c5] at H
      exact absurd H (by simp)
    ·rw [if_neg c4] at H
     have cL : decide (aa < (l0.length : Int)) = false := decide_eq_false c4
     clear c4
     obtain rfl := Option.some.inj H
     go_wp2_with (first | ((with_reducible refine Pre.gate_load 58 rfl ?_); (try (refine gate_guard Z13 ?_; dsimp only)); refine Pre.load_event_a rfl rfl rfl Z13 Pre.range25 Try.underlying58 rfl Z5 ?_))
     go_ret
     exact ⟨Z8, Z0⟩
 ·rw [if_neg c3] at H
  have db : ((l0.length : Int) == (l1.length : Int)) = false := beq_eq_false_iff_ne.mpr c3
  have dn : ((l0.length : Int) != (l1.length : Int)) = true := bne_iff_ne.mpr c3
  have dp : (l0.length == l1.length) = false := by first | simpa using c3 | (simp at c3 ⊢; omega)
  obtain rfl := Option.some.inj H
  go_enter Try.func65, Try.ntmps65
  go_wp2_with (first | ((with_reducible refine Pre.gate_load 58 rfl ?_); (try (refine gate_guard Z13 ?_; dsimp only)); refine Pre.load_event_a rfl rfl rfl Z13 Pre.range25 Try.underlying58 rfl Z5 ?_))
  go_ret
  exact ⟨Z8, Z0⟩

end Go.Proofs.Ytelcciekdoccfaa.PM
