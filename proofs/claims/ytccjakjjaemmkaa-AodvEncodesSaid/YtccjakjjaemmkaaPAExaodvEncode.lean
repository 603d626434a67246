-- Written by mp.py, a program of this work (wip/tools), out of the translation; Lean checks it.
import Derived.Test.YtccjakjjaemmkaaPAExZ
import Derived.Test.YtccjakjjaemmkaaPAExaodv
import Derived.Test.YtccjakjjaemmkaaPAExrerr
import Derived.Test.YtccjakjjaemmkaaPAExrrep
import Derived.Test.YtccjakjjaemmkaaPAExrreq
import Derived.Test.YtccjakjjaemmkaaLoad
namespace Go.Proofs.Ytccjakjjaemmkaa.PAE
open Go.RowKit Go.Proofs.YtccjakjjaemmkaaW.PrintWords Go.Proofs.YtccjakjjaemmkaaW.PrintLast Go.Proofs.YtccjakjjaemmkaaW.PrintMore
attribute [local go_sem] max2_int min2_int max_two min_two max_three min_three max_four min_four   -- for this text's walks alone
set_option linter.unusedVariables false
set_option linter.unusedSimpArgs false

/-! ### aodv_Encode: function 47 -/
mutual
def aodv_Encode.l0 : Nat → List (S25) → Int → Int → Option (ByteArray × Int × Int)
 | 0, _, _, _ => none
 | k + 1, x0, x9, fu => if fu < x9 then (if 0 ≤ fu then (if fu < (x0.length : Int) then ((aodv_Right.f k ((rd_T25 x0 fu).f0) ((rd_T25 x0 fu).f1) ((rd_T25 x0 fu).f2) ((rd_T25 x0 fu).f3) ((rd_T25 x0 fu).f4) ((rd_T25 x0 fu).f5) ((rd_T25 x0 fu).f6) ((rd_T25 x0 fu).f7) ((rd_T25 x0 fu).f8) ((rd_T25 x0 fu).f9) ((rd_T25 x0 fu).f10) ((rd_T25 x0 fu).f11) ((rd_T25 x0 fu).f12) ((rd_T25 x0 fu).f13) ((rd_T25 x0 fu).f14) ((rd_T25 x0 fu).f15) ((rd_T25 x0 fu).f16) ((rd_T25 x0 fu).f17) ((rd_T25 x0 fu).f18) ((rd_T25 x0 fu).f19) ((rd_T25 x0 fu).f20) ((rd_T25 x0 fu).f21) ((rd_T25 x0 fu).f22) ((rd_T25 x0 fu).f23) ((rd_T25 x0 fu).f24)).bind fun aU => (if aU = true then (aodv_Encode.l0 k x0 x9 (wrap64 (fu + 1))) else (some ((⟨#[]⟩ : ByteArray), fu, 1)))) else (none)) else (none)) else (if (x0.length : Int) = 0 then (some ((⟨#[]⟩ : ByteArray), 0, 8)) else (if (x0.length : Int) > 1 then (some ((⟨#[]⟩ : ByteArray), 1, 8)) else (if 0 < (x0.length : Int) then ((rreq_Put.f k ((rd_T25 x0 0).f0) ((rd_T25 x0 0).f1) ((rd_T25 x0 0).f2) ((rd_T25 x0 0).f3) ((rd_T25 x0 0).f4) ((rd_T25 x0 0).f5) ((rd_T25 x0 0).f6) ((rd_T25 x0 0).f7) ((rd_T25 x0 0).f8) ((rd_T25 x0 0).f9) ((rd_T25 x0 0).f10) ((rd_T25 x0 0).f11) ((rd_T25 x0 0).f12) ((rd_T25 x0 0).f13) ((rd_T25 x0 0).f14) ((rd_T25 x0 0).f15) ((rd_T25 x0 0).f16) ((rd_T25 x0 0).f17) ((rd_T25 x0 0).f18) ((rd_T25 x0 0).f19) ((rd_T25 x0 0).f20) ((rd_T25 x0 0).f21) ((rd_T25 x0 0).f22) ((rd_T25 x0 0).f23) ((rd_T25 x0 0).f24)).bind fun gi => (if gi.2 = true then (aodv_Encode.j1 k x0 gi.1 gi.2) else ((rrep_Put.f k ((rd_T25 x0 0).f0) ((rd_T25 x0 0).f1) ((rd_T25 x0 0).f2) ((rd_T25 x0 0).f3) ((rd_T25 x0 0).f4) ((rd_T25 x0 0).f5) ((rd_T25 x0 0).f6) ((rd_T25 x0 0).f7) ((rd_T25 x0 0).f8) ((rd_T25 x0 0).f9) ((rd_T25 x0 0).f10) ((rd_T25 x0 0).f11) ((rd_T25 x0 0).f12) ((rd_T25 x0 0).f13) ((rd_T25 x0 0).f14) ((rd_T25 x0 0).f15) ((rd_T25 x0 0).f16) ((rd_T25 x0 0).f17) ((rd_T25 x0 0).f18) ((rd_T25 x0 0).f19) ((rd_T25 x0 0).f20) ((rd_T25 x0 0).f21) ((rd_T25 x0 0).f22) ((rd_T25 x0 0).f23) ((rd_T25 x0 0).f24)).bind fun ca => (aodv_Encode.j1 k x0 ca.1 ca.2)))) else (none))))
def aodv_Encode.j1 : Nat → List (S25) → ByteArray → Bool → Option (ByteArray × Int × Int)
 | 0, _, _, _ => none
 | k + 1, x0, x6, x7 => if x7 = true then (if (x6.size : Int) > 65535 then (some ((⟨#[]⟩ : ByteArray), 0, 10)) else (some (x6, 0, 0))) else (if 0 < (x0.length : Int) then ((rerr_Put.f k ((rd_T25 x0 0).f0) ((rd_T25 x0 0).f1) ((rd_T25 x0 0).f2) ((rd_T25 x0 0).f3) ((rd_T25 x0 0).f4) ((rd_T25 x0 0).f5) ((rd_T25 x0 0).f6) ((rd_T25 x0 0).f7) ((rd_T25 x0 0).f8) ((rd_T25 x0 0).f9) ((rd_T25 x0 0).f10) ((rd_T25 x0 0).f11) ((rd_T25 x0 0).f12) ((rd_T25 x0 0).f13) ((rd_T25 x0 0).f14) ((rd_T25 x0 0).f15) ((rd_T25 x0 0).f16) ((rd_T25 x0 0).f17) ((rd_T25 x0 0).f18) ((rd_T25 x0 0).f19) ((rd_T25 x0 0).f20) ((rd_T25 x0 0).f21) ((rd_T25 x0 0).f22) ((rd_T25 x0 0).f23) ((rd_T25 x0 0).f24)).bind fun dF => (if (dF.1.size : Int) > 65535 then (some ((⟨#[]⟩ : ByteArray), 0, 10)) else (some (dF.1, 0, 0)))) else (none))
end
def aodv_Encode.f (k : Nat) (l0 : List (S25)) : Option (ByteArray × Int × Int) := aodv_Encode.l0 k l0 (l0.length : Int) 0
theorem aodv_Encode.mono_l : ∀ k, (∀ y0 y1 y2, LeO (aodv_Encode.l0 k y0 y1 y2) (aodv_Encode.l0 (k + 1) y0 y1 y2)) ∧ (∀ y0 y1 y2, LeO (aodv_Encode.j1 k y0 y1 y2) (aodv_Encode.j1 (k + 1) y0 y1 y2))
 | 0 => ⟨Sq.mz, Sq.mz⟩
 | k + 1 => by
  obtain ⟨ih0, ih1⟩ := aodv_Encode.mono_l k
  refine ⟨?_, ?_⟩
  ·intros
   unfold aodv_Encode.l0
   have m0 := aodv_Right.mono
   have m1 := rerr_Put.mono
   have m2 := rrep_Put.mono
   have m3 := rreq_Put.mono
   exact Sq.mo
  ·intros
   unfold aodv_Encode.j1
   have m0 := aodv_Right.mono
   have m1 := rerr_Put.mono
   have m2 := rrep_Put.mono
   have m3 := rreq_Put.mono
   exact Sq.mo
theorem aodv_Encode.mono : ∀ a0 k, LeO (aodv_Encode.f k a0) (aodv_Encode.f (k + 1) a0) := by
 intro a0 k
 obtain ⟨ih0, ih1⟩ := aodv_Encode.mono_l k
 unfold aodv_Encode.f
 have m0 := aodv_Right.mono
 have m1 := rerr_Put.mono
 have m2 := rrep_Put.mono
 have m3 := rreq_Put.mono
 exact Sq.mo

set_option maxHeartbeats 8000000 in
set_option maxRecDepth 100000 in
theorem aodv_Encode.calls (k : Nat) (A0 : Option Addr) (c0 : Nat) (l0 : List (S25)) (r1 : ByteArray) (r2 : Int) (r3 : Int) (w : World) (ff : Kd.C k25 w A0 l0.length l0) (eH : l0.length ≤ c0) (h : aodv_Encode.f k l0 = some (r1, r2, r3)) :
  Calls Try.prog 47 #[.slice A0 l0.length c0] w fun e w' => e = .returned (.tuple #[.string r1, .int .i64 r2, .int .i64 r3]) ∧ Below w.heap.size w w' := by
 have dM := Try.underlying25
 have dS := Aside0.mk ff
 have gj := Aside0.mk eH
 clear ff eH
 have HB := Aside0.mk (Below.refl w.heap.size w)
 have H : (aodv_Encode.l0 k l0 (l0.length : Int) 0) = some (r1, r2, r3) := h
 clear h
 have H' := Aside0.mk H
 clear H
 go_enter Try.func47, Try.ntmps47
 go_wp2_with (first | ((with_reducible refine Pre.gate_load 25 rfl ?_); (try (refine gate_guard Z14 ?_; dsimp only)); refine Pre.load_event_a rfl rfl rfl Z14 Pre.range25 Try.underlying25 rfl Z11 ?_))
 go_loopg [10] k (fun kq hV w' => ∃ (aV : Int), hV = .int .i64 aV ∧ Aside0 (aodv_Encode.l0 kq l0 (l0.length : Int) aV = some (r1, r2, r3)) ∧ Aside0 (kq ≤ k) ∧ Aside0 (Below w.heap.size w w'))
 case atStart => exact ⟨(0), Z10, H', ⟨Nat.le_refl _⟩, ⟨Z2⟩⟩
 case round =>
  clear H'
  obtain ⟨aV, rfl, HA, HK1, HB⟩ := hrel
  cases gk with
  | zero => exact absurd HA.out (by simp [aodv_Encode.l0])
  | succ k1 =>
   have H := HA.out
   clear HA
   simp only [aodv_Encode.l0] at H
   by_cases c2 : aV < (l0.length : Int)
   ·rw [if_pos c2] at H
    have fR : decide (aV < (l0.length : Int)) = true := decide_eq_true c2
    clear c2
    by_cases c3 : 0 ≤ aV
    ·rw [if_pos c3] at H
     have fh : decide (0 ≤ aV) = true := decide_eq_true c3
     clear c3
     by_cases c4 : aV < (l0.length : Int)
     ·rw [if_pos c4] at H
      have cf : decide (aV < (l0.length : Int)) = true := decide_eq_true c4
      clear c4
      replace H := Option.bind_eq_some_iff.mp H
      obtain ⟨aU, iy, H⟩ := H
      replace H : (if aU = true then (aodv_Encode.l0 k1 l0 (l0.length : Int) (wrap64 (aV + 1))) else (some ((⟨#[]⟩ : ByteArray), aV, 1))) = some (r1, r2, r3) := H
      have A5 := Aside0.mk iy
      clear iy
      by_cases c6 : aU = true
      ·subst c6
       have H1 : (aodv_Encode.l0 k1 l0 (l0.length : Int) (wrap64 (aV + 1))) = some (r1, r2, r3) := by rw [if_pos rfl] at H; exact H
       clear H
       have H := H1
       clear H1
       have H' := Aside0.mk H
       clear H
       have p101 : 0 ≤ (aV : Int) := of_decide_eq_true Z8
       have q101 : aV < (l0.length : Int) := of_decide_eq_true Z8
       obtain ⟨ad101, dG, dH, dI, dJ, e101, hx101_0, hx101_1, hx101_2, hx101_3, hx101_4, hx101_5, hx101_6, hx101_7, hx101_8, hx101_9, hx101_10, hx101_11, hx101_12, hx101_13, hx101_14, hx101_15, hx101_16, hx101_17, hx101_18, hx101_19, hx101_20, hx101_21, hx101_22, hx101_23, hx101_24, hl101_21, hi101_21, hl101_24, hi101_24⟩ := at_T25 dS.out aV p101 q101
       cases e101
       replace hx101_0 := Sq.up HB.out hx101_0
       replace hx101_1 := Sq.up HB.out hx101_1
       replace hx101_2 := Sq.up HB.out hx101_2
       replace hx101_3 := Sq.up HB.out hx101_3
       replace hx101_4 := Sq.up HB.out hx101_4
       replace hx101_5 := Sq.up HB.out hx101_5
       replace hx101_6 := Sq.up HB.out hx101_6
       replace hx101_7 := Sq.up HB.out hx101_7
       replace hx101_8 := Sq.up HB.out hx101_8
       replace hx101_9 := Sq.up HB.out hx101_9
       replace hx101_10 := Sq.up HB.out hx101_10
       replace hx101_11 := Sq.up HB.out hx101_11
       replace hx101_12 := Sq.up HB.out hx101_12
       replace hx101_13 := Sq.up HB.out hx101_13
       replace hx101_14 := Sq.up HB.out hx101_14
       replace hx101_15 := Sq.up HB.out hx101_15
       replace hx101_16 := Sq.up HB.out hx101_16
       replace hx101_17 := Sq.up HB.out hx101_17
       replace hx101_18 := Sq.up HB.out hx101_18
       replace hx101_19 := Sq.up HB.out hx101_19
       replace hx101_20 := Sq.up HB.out hx101_20
       replace hx101_21 := Sq.up HB.out hx101_21
       replace hx101_22 := Sq.up HB.out hx101_22
       replace hx101_23 := Sq.up HB.out hx101_23
       replace hx101_24 := Sq.up HB.out hx101_24
       have eQ := Aside0.mk hi101_21
       have de := Aside0.mk hl101_21
       clear hi101_21 hl101_21
       have eR := Aside0.mk hi101_24
       have df := Aside0.mk hl101_24
       clear hi101_24 hl101_24
       replace p101 := eq_true p101
       replace q101 := eq_true q101
       go_wp2_with (first | ((with_reducible refine Pre.gate_load 25 rfl ?_); (try (refine gate_guard Z14 ?_; dsimp only)); refine Pre.load_event_a rfl rfl rfl Z14 Pre.range25 Try.underlying25 rfl Z11 ?_) | ((with_reducible refine gate_callee (f := 45) rfl ?_); refine goesL_ (some 17) rfl rfl Try.func45 Z11 rfl #[.agg #[.int .i64 ((rd_T25 l0 aV).f0), .int .i64 ((rd_T25 l0 aV).f1), .int .i64 ((rd_T25 l0 aV).f2), .string ((rd_T25 l0 aV).f3), .int .i64 ((rd_T25 l0 aV).f4), .int .i64 ((rd_T25 l0 aV).f5), .string ((rd_T25 l0 aV).f6), .int .i64 ((rd_T25 l0 aV).f7), .int .i64 ((rd_T25 l0 aV).f8), .string ((rd_T25 l0 aV).f9), .int .i64 ((rd_T25 l0 aV).f10), .string ((rd_T25 l0 aV).f11), .int .i64 ((rd_T25 l0 aV).f12), .int .i64 ((rd_T25 l0 aV).f13), .int .i64 ((rd_T25 l0 aV).f14), .int .i64 ((rd_T25 l0 aV).f15), .int .i64 ((rd_T25 l0 aV).f16), .int .i64 ((rd_T25 l0 aV).f17), .int .i64 ((rd_T25 l0 aV).f18), .string ((rd_T25 l0 aV).f19), .string ((rd_T25 l0 aV).f20), .slice dG ((rd_T25 l0 aV).f21).length dH, .int .i64 ((rd_T25 l0 aV).f22), .string ((rd_T25 l0 aV).f23), .slice dI ((rd_T25 l0 aV).f24).length dJ]] rfl Z4 ?_; (with_reducible refine (aodv_Right.calls k1 ((rd_T25 l0 aV).f0) ((rd_T25 l0 aV).f1) ((rd_T25 l0 aV).f2) ((rd_T25 l0 aV).f3) ((rd_T25 l0 aV).f4) ((rd_T25 l0 aV).f5) ((rd_T25 l0 aV).f6) ((rd_T25 l0 aV).f7) ((rd_T25 l0 aV).f8) ((rd_T25 l0 aV).f9) ((rd_T25 l0 aV).f10) ((rd_T25 l0 aV).f11) ((rd_T25 l0 aV).f12) ((rd_T25 l0 aV).f13) ((rd_T25 l0 aV).f14) ((rd_T25 l0 aV).f15) ((rd_T25 l0 aV).f16) ((rd_T25 l0 aV).f17) ((rd_T25 l0 aV).f18) ((rd_T25 l0 aV).f19) ((rd_T25 l0 aV).f20) _ _ ((rd_T25 l0 aV).f21) ((rd_T25 l0 aV).f22) ((rd_T25 l0 aV).f23) _ _ ((rd_T25 l0 aV).f24) true _ ?side1 ?side2 ?side3 ?side4 A5.out).mono ?_); (case side1 => exact Z27); (case side2 => exact de.out); (case side3 => exact Z26); (case side4 => exact df.out); rintro e w7 ⟨rfl, hb⟩; refine ⟨_, rfl, ?_⟩; replace HB := Aside0.mk (below_step Z2 hb); clear hb))
       go_roundg k1
       case measure => have := HK1.out; omega
       case rel => exact ⟨(wrap64 (aV + 1)), Z10, H', ⟨Z49⟩, ⟨Z2⟩⟩
      ·replace c6 := Bool.eq_false_iff.mpr c6
       subst c6
       have H1 : (some ((⟨#[]⟩ : ByteArray), aV, 1)) = some (r1, r2, r3) := by rw [if_neg (show ¬ (false = true) by decide)] at H; exact H
       clear H
       have H := H1
       clear H1
       simp only [Option.some.injEq, Prod.mk.injEq] at H
       obtain ⟨rfl, rfl, rfl⟩ := H
       have p101 : 0 ≤ (aV : Int) := of_decide_eq_true Z8
       have q101 : aV < (l0.length : Int) := of_decide_eq_true Z8
       obtain ⟨ad101, dG, dH, dI, dJ, e101, hx101_0, hx101_1, hx101_2, hx101_3, hx101_4, hx101_5, hx101_6, hx101_7, hx101_8, hx101_9, hx101_10, hx101_11, hx101_12, hx101_13, hx101_14, hx101_15, hx101_16, hx101_17, hx101_18, hx101_19, hx101_20, hx101_21, hx101_22, hx101_23, hx101_24, hl101_21, hi101_21, hl101_24, hi101_24⟩ := at_T25 dS.out aV p101 q101
       cases e101
       replace hx101_0 := Sq.up HB.out hx101_0
       replace hx101_1 := Sq.up HB.out hx101_1
       replace hx101_2 := Sq.up HB.out hx101_2
       replace hx101_3 := Sq.up HB.out hx101_3
       replace hx101_4 := Sq.up HB.out hx101_4
       replace hx101_5 := Sq.up HB.out hx101_5
       replace hx101_6 := Sq.up HB.out hx101_6
       replace hx101_7 := Sq.up HB.out hx101_7
       replace hx101_8 := Sq.up HB.out hx101_8
       replace hx101_9 := Sq.up HB.out hx101_9
       replace hx101_10 := Sq.up HB.out hx101_10
       replace hx101_11 := Sq.up HB.out hx101_11
       replace hx101_12 := Sq.up HB.out hx101_12
       replace hx101_13 := Sq.up HB.out hx101_13
       replace hx101_14 := Sq.up HB.out hx101_14
       replace hx101_15 := Sq.up HB.out hx101_15
       replace hx101_16 := Sq.up HB.out hx101_16
       replace hx101_17 := Sq.up HB.out hx101_17
       replace hx101_18 := Sq.up HB.out hx101_18
       replace hx101_19 := Sq.up HB.out hx101_19
       replace hx101_20 := Sq.up HB.out hx101_20
       replace hx101_21 := Sq.up HB.out hx101_21
       replace hx101_22 := Sq.up HB.out hx101_22
       replace hx101_23 := Sq.up HB.out hx101_23
       replace hx101_24 := Sq.up HB.out hx101_24
       have eQ := Aside0.mk hi101_21
       have de := Aside0.mk hl101_21
       clear hi101_21 hl101_21
       have eR := Aside0.mk hi101_24
       have df := Aside0.mk hl101_24
       clear hi101_24 hl101_24
       replace p101 := eq_true p101
       replace q101 := eq_true q101
       go_wp2_with (first | ((with_reducible refine Pre.gate_load 25 rfl ?_); (try (refine gate_guard Z14 ?_; dsimp only)); refine Pre.load_event_a rfl rfl rfl Z14 Pre.range25 Try.underlying25 rfl Z11 ?_) | ((with_reducible refine gate_callee (f := 45) rfl ?_); refine goesL_ (some 17) rfl rfl Try.func45 Z11 rfl #[.agg #[.int .i64 ((rd_T25 l0 aV).f0), .int .i64 ((rd_T25 l0 aV).f1), .int .i64 ((rd_T25 l0 aV).f2), .string ((rd_T25 l0 aV).f3), .int .i64 ((rd_T25 l0 aV).f4), .int .i64 ((rd_T25 l0 aV).f5), .string ((rd_T25 l0 aV).f6), .int .i64 ((rd_T25 l0 aV).f7), .int .i64 ((rd_T25 l0 aV).f8), .string ((rd_T25 l0 aV).f9), .int .i64 ((rd_T25 l0 aV).f10), .string ((rd_T25 l0 aV).f11), .int .i64 ((rd_T25 l0 aV).f12), .int .i64 ((rd_T25 l0 aV).f13), .int .i64 ((rd_T25 l0 aV).f14), .int .i64 ((rd_T25 l0 aV).f15), .int .i64 ((rd_T25 l0 aV).f16), .int .i64 ((rd_T25 l0 aV).f17), .int .i64 ((rd_T25 l0 aV).f18), .string ((rd_T25 l0 aV).f19), .string ((rd_T25 l0 aV).f20), .slice dG ((rd_T25 l0 aV).f21).length dH, .int .i64 ((rd_T25 l0 aV).f22), .string ((rd_T25 l0 aV).f23), .slice dI ((rd_T25 l0 aV).f24).length dJ]] rfl Z4 ?_; (with_reducible refine (aodv_Right.calls k1 ((rd_T25 l0 aV).f0) ((rd_T25 l0 aV).f1) ((rd_T25 l0 aV).f2) ((rd_T25 l0 aV).f3) ((rd_T25 l0 aV).f4) ((rd_T25 l0 aV).f5) ((rd_T25 l0 aV).f6) ((rd_T25 l0 aV).f7) ((rd_T25 l0 aV).f8) ((rd_T25 l0 aV).f9) ((rd_T25 l0 aV).f10) ((rd_T25 l0 aV).f11) ((rd_T25 l0 aV).f12) ((rd_T25 l0 aV).f13) ((rd_T25 l0 aV).f14) ((rd_T25 l0 aV).f15) ((rd_T25 l0 aV).f16) ((rd_T25 l0 aV).f17) ((rd_T25 l0 aV).f18) ((rd_T25 l0 aV).f19) ((rd_T25 l0 aV).f20) _ _ ((rd_T25 l0 aV).f21) ((rd_T25 l0 aV).f22) ((rd_T25 l0 aV).f23) _ _ ((rd_T25 l0 aV).f24) false _ ?side1 ?side2 ?side3 ?side4 A5.out).mono ?_); (case side1 => exact Z27); (case side2 => exact de.out); (case side3 => exact Z26); (case side4 => exact df.out); rintro e w8 ⟨rfl, hb⟩; refine ⟨_, rfl, ?_⟩; replace HB := Aside0.mk (below_step Z2 hb); clear hb))
       go_ret3
       exact ⟨Z6, Z2⟩
     ·rw [if_neg c4] at H
      exact absurd H Z35
    ·rw [if_neg c3] at H
     exact absurd H Z35
   ·rw [if_neg c2] at H
    have fR : decide (aV < (l0.length : Int)) = false := decide_eq_false c2
    clear c2
    by_cases c9 : (l0.length : Int) = 0
    ·rw [if_pos c9] at H
     have ga : ((l0.length : Int) == 0) = true := beq_iff_eq.mpr c9
     have gG : ((l0.length : Int) != 0) = false := bne_eq_false_iff_eq.mpr c9
     clear c9
     simp only [Option.some.injEq, Prod.mk.injEq] at H
     obtain ⟨rfl, rfl, rfl⟩ := H
     go_wp2_with (first | ((with_reducible refine Pre.gate_load 25 rfl ?_); (try (refine gate_guard Z14 ?_; dsimp only)); refine Pre.load_event_a rfl rfl rfl Z14 Pre.range25 Try.underlying25 rfl Z11 ?_))
     go_ret3
     exact ⟨Z6, Z2⟩
    ·rw [if_neg c9] at H
     have ga : ((l0.length : Int) == 0) = false := beq_eq_false_iff_ne.mpr c9
     have gG : ((l0.length : Int) != 0) = true := bne_iff_ne.mpr c9
     have jz : ¬ (l0 = []) := fun h_ => c9 (by rw [h_]; rfl)
     by_cases dv : (l0.length : Int) > 1
     ·rw [if_pos dv] at H
      have eS : decide (1 < (l0.length : Int)) = true := decide_eq_true dv
      have gn : decide (1 < l0.length) = true := decide_eq_true Z29
      clear dv
      simp only [Option.some.injEq, Prod.mk.injEq] at H
      obtain ⟨rfl, rfl, rfl⟩ := H
      go_wp2_with (first | ((with_reducible refine Pre.gate_load 25 rfl ?_); (try (refine gate_guard Z14 ?_; dsimp only)); refine Pre.load_event_a rfl rfl rfl Z14 Pre.range25 Try.underlying25 rfl Z11 ?_))
      go_ret3
      exact ⟨Z6, Z2⟩
     ·rw [if_neg dv] at H
      have eS : decide (1 < (l0.length : Int)) = false := decide_eq_false dv
      have gn : decide (1 < l0.length) = false := decide_eq_false Z29
      clear dv
      by_cases dC : 0 < (l0.length : Int)
      ·rw [if_pos dC] at H
       have fg : decide (0 < (l0.length : Int)) = true := decide_eq_true dC
       have jf : decide (0 < l0.length) = true := decide_eq_true Z29
       clear dC
       replace H := Option.bind_eq_some_iff.mp H
       obtain ⟨⟨bg, bH⟩, jg, H⟩ := H
       replace H : (if bH = true then (aodv_Encode.j1 k1 l0 bg bH) else ((rrep_Put.f k1 ((rd_T25 l0 0).f0) ((rd_T25 l0 0).f1) ((rd_T25 l0 0).f2) ((rd_T25 l0 0).f3) ((rd_T25 l0 0).f4) ((rd_T25 l0 0).f5) ((rd_T25 l0 0).f6) ((rd_T25 l0 0).f7) ((rd_T25 l0 0).f8) ((rd_T25 l0 0).f9) ((rd_T25 l0 0).f10) ((rd_T25 l0 0).f11) ((rd_T25 l0 0).f12) ((rd_T25 l0 0).f13) ((rd_T25 l0 0).f14) ((rd_T25 l0 0).f15) ((rd_T25 l0 0).f16) ((rd_T25 l0 0).f17) ((rd_T25 l0 0).f18) ((rd_T25 l0 0).f19) ((rd_T25 l0 0).f20) ((rd_T25 l0 0).f21) ((rd_T25 l0 0).f22) ((rd_T25 l0 0).f23) ((rd_T25 l0 0).f24)).bind fun ca => (aodv_Encode.j1 k1 l0 ca.1 ca.2))) = some (r1, r2, r3) := H
       have lX := Aside0.mk jg
       clear jg
       have lj := Aside0.mk H
       clear H
       have p103 : 0 ≤ (0 : Int) := Z29
       have q103 : 0 < (l0.length : Int) := of_decide_eq_true Z8
       obtain ⟨ad103, eI, eJ, eK, eL, e103, hx103_0, hx103_1, hx103_2, hx103_3, hx103_4, hx103_5, hx103_6, hx103_7, hx103_8, hx103_9, hx103_10, hx103_11, hx103_12, hx103_13, hx103_14, hx103_15, hx103_16, hx103_17, hx103_18, hx103_19, hx103_20, hx103_21, hx103_22, hx103_23, hx103_24, hl103_21, hi103_21, hl103_24, hi103_24⟩ := at_T25 dS.out 0 p103 q103
       cases e103
       have qi103 : (0 < l0.length) = True := eq_true Z29
       (try rw [show ((0 : Int)).toNat = 0 from rfl] at hx103_0)
       (try rw [show 0 * 25 = 0 from rfl] at hx103_0)
       (try rw [Addr.add_zero'] at hx103_0)
       (try rw [show ((0 : Int)).toNat = 0 from rfl] at hx103_1)
       (try rw [show 0 * 25 = 0 from rfl] at hx103_1)
       (try rw [Addr.add_zero'] at hx103_1)
       (try rw [show ((0 : Int)).toNat = 0 from rfl] at hx103_2)
       (try rw [show 0 * 25 = 0 from rfl] at hx103_2)
       (try rw [Addr.add_zero'] at hx103_2)
       (try rw [show ((0 : Int)).toNat = 0 from rfl] at hx103_3)
       (try rw [show 0 * 25 = 0 from rfl] at hx103_3)
       (try rw [Addr.add_zero'] at hx103_3)
       (try rw [show ((0 : Int)).toNat = 0 from rfl] at hx103_4)
       (try rw [show 0 * 25 = 0 from rfl] at hx103_4)
       (try rw [Addr.add_zero'] at hx103_4)
       (try rw [show ((0 : Int)).toNat = 0 from rfl] at hx103_5)
       (try rw [show 0 * 25 = 0 from rfl] at hx103_5)
       (try rw [Addr.add_zero'] at hx103_5)
       (try rw [show ((0 : Int)).toNat = 0 from rfl] at hx103_6)
       (try rw [show 0 * 25 = 0 from rfl] at hx103_6)
       (try rw [Addr.add_zero'] at hx103_6)
       (try rw [show ((0 : Int)).toNat = 0 from rfl] at hx103_7)
       (try rw [show 0 * 25 = 0 from rfl] at hx103_7)
       (try rw [Addr.add_zero'] at hx103_7)
       (try rw [show ((0 : Int)).toNat = 0 from rfl] at hx103_8)
       (try rw [show 0 * 25 = 0 from rfl] at hx103_8)
       (try rw [Addr.add_zero'] at hx103_8)
       (try rw [show ((0 : Int)).toNat = 0 from rfl] at hx103_9)
       (try rw [show 0 * 25 = 0 from rfl] at hx103_9)
       (try rw [Addr.add_zero'] at hx103_9)
       (try rw [show ((0 : Int)).toNat = 0 from rfl] at hx103_10)
       (try rw [show 0 * 25 = 0 from rfl] at hx103_10)
       (try rw [Addr.add_zero'] at hx103_10)
       (try rw [show ((0 : Int)).toNat = 0 from rfl] at hx103_11)
       (try rw [show 0 * 25 = 0 from rfl] at hx103_11)
       (try rw [Addr.add_zero'] at hx103_11)
       (try rw [show ((0 : Int)).toNat = 0 from rfl] at hx103_12)
       (try rw [show 0 * 25 = 0 from rfl] at hx103_12)
       (try rw [Addr.add_zero'] at hx103_12)
       (try rw [show ((0 : Int)).toNat = 0 from rfl] at hx103_13)
       (try rw [show 0 * 25 = 0 from rfl] at hx103_13)
       (try rw [Addr.add_zero'] at hx103_13)
       (try rw [show ((0 : Int)).toNat = 0 from rfl] at hx103_14)
       (try rw [show 0 * 25 = 0 from rfl] at hx103_14)
       (try rw [Addr.add_zero'] at hx103_14)
       (try rw [show ((0 : Int)).toNat = 0 from rfl] at hx103_15)
       (try rw [show 0 * 25 = 0 from rfl] at hx103_15)
       (try rw [Addr.add_zero'] at hx103_15)
       (try rw [show ((0 : Int)).toNat = 0 from rfl] at hx103_16)
       (try rw [show 0 * 25 = 0 from rfl] at hx103_16)
       (try rw [Addr.add_zero'] at hx103_16)
       (try rw [show ((0 : Int)).toNat = 0 from rfl] at hx103_17)
       (try rw [show 0 * 25 = 0 from rfl] at hx103_17)
       (try rw [Addr.add_zero'] at hx103_17)
       (try rw [show ((0 : Int)).toNat = 0 from rfl] at hx103_18)
       (try rw [show 0 * 25 = 0 from rfl] at hx103_18)
       (try rw [Addr.add_zero'] at hx103_18)
       (try rw [show ((0 : Int)).toNat = 0 from rfl] at hx103_19)
       (try rw [show 0 * 25 = 0 from rfl] at hx103_19)
       (try rw [Addr.add_zero'] at hx103_19)
       (try rw [show ((0 : Int)).toNat = 0 from rfl] at hx103_20)
       (try rw [show 0 * 25 = 0 from rfl] at hx103_20)
       (try rw [Addr.add_zero'] at hx103_20)
       (try rw [show ((0 : Int)).toNat = 0 from rfl] at hx103_21)
       (try rw [show 0 * 25 = 0 from rfl] at hx103_21)
       (try rw [Addr.add_zero'] at hx103_21)
       (try rw [show ((0 : Int)).toNat = 0 from rfl] at hx103_22)
       (try rw [show 0 * 25 = 0 from rfl] at hx103_22)
       (try rw [Addr.add_zero'] at hx103_22)
       (try rw [show ((0 : Int)).toNat = 0 from rfl] at hx103_23)
       (try rw [show 0 * 25 = 0 from rfl] at hx103_23)
       (try rw [Addr.add_zero'] at hx103_23)
       (try rw [show ((0 : Int)).toNat = 0 from rfl] at hx103_24)
       (try rw [show 0 * 25 = 0 from rfl] at hx103_24)
       (try rw [Addr.add_zero'] at hx103_24)
       replace hx103_0 := Sq.up HB.out hx103_0
       replace hx103_1 := Sq.up HB.out hx103_1
       replace hx103_2 := Sq.up HB.out hx103_2
       replace hx103_3 := Sq.up HB.out hx103_3
       replace hx103_4 := Sq.up HB.out hx103_4
       replace hx103_5 := Sq.up HB.out hx103_5
       replace hx103_6 := Sq.up HB.out hx103_6
       replace hx103_7 := Sq.up HB.out hx103_7
       replace hx103_8 := Sq.up HB.out hx103_8
       replace hx103_9 := Sq.up HB.out hx103_9
       replace hx103_10 := Sq.up HB.out hx103_10
       replace hx103_11 := Sq.up HB.out hx103_11
       replace hx103_12 := Sq.up HB.out hx103_12
       replace hx103_13 := Sq.up HB.out hx103_13
       replace hx103_14 := Sq.up HB.out hx103_14
       replace hx103_15 := Sq.up HB.out hx103_15
       replace hx103_16 := Sq.up HB.out hx103_16
       replace hx103_17 := Sq.up HB.out hx103_17
       replace hx103_18 := Sq.up HB.out hx103_18
       replace hx103_19 := Sq.up HB.out hx103_19
       replace hx103_20 := Sq.up HB.out hx103_20
       replace hx103_21 := Sq.up HB.out hx103_21
       replace hx103_22 := Sq.up HB.out hx103_22
       replace hx103_23 := Sq.up HB.out hx103_23
       replace hx103_24 := Sq.up HB.out hx103_24
       have fF := Aside0.mk hi103_21
       have fp := Aside0.mk hl103_21
       clear hi103_21 hl103_21
       have fG := Aside0.mk hi103_24
       have fq := Aside0.mk hl103_24
       clear hi103_24 hl103_24
       replace p103 := eq_true p103
       replace q103 := eq_true q103
       go_upto_if 35 with (first | ((with_reducible refine Pre.gate_load 25 rfl ?_); (try (refine gate_guard Z14 ?_; dsimp only)); refine Pre.load_event_a rfl rfl rfl Z14 Pre.range25 Try.underlying25 rfl Z11 ?_) | ((with_reducible refine gate_callee (f := 18) rfl ?_); refine goesL_ (some 31) rfl rfl Try.func18 Z11 rfl #[.agg #[.int .i64 ((rd_T25 l0 0).f0), .int .i64 ((rd_T25 l0 0).f1), .int .i64 ((rd_T25 l0 0).f2), .string ((rd_T25 l0 0).f3), .int .i64 ((rd_T25 l0 0).f4), .int .i64 ((rd_T25 l0 0).f5), .string ((rd_T25 l0 0).f6), .int .i64 ((rd_T25 l0 0).f7), .int .i64 ((rd_T25 l0 0).f8), .string ((rd_T25 l0 0).f9), .int .i64 ((rd_T25 l0 0).f10), .string ((rd_T25 l0 0).f11), .int .i64 ((rd_T25 l0 0).f12), .int .i64 ((rd_T25 l0 0).f13), .int .i64 ((rd_T25 l0 0).f14), .int .i64 ((rd_T25 l0 0).f15), .int .i64 ((rd_T25 l0 0).f16), .int .i64 ((rd_T25 l0 0).f17), .int .i64 ((rd_T25 l0 0).f18), .string ((rd_T25 l0 0).f19), .string ((rd_T25 l0 0).f20), .slice eI ((rd_T25 l0 0).f21).length eJ, .int .i64 ((rd_T25 l0 0).f22), .string ((rd_T25 l0 0).f23), .slice eK ((rd_T25 l0 0).f24).length eL]] rfl Z4 ?_; (with_reducible refine (rreq_Put.calls k1 ((rd_T25 l0 0).f0) ((rd_T25 l0 0).f1) ((rd_T25 l0 0).f2) ((rd_T25 l0 0).f3) ((rd_T25 l0 0).f4) ((rd_T25 l0 0).f5) ((rd_T25 l0 0).f6) ((rd_T25 l0 0).f7) ((rd_T25 l0 0).f8) ((rd_T25 l0 0).f9) ((rd_T25 l0 0).f10) ((rd_T25 l0 0).f11) ((rd_T25 l0 0).f12) ((rd_T25 l0 0).f13) ((rd_T25 l0 0).f14) ((rd_T25 l0 0).f15) ((rd_T25 l0 0).f16) ((rd_T25 l0 0).f17) ((rd_T25 l0 0).f18) ((rd_T25 l0 0).f19) ((rd_T25 l0 0).f20) _ _ ((rd_T25 l0 0).f21) ((rd_T25 l0 0).f22) ((rd_T25 l0 0).f23) _ _ ((rd_T25 l0 0).f24) bg bH _ ?side1 ?side2 ?side3 ?side4 lX.out).mono ?_); (case side1 => exact Z43); (case side2 => exact fp.out); (case side3 => exact Z42); (case side4 => exact fq.out); rintro e kJ ⟨rfl, hb⟩; refine ⟨_, rfl, ?_⟩; replace HB := Aside0.mk (below_step Z2 hb); clear hb))
       (try simp only [Act.put, Sq.s1, Sq.s2, Sq.s3])
       go_cut [6, 7] (fun v6 v7 wc => ∃ (kq : Nat) (fC : ByteArray) (iG : Bool), v6 = .string fC ∧ v7 = .bool iG ∧ Aside0 (aodv_Encode.j1 kq l0 fC iG = some (r1, r2, r3)) ∧ Aside0 (kq ≤ k1) ∧ Aside0 (Below w.heap.size w wc))
       case first =>
        have H := lj.out
        clear lj
        by_cases dA : bH = true
        ·subst dA
         have H1 : (aodv_Encode.j1 k1 l0 bg true) = some (r1, r2, r3) := by rw [if_pos rfl] at H; exact H
         clear H
         have H := H1
         clear H1
         have H' := Aside0.mk H
         clear H
         go_wp2_with (first | ((with_reducible refine Pre.gate_load 25 rfl ?_); (try (refine gate_guard Z14 ?_; dsimp only)); refine Pre.load_event_a rfl rfl rfl Z14 Pre.range25 Try.underlying25 rfl Z11 ?_))
         go_meet
         case rel => exact ⟨_, (bg), (true), Z10, Z10, H', ⟨Z61⟩, ⟨Z2⟩⟩
        ·replace dA := Bool.eq_false_iff.mpr dA
         subst dA
         have H1 : ((rrep_Put.f k1 ((rd_T25 l0 0).f0) ((rd_T25 l0 0).f1) ((rd_T25 l0 0).f2) ((rd_T25 l0 0).f3) ((rd_T25 l0 0).f4) ((rd_T25 l0 0).f5) ((rd_T25 l0 0).f6) ((rd_T25 l0 0).f7) ((rd_T25 l0 0).f8) ((rd_T25 l0 0).f9) ((rd_T25 l0 0).f10) ((rd_T25 l0 0).f11) ((rd_T25 l0 0).f12) ((rd_T25 l0 0).f13) ((rd_T25 l0 0).f14) ((rd_T25 l0 0).f15) ((rd_T25 l0 0).f16) ((rd_T25 l0 0).f17) ((rd_T25 l0 0).f18) ((rd_T25 l0 0).f19) ((rd_T25 l0 0).f20) ((rd_T25 l0 0).f21) ((rd_T25 l0 0).f22) ((rd_T25 l0 0).f23) ((rd_T25 l0 0).f24)).bind fun ca => (aodv_Encode.j1 k1 l0 ca.1 ca.2)) = some (r1, r2, r3) := by rw [if_neg (show ¬ (false = true) by decide)] at H; exact H
         clear H
         have H := H1
         clear H1
         replace H := Option.bind_eq_some_iff.mp H
         obtain ⟨⟨bX, aH⟩, mX, H⟩ := H
         replace H : (aodv_Encode.j1 k1 l0 bX aH) = some (r1, r2, r3) := H
         have ph := Aside0.mk mX
         clear mX
         have H' := Aside0.mk H
         clear H
         have p106 : 0 ≤ (0 : Int) := Z29
         have q106 : 0 < (l0.length : Int) := of_decide_eq_true Z8
         obtain ⟨ad106, gS, gT, gU, gV, e106, hx106_0, hx106_1, hx106_2, hx106_3, hx106_4, hx106_5, hx106_6, hx106_7, hx106_8, hx106_9, hx106_10, hx106_11, hx106_12, hx106_13, hx106_14, hx106_15, hx106_16, hx106_17, hx106_18, hx106_19, hx106_20, hx106_21, hx106_22, hx106_23, hx106_24, hl106_21, hi106_21, hl106_24, hi106_24⟩ := at_T25 dS.out 0 p106 q106
         obtain rfl : ad103 = ad106 := (by injection e106)
         have qi106 : (0 < l0.length) = True := eq_true Z29
         (try rw [show ((0 : Int)).toNat = 0 from rfl] at hx106_0)
         (try rw [show 0 * 25 = 0 from rfl] at hx106_0)
         (try rw [Addr.add_zero'] at hx106_0)
         (try rw [show ((0 : Int)).toNat = 0 from rfl] at hx106_1)
         (try rw [show 0 * 25 = 0 from rfl] at hx106_1)
         (try rw [Addr.add_zero'] at hx106_1)
         (try rw [show ((0 : Int)).toNat = 0 from rfl] at hx106_2)
         (try rw [show 0 * 25 = 0 from rfl] at hx106_2)
         (try rw [Addr.add_zero'] at hx106_2)
         (try rw [show ((0 : Int)).toNat = 0 from rfl] at hx106_3)
         (try rw [show 0 * 25 = 0 from rfl] at hx106_3)
         (try rw [Addr.add_zero'] at hx106_3)
         (try rw [show ((0 : Int)).toNat = 0 from rfl] at hx106_4)
         (try rw [show 0 * 25 = 0 from rfl] at hx106_4)
         (try rw [Addr.add_zero'] at hx106_4)
         (try rw [show ((0 : Int)).toNat = 0 from rfl] at hx106_5)
         (try rw [show 0 * 25 = 0 from rfl] at hx106_5)
         (try rw [Addr.add_zero'] at hx106_5)
         (try rw [show ((0 : Int)).toNat = 0 from rfl] at hx106_6)
         (try rw [show 0 * 25 = 0 from rfl] at hx106_6)
         (try rw [Addr.add_zero'] at hx106_6)
         (try rw [show ((0 : Int)).toNat = 0 from rfl] at hx106_7)
         (try rw [show 0 * 25 = 0 from rfl] at hx106_7)
         (try rw [Addr.add_zero'] at hx106_7)
         (try rw [show ((0 : Int)).toNat = 0 from rfl] at hx106_8)
         (try rw [show 0 * 25 = 0 from rfl] at hx106_8)
         (try rw [Addr.add_zero'] at hx106_8)
         (try rw [show ((0 : Int)).toNat = 0 from rfl] at hx106_9)
         (try rw [show 0 * 25 = 0 from rfl] at hx106_9)
         (try rw [Addr.add_zero'] at hx106_9)
         (try rw [show ((0 : Int)).toNat = 0 from rfl] at hx106_10)
         (try rw [show 0 * 25 = 0 from rfl] at hx106_10)
         (try rw [Addr.add_zero'] at hx106_10)
         (try rw [show ((0 : Int)).toNat = 0 from rfl] at hx106_11)
         (try rw [show 0 * 25 = 0 from rfl] at hx106_11)
         (try rw [Addr.add_zero'] at hx106_11)
         (try rw [show ((0 : Int)).toNat = 0 from rfl] at hx106_12)
         (try rw [show 0 * 25 = 0 from rfl] at hx106_12)
         (try rw [Addr.add_zero'] at hx106_12)
         (try rw [show ((0 : Int)).toNat = 0 from rfl] at hx106_13)
         (try rw [show 0 * 25 = 0 from rfl] at hx106_13)
         (try rw [Addr.add_zero'] at hx106_13)
         (try rw [show ((0 : Int)).toNat = 0 from rfl] at hx106_14)
         (try rw [show 0 * 25 = 0 from rfl] at hx106_14)
         (try rw [Addr.add_zero'] at hx106_14)
         (try rw [show ((0 : Int)).toNat = 0 from rfl] at hx106_15)
         (try rw [show 0 * 25 = 0 from rfl] at hx106_15)
         (try rw [Addr.add_zero'] at hx106_15)
         (try rw [show ((0 : Int)).toNat = 0 from rfl] at hx106_16)
         (try rw [show 0 * 25 = 0 from rfl] at hx106_16)
         (try rw [Addr.add_zero'] at hx106_16)
         (try rw [show ((0 : Int)).toNat = 0 from rfl] at hx106_17)
         (try rw [show 0 * 25 = 0 from rfl] at hx106_17)
         (try rw [Addr.add_zero'] at hx106_17)
         (try rw [show ((0 : Int)).toNat = 0 from rfl] at hx106_18)
         (try rw [show 0 * 25 = 0 from rfl] at hx106_18)
         (try rw [Addr.add_zero'] at hx106_18)
         (try rw [show ((0 : Int)).toNat = 0 from rfl] at hx106_19)
         (try rw [show 0 * 25 = 0 from rfl] at hx106_19)
         (try rw [Addr.add_zero'] at hx106_19)
         (try rw [show ((0 : Int)).toNat = 0 from rfl] at hx106_20)
         (try rw [show 0 * 25 = 0 from rfl] at hx106_20)
         (try rw [Addr.add_zero'] at hx106_20)
         (try rw [show ((0 : Int)).toNat = 0 from rfl] at hx106_21)
         (try rw [show 0 * 25 = 0 from rfl] at hx106_21)
         (try rw [Addr.add_zero'] at hx106_21)
         (try rw [show ((0 : Int)).toNat = 0 from rfl] at hx106_22)
         (try rw [show 0 * 25 = 0 from rfl] at hx106_22)
         (try rw [Addr.add_zero'] at hx106_22)
         (try rw [show ((0 : Int)).toNat = 0 from rfl] at hx106_23)
         (try rw [show 0 * 25 = 0 from rfl] at hx106_23)
         (try rw [Addr.add_zero'] at hx106_23)
         (try rw [show ((0 : Int)).toNat = 0 from rfl] at hx106_24)
         (try rw [show 0 * 25 = 0 from rfl] at hx106_24)
         (try rw [Addr.add_zero'] at hx106_24)
         replace hx106_0 := Sq.up HB.out hx106_0
         replace hx106_1 := Sq.up HB.out hx106_1
         replace hx106_2 := Sq.up HB.out hx106_2
         replace hx106_3 := Sq.up HB.out hx106_3
         replace hx106_4 := Sq.up HB.out hx106_4
         replace hx106_5 := Sq.up HB.out hx106_5
         replace hx106_6 := Sq.up HB.out hx106_6
         replace hx106_7 := Sq.up HB.out hx106_7
         replace hx106_8 := Sq.up HB.out hx106_8
         replace hx106_9 := Sq.up HB.out hx106_9
         replace hx106_10 := Sq.up HB.out hx106_10
         replace hx106_11 := Sq.up HB.out hx106_11
         replace hx106_12 := Sq.up HB.out hx106_12
         replace hx106_13 := Sq.up HB.out hx106_13
         replace hx106_14 := Sq.up HB.out hx106_14
         replace hx106_15 := Sq.up HB.out hx106_15
         replace hx106_16 := Sq.up HB.out hx106_16
         replace hx106_17 := Sq.up HB.out hx106_17
         replace hx106_18 := Sq.up HB.out hx106_18
         replace hx106_19 := Sq.up HB.out hx106_19
         replace hx106_20 := Sq.up HB.out hx106_20
         replace hx106_21 := Sq.up HB.out hx106_21
         replace hx106_22 := Sq.up HB.out hx106_22
         replace hx106_23 := Sq.up HB.out hx106_23
         replace hx106_24 := Sq.up HB.out hx106_24
         have hA := Aside0.mk hi106_21
         have gq := Aside0.mk hl106_21
         clear hi106_21 hl106_21
         have hB := Aside0.mk hi106_24
         have gr := Aside0.mk hl106_24
         clear hi106_24 hl106_24
         replace p106 := eq_true p106
         replace q106 := eq_true q106
         go_wp2_with (first | ((with_reducible refine Pre.gate_load 25 rfl ?_); (try (refine gate_guard Z14 ?_; dsimp only)); refine Pre.load_event_a rfl rfl rfl Z14 Pre.range25 Try.underlying25 rfl Z11 ?_) | ((with_reducible refine gate_callee (f := 34) rfl ?_); refine goesL_ (some 40) rfl rfl Try.func34 Z11 rfl #[.agg #[.int .i64 ((rd_T25 l0 0).f0), .int .i64 ((rd_T25 l0 0).f1), .int .i64 ((rd_T25 l0 0).f2), .string ((rd_T25 l0 0).f3), .int .i64 ((rd_T25 l0 0).f4), .int .i64 ((rd_T25 l0 0).f5), .string ((rd_T25 l0 0).f6), .int .i64 ((rd_T25 l0 0).f7), .int .i64 ((rd_T25 l0 0).f8), .string ((rd_T25 l0 0).f9), .int .i64 ((rd_T25 l0 0).f10), .string ((rd_T25 l0 0).f11), .int .i64 ((rd_T25 l0 0).f12), .int .i64 ((rd_T25 l0 0).f13), .int .i64 ((rd_T25 l0 0).f14), .int .i64 ((rd_T25 l0 0).f15), .int .i64 ((rd_T25 l0 0).f16), .int .i64 ((rd_T25 l0 0).f17), .int .i64 ((rd_T25 l0 0).f18), .string ((rd_T25 l0 0).f19), .string ((rd_T25 l0 0).f20), .slice gS ((rd_T25 l0 0).f21).length gT, .int .i64 ((rd_T25 l0 0).f22), .string ((rd_T25 l0 0).f23), .slice gU ((rd_T25 l0 0).f24).length gV]] rfl Z4 ?_; (with_reducible refine (rrep_Put.calls k1 ((rd_T25 l0 0).f0) ((rd_T25 l0 0).f1) ((rd_T25 l0 0).f2) ((rd_T25 l0 0).f3) ((rd_T25 l0 0).f4) ((rd_T25 l0 0).f5) ((rd_T25 l0 0).f6) ((rd_T25 l0 0).f7) ((rd_T25 l0 0).f8) ((rd_T25 l0 0).f9) ((rd_T25 l0 0).f10) ((rd_T25 l0 0).f11) ((rd_T25 l0 0).f12) ((rd_T25 l0 0).f13) ((rd_T25 l0 0).f14) ((rd_T25 l0 0).f15) ((rd_T25 l0 0).f16) ((rd_T25 l0 0).f17) ((rd_T25 l0 0).f18) ((rd_T25 l0 0).f19) ((rd_T25 l0 0).f20) _ _ ((rd_T25 l0 0).f21) ((rd_T25 l0 0).f22) ((rd_T25 l0 0).f23) _ _ ((rd_T25 l0 0).f24) bX aH _ ?side1 ?side2 ?side3 ?side4 ph.out).mono ?_); (case side1 => exact Z58); (case side2 => exact gq.out); (case side3 => exact Z57); (case side4 => exact gr.out); rintro e ip ⟨rfl, hb⟩; refine ⟨_, rfl, ?_⟩; replace HB := Aside0.mk (below_step Z2 hb); clear hb))
         go_meet
         case rel => exact ⟨_, (bX), (aH), Z10, Z10, H', ⟨Z61⟩, ⟨Z2⟩⟩
       case rest =>
        clear lj
        try clear c1
        try clear p1
        try clear q1
        try clear hx1
        try clear qi1
        try clear c2
        try clear fR
        try clear p2
        try clear c3
        try clear fh
        try clear c4
        try clear cf
        try clear c6
        try clear p6
        try clear c9
        try clear ga
        try clear gG
        try clear jz
        try clear dv
        try clear eS
        try clear gn
        try clear p10
        try clear q10
        try clear hx10
        try clear qi10
        try clear dC
        try clear fg
        try clear jf
        try clear hx101_0
        try clear hx101_1
        try clear hx101_10
        try clear hx101_11
        try clear hx101_12
        try clear hx101_13
        try clear hx101_14
        try clear hx101_15
        try clear hx101_16
        try clear hx101_17
        try clear hx101_18
        try clear hx101_19
        try clear hx101_2
        try clear hx101_20
        try clear hx101_21
        try clear hx101_22
        try clear hx101_23
        try clear hx101_24
        try clear hx101_3
        try clear hx101_4
        try clear hx101_5
        try clear hx101_6
        try clear hx101_7
        try clear hx101_8
        try clear hx101_9
        try clear hx103_0
        try clear hx103_1
        try clear hx103_10
        try clear hx103_11
        try clear hx103_12
        try clear hx103_13
        try clear hx103_14
        try clear hx103_15
        try clear hx103_16
        try clear hx103_17
        try clear hx103_18
        try clear hx103_19
        try clear hx103_2
        try clear hx103_20
        try clear hx103_21
        try clear hx103_22
        try clear hx103_23
        try clear hx103_24
        try clear hx103_3
        try clear hx103_4
        try clear hx103_5
        try clear hx103_6
        try clear hx103_7
        try clear hx103_8
        try clear hx103_9
        try clear p101
        try clear p103
        try clear q101
        try clear q103
        obtain ⟨kq, fC, iG, rfl, rfl, HA, HJ12, HB⟩ := hcut
        cases kq with
        | zero => exact absurd HA.out (by simp [aodv_Encode.j1])
        | succ kj12 =>
         have H := HA.out
         clear HA
         simp only [aodv_Encode.j1] at H
         by_cases ep : iG = true
         ·subst ep
          have H1 : (if (fC.size : Int) > 65535 then (some ((⟨#[]⟩ : ByteArray), 0, 10)) else (some (fC, 0, 0))) = some (r1, r2, r3) := by rw [if_pos rfl] at H; exact H
          clear H
          have H := H1
          clear H1
          by_cases eN : (fC.size : Int) > 65535
          ·rw [if_pos eN] at H
           have fz : decide (65535 < (fC.size : Int)) = true := decide_eq_true eN
           have gM : decide (65535 < fC.size) = true := decide_eq_true Z29
           clear eN
           simp only [Option.some.injEq, Prod.mk.injEq] at H
           obtain ⟨rfl, rfl, rfl⟩ := H
           go_wp2_with (first | ((with_reducible refine Pre.gate_load 25 rfl ?_); (try (refine gate_guard Z14 ?_; dsimp only)); refine Pre.load_event_a rfl rfl rfl Z14 Pre.range25 Try.underlying25 rfl Z11 ?_))
           go_ret3
           exact ⟨Z6, Z2⟩
          ·rw [if_neg eN] at H
           have fz : decide (65535 < (fC.size : Int)) = false := decide_eq_false eN
           have gM : decide (65535 < fC.size) = false := decide_eq_false Z29
           clear eN
           simp only [Option.some.injEq, Prod.mk.injEq] at H
           obtain ⟨rfl, rfl, rfl⟩ := H
           go_wp2_with (first | ((with_reducible refine Pre.gate_load 25 rfl ?_); (try (refine gate_guard Z14 ?_; dsimp only)); refine Pre.load_event_a rfl rfl rfl Z14 Pre.range25 Try.underlying25 rfl Z11 ?_))
           go_ret3
           exact ⟨Z6, Z2⟩
         ·replace ep := Bool.eq_false_iff.mpr ep
          subst ep
          have H1 : (if 0 < (l0.length : Int) then ((rerr_Put.f kj12 ((rd_T25 l0 0).f0) ((rd_T25 l0 0).f1) ((rd_T25 l0 0).f2) ((rd_T25 l0 0).f3) ((rd_T25 l0 0).f4) ((rd_T25 l0 0).f5) ((rd_T25 l0 0).f6) ((rd_T25 l0 0).f7) ((rd_T25 l0 0).f8) ((rd_T25 l0 0).f9) ((rd_T25 l0 0).f10) ((rd_T25 l0 0).f11) ((rd_T25 l0 0).f12) ((rd_T25 l0 0).f13) ((rd_T25 l0 0).f14) ((rd_T25 l0 0).f15) ((rd_T25 l0 0).f16) ((rd_T25 l0 0).f17) ((rd_T25 l0 0).f18) ((rd_T25 l0 0).f19) ((rd_T25 l0 0).f20) ((rd_T25 l0 0).f21) ((rd_T25 l0 0).f22) ((rd_T25 l0 0).f23) ((rd_T25 l0 0).f24)).bind fun dF => (if (dF.1.size : Int) > 65535 then (some ((⟨#[]⟩ : ByteArray), 0, 10)) else (some (dF.1, 0, 0)))) else (none)) = some (r1, r2, r3) := by rw [if_neg (show ¬ (false = true) by decide)] at H; exact H
          clear H
          have H := H1
          clear H1
          by_cases gZ : 0 < (l0.length : Int)
          ·rw [if_pos gZ] at H
           have jn : decide (0 < (l0.length : Int)) = true := decide_eq_true gZ
           have mY : decide (0 < l0.length) = true := decide_eq_true Z29
           clear gZ
           replace H := Option.bind_eq_some_iff.mp H
           obtain ⟨⟨ba, cP⟩, jo, H⟩ := H
           replace H : (if (ba.size : Int) > 65535 then (some ((⟨#[]⟩ : ByteArray), 0, 10)) else (some (ba, 0, 0))) = some (r1, r2, r3) := H
           have dR := Aside0.mk jo
           clear jo
           by_cases hl : (ba.size : Int) > 65535
           ·rw [if_pos hl] at H
            have jF : decide (65535 < (ba.size : Int)) = true := decide_eq_true hl
            have mZ : decide (65535 < ba.size) = true := decide_eq_true Z29
            clear hl
            simp only [Option.some.injEq, Prod.mk.injEq] at H
            obtain ⟨rfl, rfl, rfl⟩ := H
            have p109 : 0 ≤ (0 : Int) := Z29
            have q109 : 0 < (l0.length : Int) := of_decide_eq_true Z8
            obtain ⟨ad109, eZ, fa, fb, fc, e109, hx109_0, hx109_1, hx109_2, hx109_3, hx109_4, hx109_5, hx109_6, hx109_7, hx109_8, hx109_9, hx109_10, hx109_11, hx109_12, hx109_13, hx109_14, hx109_15, hx109_16, hx109_17, hx109_18, hx109_19, hx109_20, hx109_21, hx109_22, hx109_23, hx109_24, hl109_21, hi109_21, hl109_24, hi109_24⟩ := at_T25 dS.out 0 p109 q109
            obtain rfl : ad103 = ad109 := (by injection e109)
            have qi109 : (0 < l0.length) = True := eq_true Z29
            (try rw [show ((0 : Int)).toNat = 0 from rfl] at hx109_0)
            (try rw [show 0 * 25 = 0 from rfl] at hx109_0)
            (try rw [Addr.add_zero'] at hx109_0)
            (try rw [show ((0 : Int)).toNat = 0 from rfl] at hx109_1)
            (try rw [show 0 * 25 = 0 from rfl] at hx109_1)
            (try rw [Addr.add_zero'] at hx109_1)
            (try rw [show ((0 : Int)).toNat = 0 from rfl] at hx109_2)
            (try rw [show 0 * 25 = 0 from rfl] at hx109_2)
            (try rw [Addr.add_zero'] at hx109_2)
            (try rw [show ((0 : Int)).toNat = 0 from rfl] at hx109_3)
            (try rw [show 0 * 25 = 0 from rfl] at hx109_3)
            (try rw [Addr.add_zero'] at hx109_3)
            (try rw [show ((0 : Int)).toNat = 0 from rfl] at hx109_4)
            (try rw [show 0 * 25 = 0 from rfl] at hx109_4)
            (try rw [Addr.add_zero'] at hx109_4)
            (try rw [show ((0 : Int)).toNat = 0 from rfl] at hx109_5)
            (try rw [show 0 * 25 = 0 from rfl] at hx109_5)
            (try rw [Addr.add_zero'] at hx109_5)
            (try rw [show ((0 : Int)).toNat = 0 from rfl] at hx109_6)
            (try rw [show 0 * 25 = 0 from rfl] at hx109_6)
            (try rw [Addr.add_zero'] at hx109_6)
            (try rw [show ((0 : Int)).toNat = 0 from rfl] at hx109_7)
            (try rw [show 0 * 25 = 0 from rfl] at hx109_7)
            (try rw [Addr.add_zero'] at hx109_7)
            (try rw [show ((0 : Int)).toNat = 0 from rfl] at hx109_8)
            (try rw [show 0 * 25 = 0 from rfl] at hx109_8)
            (try rw [Addr.add_zero'] at hx109_8)
            (try rw [show ((0 : Int)).toNat = 0 from rfl] at hx109_9)
            (try rw [show 0 * 25 = 0 from rfl] at hx109_9)
            (try rw [Addr.add_zero'] at hx109_9)
            (try rw [show ((0 : Int)).toNat = 0 from rfl] at hx109_10)
            (try rw [show 0 * 25 = 0 from rfl] at hx109_10)
            (try rw [Addr.add_zero'] at hx109_10)
            (try rw [show ((0 : Int)).toNat = 0 from rfl] at hx109_11)
            (try rw [show 0 * 25 = 0 from rfl] at hx109_11)
            (try rw [Addr.add_zero'] at hx109_11)
            (try rw [show ((0 : Int)).toNat = 0 from rfl] at hx109_12)
            (try rw [show 0 * 25 = 0 from rfl] at hx109_12)
            (try rw [Addr.add_zero'] at hx109_12)
            (try rw [show ((0 : Int)).toNat = 0 from rfl] at hx109_13)
            (try rw [show 0 * 25 = 0 from rfl] at hx109_13)
            (try rw [Addr.add_zero'] at hx109_13)
            (try rw [show ((0 : Int)).toNat = 0 from rfl] at hx109_14)
            (try rw [show 0 * 25 = 0 from rfl] at hx109_14)
            (try rw [Addr.add_zero'] at hx109_14)
            (try rw [show ((0 : Int)).toNat = 0 from rfl] at hx109_15)
            (try rw [show 0 * 25 = 0 from rfl] at hx109_15)
            (try rw [Addr.add_zero'] at hx109_15)
            (try rw [show ((0 : Int)).toNat = 0 from rfl] at hx109_16)
            (try rw [show 0 * 25 = 0 from rfl] at hx109_16)
            (try rw [Addr.add_zero'] at hx109_16)
            (try rw [show ((0 : Int)).toNat = 0 from rfl] at hx109_17)
            (try rw [show 0 * 25 = 0 from rfl] at hx109_17)
            (try rw [Addr.add_zero'] at hx109_17)
            (try rw [show ((0 : Int)).toNat = 0 from rfl] at hx109_18)
            (try rw [show 0 * 25 = 0 from rfl] at hx109_18)
            (try rw [Addr.add_zero'] at hx109_18)
            (try rw [show ((0 : Int)).toNat = 0 from rfl] at hx109_19)
            (try rw [show 0 * 25 = 0 from rfl] at hx109_19)
            (try rw [Addr.add_zero'] at hx109_19)
            (try rw [show ((0 : Int)).toNat = 0 from rfl] at hx109_20)
            (try rw [show 0 * 25 = 0 from rfl] at hx109_20)
            (try rw [Addr.add_zero'] at hx109_20)
            (try rw [show ((0 : Int)).toNat = 0 from rfl] at hx109_21)
            (try rw [show 0 * 25 = 0 from rfl] at hx109_21)
            (try rw [Addr.add_zero'] at hx109_21)
            (try rw [show ((0 : Int)).toNat = 0 from rfl] at hx109_22)
            (try rw [show 0 * 25 = 0 from rfl] at hx109_22)
            (try rw [Addr.add_zero'] at hx109_22)
            (try rw [show ((0 : Int)).toNat = 0 from rfl] at hx109_23)
            (try rw [show 0 * 25 = 0 from rfl] at hx109_23)
            (try rw [Addr.add_zero'] at hx109_23)
            (try rw [show ((0 : Int)).toNat = 0 from rfl] at hx109_24)
            (try rw [show 0 * 25 = 0 from rfl] at hx109_24)
            (try rw [Addr.add_zero'] at hx109_24)
            replace hx109_0 := Sq.up HB.out hx109_0
            replace hx109_1 := Sq.up HB.out hx109_1
            replace hx109_2 := Sq.up HB.out hx109_2
            replace hx109_3 := Sq.up HB.out hx109_3
            replace hx109_4 := Sq.up HB.out hx109_4
            replace hx109_5 := Sq.up HB.out hx109_5
            replace hx109_6 := Sq.up HB.out hx109_6
            replace hx109_7 := Sq.up HB.out hx109_7
            replace hx109_8 := Sq.up HB.out hx109_8
            replace hx109_9 := Sq.up HB.out hx109_9
            replace hx109_10 := Sq.up HB.out hx109_10
            replace hx109_11 := Sq.up HB.out hx109_11
            replace hx109_12 := Sq.up HB.out hx109_12
            replace hx109_13 := Sq.up HB.out hx109_13
            replace hx109_14 := Sq.up HB.out hx109_14
            replace hx109_15 := Sq.up HB.out hx109_15
            replace hx109_16 := Sq.up HB.out hx109_16
            replace hx109_17 := Sq.up HB.out hx109_17
            replace hx109_18 := Sq.up HB.out hx109_18
            replace hx109_19 := Sq.up HB.out hx109_19
            replace hx109_20 := Sq.up HB.out hx109_20
            replace hx109_21 := Sq.up HB.out hx109_21
            replace hx109_22 := Sq.up HB.out hx109_22
            replace hx109_23 := Sq.up HB.out hx109_23
            replace hx109_24 := Sq.up HB.out hx109_24
            have fH := Aside0.mk hi109_21
            have en := Aside0.mk hl109_21
            clear hi109_21 hl109_21
            have fI := Aside0.mk hi109_24
            have eo := Aside0.mk hl109_24
            clear hi109_24 hl109_24
            replace p109 := eq_true p109
            replace q109 := eq_true q109
            go_wp2_with (first | ((with_reducible refine Pre.gate_load 25 rfl ?_); (try (refine gate_guard Z14 ?_; dsimp only)); refine Pre.load_event_a rfl rfl rfl Z14 Pre.range25 Try.underlying25 rfl Z11 ?_) | ((with_reducible refine gate_callee (f := 26) rfl ?_); refine goesL_ (some 49) rfl rfl Try.func26 Z11 rfl #[.agg #[.int .i64 ((rd_T25 l0 0).f0), .int .i64 ((rd_T25 l0 0).f1), .int .i64 ((rd_T25 l0 0).f2), .string ((rd_T25 l0 0).f3), .int .i64 ((rd_T25 l0 0).f4), .int .i64 ((rd_T25 l0 0).f5), .string ((rd_T25 l0 0).f6), .int .i64 ((rd_T25 l0 0).f7), .int .i64 ((rd_T25 l0 0).f8), .string ((rd_T25 l0 0).f9), .int .i64 ((rd_T25 l0 0).f10), .string ((rd_T25 l0 0).f11), .int .i64 ((rd_T25 l0 0).f12), .int .i64 ((rd_T25 l0 0).f13), .int .i64 ((rd_T25 l0 0).f14), .int .i64 ((rd_T25 l0 0).f15), .int .i64 ((rd_T25 l0 0).f16), .int .i64 ((rd_T25 l0 0).f17), .int .i64 ((rd_T25 l0 0).f18), .string ((rd_T25 l0 0).f19), .string ((rd_T25 l0 0).f20), .slice eZ ((rd_T25 l0 0).f21).length fa, .int .i64 ((rd_T25 l0 0).f22), .string ((rd_T25 l0 0).f23), .slice fb ((rd_T25 l0 0).f24).length fc]] rfl Z4 ?_; (with_reducible refine (rerr_Put.calls kj12 ((rd_T25 l0 0).f0) ((rd_T25 l0 0).f1) ((rd_T25 l0 0).f2) ((rd_T25 l0 0).f3) ((rd_T25 l0 0).f4) ((rd_T25 l0 0).f5) ((rd_T25 l0 0).f6) ((rd_T25 l0 0).f7) ((rd_T25 l0 0).f8) ((rd_T25 l0 0).f9) ((rd_T25 l0 0).f10) ((rd_T25 l0 0).f11) ((rd_T25 l0 0).f12) ((rd_T25 l0 0).f13) ((rd_T25 l0 0).f14) ((rd_T25 l0 0).f15) ((rd_T25 l0 0).f16) ((rd_T25 l0 0).f17) ((rd_T25 l0 0).f18) ((rd_T25 l0 0).f19) ((rd_T25 l0 0).f20) _ _ ((rd_T25 l0 0).f21) ((rd_T25 l0 0).f22) ((rd_T25 l0 0).f23) _ _ ((rd_T25 l0 0).f24) ba cP _ ?side1 ?side2 ?side3 ?side4 dR.out).mono ?_); (case side1 => exact Z34); (case side2 => exact en.out); (case side3 => exact Z33); (case side4 => exact eo.out); rintro e gW ⟨rfl, hb⟩; refine ⟨_, rfl, ?_⟩; replace HB := Aside0.mk (below_step Z2 hb); clear hb))
            go_ret3
            exact ⟨Z6, Z2⟩
           ·rw [if_neg hl] at H
            have jF : decide (65535 < (ba.size : Int)) = false := decide_eq_false hl
            have mZ : decide (65535 < ba.size) = false := decide_eq_false Z29
            clear hl
            simp only [Option.some.injEq, Prod.mk.injEq] at H
            obtain ⟨rfl, rfl, rfl⟩ := H
            have p109 : 0 ≤ (0 : Int) := Z29
            have q109 : 0 < (l0.length : Int) := of_decide_eq_true Z8
            obtain ⟨ad109, eZ, fa, fb, fc, e109, hx109_0, hx109_1, hx109_2, hx109_3, hx109_4, hx109_5, hx109_6, hx109_7, hx109_8, hx109_9, hx109_10, hx109_11, hx109_12, hx109_13, hx109_14, hx109_15, hx109_16, hx109_17, hx109_18, hx109_19, hx109_20, hx109_21, hx109_22, hx109_23, hx109_24, hl109_21, hi109_21, hl109_24, hi109_24⟩ := at_T25 dS.out 0 p109 q109
            obtain rfl : ad103 = ad109 := (by injection e109)
            have qi109 : (0 < l0.length) = True := eq_true Z29
            (try rw [show ((0 : Int)).toNat = 0 from rfl] at hx109_0)
            (try rw [show 0 * 25 = 0 from rfl] at hx109_0)
            (try rw [Addr.add_zero'] at hx109_0)
            (try rw [show ((0 : Int)).toNat = 0 from rfl] at hx109_1)
            (try rw [show 0 * 25 = 0 from rfl] at hx109_1)
            (try rw [Addr.add_zero'] at hx109_1)
            (try rw [show ((0 : Int)).toNat = 0 from rfl] at hx109_2)
            (try rw [show 0 * 25 = 0 from rfl] at hx109_2)
            (try rw [Addr.add_zero'] at hx109_2)
            (try rw [show ((0 : Int)).toNat = 0 from rfl] at hx109_3)
            (try rw [show 0 * 25 = 0 from rfl] at hx109_3)
            (try rw [Addr.add_zero'] at hx109_3)
            (try rw [show ((0 : Int)).toNat = 0 from rfl] at hx109_4)
            (try rw [show 0 * 25 = 0 from rfl] at hx109_4)
            (try rw [Addr.add_zero'] at hx109_4)
            (try rw [show ((0 : Int)).toNat = 0 from rfl] at hx109_5)
            (try rw [show 0 * 25 = 0 from rfl] at hx109_5)
            (try rw [Addr.add_zero'] at hx109_5)
            (try rw [show ((0 : Int)).toNat = 0 from rfl] at hx109_6)
            (try rw [show 0 * 25 = 0 from rfl] at hx109_6)
            (try rw [Addr.add_zero'] at hx109_6)
            (try rw [show ((0 : Int)).toNat = 0 from rfl] at hx109_7)
            (try rw [show 0 * 25 = 0 from rfl] at hx109_7)
            (try rw [Addr.add_zero'] at hx109_7)
            (try rw [show ((0 : Int)).toNat = 0 from rfl] at hx109_8)
            (try rw [show 0 * 25 = 0 from rfl] at hx109_8)
            (try rw [Addr.add_zero'] at hx109_8)
            (try rw [show ((0 : Int)).toNat = 0 from rfl] at hx109_9)
            (try rw [show 0 * 25 = 0 from rfl] at hx109_9)
            (try rw [Addr.add_zero'] at hx109_9)
            (try rw [show ((0 : Int)).toNat = 0 from rfl] at hx109_10)
            (try rw [show 0 * 25 = 0 from rfl] at hx109_10)
            (try rw [Addr.add_zero'] at hx109_10)
            (try rw [show ((0 : Int)).toNat = 0 from rfl] at hx109_11)
            (try rw [show 0 * 25 = 0 from rfl] at hx109_11)
            (try rw [Addr.add_zero'] at hx109_11)
            (try rw [show ((0 : Int)).toNat = 0 from rfl] at hx109_12)
            (try rw [show 0 * 25 = 0 from rfl] at hx109_12)
            (try rw [Addr.add_zero'] at hx109_12)
            (try rw [show ((0 : Int)).toNat = 0 from rfl] at hx109_13)
            (try rw [show 0 * 25 = 0 from rfl] at hx109_13)
            (try rw [Addr.add_zero'] at hx109_13)
            (try rw [show ((0 : Int)).toNat = 0 from rfl] at hx109_14)
            (try rw [show 0 * 25 = 0 from rfl] at hx109_14)
            (try rw [Addr.add_zero'] at hx109_14)
            (try rw [show ((0 : Int)).toNat = 0 from rfl] at hx109_15)
            (try rw [show 0 * 25 = 0 from rfl] at hx109_15)
            (try rw [Addr.add_zero'] at hx109_15)
            (try rw [show ((0 : Int)).toNat = 0 from rfl] at hx109_16)
            (try rw [show 0 * 25 = 0 from rfl] at hx109_16)
            (try rw [Addr.add_zero'] at hx109_16)
            (try rw [show ((0 : Int)).toNat = 0 from rfl] at hx109_17)
            (try rw [show 0 * 25 = 0 from rfl] at hx109_17)
            (try rw [Addr.add_zero'] at hx109_17)
            (try rw [show ((0 : Int)).toNat = 0 from rfl] at hx109_18)
            (try rw [show 0 * 25 = 0 from rfl] at hx109_18)
            (try rw [Addr.add_zero'] at hx109_18)
            (try rw [show ((0 : Int)).toNat = 0 from rfl] at hx109_19)
            (try rw [show 0 * 25 = 0 from rfl] at hx109_19)
            (try rw [Addr.add_zero'] at hx109_19)
            (try rw [show ((0 : Int)).toNat = 0 from rfl] at hx109_20)
            (try rw [show 0 * 25 = 0 from rfl] at hx109_20)
            (try rw [Addr.add_zero'] at hx109_20)
            (try rw [show ((0 : Int)).toNat = 0 from rfl] at hx109_21)
            (try rw [show 0 * 25 = 0 from rfl] at hx109_21)
            (try rw [Addr.add_zero'] at hx109_21)
            (try rw [show ((0 : Int)).toNat = 0 from rfl] at hx109_22)
            (try rw [show 0 * 25 = 0 from rfl] at hx109_22)
            (try rw [Addr.add_zero'] at hx109_22)
            (try rw [show ((0 : Int)).toNat = 0 from rfl] at hx109_23)
            (try rw [show 0 * 25 = 0 from rfl] at hx109_23)
            (try rw [Addr.add_zero'] at hx109_23)
            (try rw [show ((0 : Int)).toNat = 0 from rfl] at hx109_24)
            (try rw [show 0 * 25 = 0 from rfl] at hx109_24)
            (try rw [Addr.add_zero'] at hx109_24)
            replace hx109_0 := Sq.up HB.out hx109_0
            replace hx109_1 := Sq.up HB.out hx109_1
            replace hx109_2 := Sq.up HB.out hx109_2
            replace hx109_3 := Sq.up HB.out hx109_3
            replace hx109_4 := Sq.up HB.out hx109_4
            replace hx109_5 := Sq.up HB.out hx109_5
            replace hx109_6 := Sq.up HB.out hx109_6
            replace hx109_7 := Sq.up HB.out hx109_7
            replace hx109_8 := Sq.up HB.out hx109_8
            replace hx109_9 := Sq.up HB.out hx109_9
            replace hx109_10 := Sq.up HB.out hx109_10
            replace hx109_11 := Sq.up HB.out hx109_11
            replace hx109_12 := Sq.up HB.out hx109_12
            replace hx109_13 := Sq.up HB.out hx109_13
            replace hx109_14 := Sq.up HB.out hx109_14
            replace hx109_15 := Sq.up HB.out hx109_15
            replace hx109_16 := Sq.up HB.out hx109_16
            replace hx109_17 := Sq.up HB.out hx109_17
            replace hx109_18 := Sq.up HB.out hx109_18
            replace hx109_19 := Sq.up HB.out hx109_19
            replace hx109_20 := Sq.up HB.out hx109_20
            replace hx109_21 := Sq.up HB.out hx109_21
            replace hx109_22 := Sq.up HB.out hx109_22
            replace hx109_23 := Sq.up HB.out hx109_23
            replace hx109_24 := Sq.up HB.out hx109_24
            have fH := Aside0.mk hi109_21
            have en := Aside0.mk hl109_21
            clear hi109_21 hl109_21
            have fI := Aside0.mk hi109_24
            have eo := Aside0.mk hl109_24
            clear hi109_24 hl109_24
            replace p109 := eq_true p109
            replace q109 := eq_true q109
            go_wp2_with (first | ((with_reducible refine Pre.gate_load 25 rfl ?_); (try (refine gate_guard Z14 ?_; dsimp only)); refine Pre.load_event_a rfl rfl rfl Z14 Pre.range25 Try.underlying25 rfl Z11 ?_) | ((with_reducible refine gate_callee (f := 26) rfl ?_); refine goesL_ (some 49) rfl rfl Try.func26 Z11 rfl #[.agg #[.int .i64 ((rd_T25 l0 0).f0), .int .i64 ((rd_T25 l0 0).f1), .int .i64 ((rd_T25 l0 0).f2), .string ((rd_T25 l0 0).f3), .int .i64 ((rd_T25 l0 0).f4), .int .i64 ((rd_T25 l0 0).f5), .string ((rd_T25 l0 0).f6), .int .i64 ((rd_T25 l0 0).f7), .int .i64 ((rd_T25 l0 0).f8), .string ((rd_T25 l0 0).f9), .int .i64 ((rd_T25 l0 0).f10), .string ((rd_T25 l0 0).f11), .int .i64 ((rd_T25 l0 0).f12), .int .i64 ((rd_T25 l0 0).f13), .int .i64 ((rd_T25 l0 0).f14), .int .i64 ((rd_T25 l0 0).f15), .int .i64 ((rd_T25 l0 0).f16), .int .i64 ((rd_T25 l0 0).f17), .int .i64 ((rd_T25 l0 0).f18), .string ((rd_T25 l0 0).f19), .string ((rd_T25 l0 0).f20), .slice eZ ((rd_T25 l0 0).f21).length fa, .int .i64 ((rd_T25 l0 0).f22), .string ((rd_T25 l0 0).f23), .slice fb ((rd_T25 l0 0).f24).length fc]] rfl Z4 ?_; (with_reducible refine (rerr_Put.calls kj12 ((rd_T25 l0 0).f0) ((rd_T25 l0 0).f1) ((rd_T25 l0 0).f2) ((rd_T25 l0 0).f3) ((rd_T25 l0 0).f4) ((rd_T25 l0 0).f5) ((rd_T25 l0 0).f6) ((rd_T25 l0 0).f7) ((rd_T25 l0 0).f8) ((rd_T25 l0 0).f9) ((rd_T25 l0 0).f10) ((rd_T25 l0 0).f11) ((rd_T25 l0 0).f12) ((rd_T25 l0 0).f13) ((rd_T25 l0 0).f14) ((rd_T25 l0 0).f15) ((rd_T25 l0 0).f16) ((rd_T25 l0 0).f17) ((rd_T25 l0 0).f18) ((rd_T25 l0 0).f19) ((rd_T25 l0 0).f20) _ _ ((rd_T25 l0 0).f21) ((rd_T25 l0 0).f22) ((rd_T25 l0 0).f23) _ _ ((rd_T25 l0 0).f24) ba cP _ ?side1 ?side2 ?side3 ?side4 dR.out).mono ?_); (case side1 => exact Z34); (case side2 => exact en.out); (case side3 => exact Z33); (case side4 => exact eo.out); rintro e gJ ⟨rfl, hb⟩; refine ⟨_, rfl, ?_⟩; replace HB := Aside0.mk (below_step Z2 hb); clear hb))
            go_ret3
            exact ⟨Z6, Z2⟩
          ·rw [if_neg gZ] at H
           exact absurd H Z35
      ·rw [if_neg dC] at H
       exact absurd H Z35

end Go.Proofs.Ytccjakjjaemmkaa.PAE
