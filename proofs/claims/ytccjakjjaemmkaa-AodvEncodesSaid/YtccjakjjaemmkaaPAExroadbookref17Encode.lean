-- Written by mp.py, a program of this work (wip/tools), out of the translation; Lean checks it.
import Derived.Test.YtccjakjjaemmkaaPAExZ
import Derived.Test.YtccjakjjaemmkaaPAExroadbookref14
import Derived.Test.YtccjakjjaemmkaaPAExroadbookref14Put
import Derived.Test.YtccjakjjaemmkaaPAExroadbookref15Put
import Derived.Test.YtccjakjjaemmkaaLoad
namespace Go.Proofs.Ytccjakjjaemmkaa.PAE
open Go.RowKit Go.Proofs.YtccjakjjaemmkaaW.PrintWords Go.Proofs.YtccjakjjaemmkaaW.PrintLast Go.Proofs.YtccjakjjaemmkaaW.PrintMore
attribute [local go_sem] max2_int min2_int max_two min_two max_three min_three max_four min_four   -- for this text's walks alone
set_option linter.unusedVariables false
set_option linter.unusedSimpArgs false

/-! ### roadbookref17_Encode: function 48 -/
mutual
def roadbookref17_Encode.l0 : Nat → List (S25) → Int → Option (ByteArray × Int × Int)
 | 0, _, _ => none
 | k + 1, x0, x5 => if x5 < (x0.length : Int) then (if 0 ≤ x5 then ((roadbookref17_Right.f k ((rd_T25 x0 x5).f0) ((rd_T25 x0 x5).f1) ((rd_T25 x0 x5).f2) ((rd_T25 x0 x5).f3) ((rd_T25 x0 x5).f4) ((rd_T25 x0 x5).f5) ((rd_T25 x0 x5).f6) ((rd_T25 x0 x5).f7) ((rd_T25 x0 x5).f8) ((rd_T25 x0 x5).f9) ((rd_T25 x0 x5).f10) ((rd_T25 x0 x5).f11) ((rd_T25 x0 x5).f12) ((rd_T25 x0 x5).f13) ((rd_T25 x0 x5).f14) ((rd_T25 x0 x5).f15) ((rd_T25 x0 x5).f16) ((rd_T25 x0 x5).f17) ((rd_T25 x0 x5).f18) ((rd_T25 x0 x5).f19) ((rd_T25 x0 x5).f20) ((rd_T25 x0 x5).f21) ((rd_T25 x0 x5).f22) ((rd_T25 x0 x5).f23) ((rd_T25 x0 x5).f24)).bind fun aU => (if aU = true then (roadbookref17_Encode.l0 k x0 (wrap64 (x5 + 1))) else (some ((⟨#[]⟩ : ByteArray), x5, 1)))) else (none)) else (if (x0.length : Int) = 0 then (some ((⟨#[]⟩ : ByteArray), 0, 8)) else (if (x0.length : Int) > 1 then (some ((⟨#[]⟩ : ByteArray), 1, 8)) else (if 0 < (x0.length : Int) then ((roadbookref14_Put.f k ((rd_T25 x0 0).f0) ((rd_T25 x0 0).f1) ((rd_T25 x0 0).f2) ((rd_T25 x0 0).f3) ((rd_T25 x0 0).f4) ((rd_T25 x0 0).f5) ((rd_T25 x0 0).f6) ((rd_T25 x0 0).f7) ((rd_T25 x0 0).f8) ((rd_T25 x0 0).f9) ((rd_T25 x0 0).f10) ((rd_T25 x0 0).f11) ((rd_T25 x0 0).f12) ((rd_T25 x0 0).f13) ((rd_T25 x0 0).f14) ((rd_T25 x0 0).f15) ((rd_T25 x0 0).f16) ((rd_T25 x0 0).f17) ((rd_T25 x0 0).f18) ((rd_T25 x0 0).f19) ((rd_T25 x0 0).f20) ((rd_T25 x0 0).f21) ((rd_T25 x0 0).f22) ((rd_T25 x0 0).f23) ((rd_T25 x0 0).f24)).bind fun gi => (if gi.2 = true then (roadbookref17_Encode.j1 k x0 gi.1 gi.2) else ((roadbookref15_Put.f k ((rd_T25 x0 0).f0) ((rd_T25 x0 0).f1) ((rd_T25 x0 0).f2) ((rd_T25 x0 0).f3) ((rd_T25 x0 0).f4) ((rd_T25 x0 0).f5) ((rd_T25 x0 0).f6) ((rd_T25 x0 0).f7) ((rd_T25 x0 0).f8) ((rd_T25 x0 0).f9) ((rd_T25 x0 0).f10) ((rd_T25 x0 0).f11) ((rd_T25 x0 0).f12) ((rd_T25 x0 0).f13) ((rd_T25 x0 0).f14) ((rd_T25 x0 0).f15) ((rd_T25 x0 0).f16) ((rd_T25 x0 0).f17) ((rd_T25 x0 0).f18) ((rd_T25 x0 0).f19) ((rd_T25 x0 0).f20) ((rd_T25 x0 0).f21) ((rd_T25 x0 0).f22) ((rd_T25 x0 0).f23) ((rd_T25 x0 0).f24)).bind fun ca => (roadbookref17_Encode.j1 k x0 ca.1 ca.2)))) else (none))))
def roadbookref17_Encode.j1 : Nat → List (S25) → ByteArray → Bool → Option (ByteArray × Int × Int)
 | 0, _, _, _ => none
 | k + 1, x0, x6, x7 => if x7 = true then (if (x6.size : Int) > 65535 then (some ((⟨#[]⟩ : ByteArray), 0, 10)) else (some (x6, 0, 0))) else (if 0 < (x0.length : Int) then ((roadbookref16_Put.f k ((rd_T25 x0 0).f0) ((rd_T25 x0 0).f1) ((rd_T25 x0 0).f2) ((rd_T25 x0 0).f3) ((rd_T25 x0 0).f4) ((rd_T25 x0 0).f5) ((rd_T25 x0 0).f6) ((rd_T25 x0 0).f7) ((rd_T25 x0 0).f8) ((rd_T25 x0 0).f9) ((rd_T25 x0 0).f10) ((rd_T25 x0 0).f11) ((rd_T25 x0 0).f12) ((rd_T25 x0 0).f13) ((rd_T25 x0 0).f14) ((rd_T25 x0 0).f15) ((rd_T25 x0 0).f16) ((rd_T25 x0 0).f17) ((rd_T25 x0 0).f18) ((rd_T25 x0 0).f19) ((rd_T25 x0 0).f20) ((rd_T25 x0 0).f21) ((rd_T25 x0 0).f22) ((rd_T25 x0 0).f23) ((rd_T25 x0 0).f24)).bind fun dF => (if (dF.1.size : Int) > 65535 then (some ((⟨#[]⟩ : ByteArray), 0, 10)) else (some (dF.1, 0, 0)))) else (none))
end
def roadbookref17_Encode.f (k : Nat) (l0 : List (S25)) : Option (ByteArray × Int × Int) := roadbookref17_Encode.l0 k l0 0
theorem roadbookref17_Encode.mono_l : ∀ k, (∀ y0 y1, LeO (roadbookref17_Encode.l0 k y0 y1) (roadbookref17_Encode.l0 (k + 1) y0 y1)) ∧ (∀ y0 y1 y2, LeO (roadbookref17_Encode.j1 k y0 y1 y2) (roadbookref17_Encode.j1 (k + 1) y0 y1 y2))
 | 0 => ⟨Sq.mz, Sq.mz⟩
 | k + 1 => by
  obtain ⟨ih0, ih1⟩ := roadbookref17_Encode.mono_l k
  refine ⟨?_, ?_⟩
  ·intros
   unfold roadbookref17_Encode.l0
   have m0 := roadbookref14_Put.mono
   have m1 := roadbookref15_Put.mono
   have m2 := roadbookref16_Put.mono
   have m3 := roadbookref17_Right.mono
   exact Sq.mo
  ·intros
   unfold roadbookref17_Encode.j1
   have m0 := roadbookref14_Put.mono
   have m1 := roadbookref15_Put.mono
   have m2 := roadbookref16_Put.mono
   have m3 := roadbookref17_Right.mono
   exact Sq.mo
theorem roadbookref17_Encode.mono : ∀ a0 k, LeO (roadbookref17_Encode.f k a0) (roadbookref17_Encode.f (k + 1) a0) := by
 intro a0 k
 obtain ⟨ih0, ih1⟩ := roadbookref17_Encode.mono_l k
 unfold roadbookref17_Encode.f
 have m0 := roadbookref14_Put.mono
 have m1 := roadbookref15_Put.mono
 have m2 := roadbookref16_Put.mono
 have m3 := roadbookref17_Right.mono
 exact Sq.mo

set_option maxHeartbeats 8000000 in
set_option maxRecDepth 100000 in
theorem roadbookref17_Encode.calls (k : Nat) (A0 : Option Addr) (c0 : Nat) (l0 : List (S25)) (r1 : ByteArray) (r2 : Int) (r3 : Int) (w : World) (ff : Kd.C k25 w A0 l0.length l0) (eH : l0.length ≤ c0) (h : roadbookref17_Encode.f k l0 = some (r1, r2, r3)) :
  Calls Try.prog 48 #[.slice A0 l0.length c0] w fun e w' => e = .returned (.tuple #[.string r1, .int .i64 r2, .int .i64 r3]) ∧ Below w.heap.size w w' := by
 have dM := Try.underlying25
 have dS := Aside0.mk ff
 have gj := Aside0.mk eH
 clear ff eH
 have HB := Aside0.mk (Below.refl w.heap.size w)
 have H : (roadbookref17_Encode.l0 k l0 0) = some (r1, r2, r3) := h
 clear h
 have H' := Aside0.mk H
 clear H
 go_enter Try.func48, Try.ntmps48
 go_wp2_with (first | ((with_reducible refine Pre.gate_load 25 rfl ?_); (try (refine gate_guard Z14 ?_; dsimp only)); refine Pre.load_event_a rfl rfl rfl Z14 Pre.range25 Try.underlying25 rfl Z11 ?_))
 go_loopg [5] k (fun kq v5 w' => ∃ (aG : Int), v5 = .int .i64 aG ∧ Aside0 (roadbookref17_Encode.l0 kq l0 aG = some (r1, r2, r3)) ∧ Aside0 (kq ≤ k) ∧ Aside0 (Below w.heap.size w w'))
 case atStart => exact ⟨(0), Z10, H', ⟨Nat.le_refl _⟩, ⟨Z2⟩⟩
 case round =>
  clear H'
  obtain ⟨aG, rfl, HA, HK1, HB⟩ := hrel
  cases gk with
  | zero => exact absurd HA.out (by simp [roadbookref17_Encode.l0])
  | succ k1 =>
   have H := HA.out
   clear HA
   simp only [roadbookref17_Encode.l0] at H
   by_cases c2 : aG < (l0.length : Int)
   ·rw [if_pos c2] at H
    have fR : decide (aG < (l0.length : Int)) = true := decide_eq_true c2
    clear c2
    by_cases c3 : 0 ≤ aG
    ·rw [if_pos c3] at H
     have fh : decide (0 ≤ aG) = true := decide_eq_true c3
     clear c3
     replace H := Option.bind_eq_some_iff.mp H
     obtain ⟨aU, gl, H⟩ := H
     replace H : (if aU = true then (roadbookref17_Encode.l0 k1 l0 (wrap64 (aG + 1))) else (some ((⟨#[]⟩ : ByteArray), aG, 1))) = some (r1, r2, r3) := H
     have A4 := Aside0.mk gl
     clear gl
     by_cases c5 : aU = true
     ·subst c5
      have H1 : (roadbookref17_Encode.l0 k1 l0 (wrap64 (aG + 1))) = some (r1, r2, r3) := by rw [if_pos rfl] at H; exact H
      clear H
      have H := H1
      clear H1
      have H' := Aside0.mk H
      clear H
      have p101 : 0 ≤ (aG : Int) := of_decide_eq_true Z8
      have q101 : aG < (l0.length : Int) := of_decide_eq_true Z8
      obtain ⟨ad101, dG, dH, dI, dJ, e101, hx101_0, hx101_1, hx101_2, hx101_3, hx101_4, hx101_5, hx101_6, hx101_7, hx101_8, hx101_9, hx101_10, hx101_11, hx101_12, hx101_13, hx101_14, hx101_15, hx101_16, hx101_17, hx101_18, hx101_19, hx101_20, hx101_21, hx101_22, hx101_23, hx101_24, hl101_21, hi101_21, hl101_24, hi101_24⟩ := at_T25 dS.out aG p101 q101
      cases e101
      replace hx101_0 := Sq.up HB.out hx101_0
      replace hx101_1 := Sq.up HB.out hx101_1
      replace hx101_2 := Sq.up HB.out hx101_2
      replace hx101_3 := Sq.up HB.out hx101_3
      replace hx101_4 := Sq.up HB.out hx101_4
      replace hx101_5 := Sq.up HB.out hx101_5
      replace hx101_6 := Sq.up HB.out hx101_6
      replace hx101_7 := Sq.up HB.out hx101_7
      replace hx101_8 := Sq.up HB.out hx101_8
      replace hx101_9 := Sq.up HB.out hx101_9
      replace hx101_10 := Sq.up HB.out hx101_10
      replace hx101_11 := Sq.up HB.out hx101_11
      replace hx101_12 := Sq.up HB.out hx101_12
      replace hx101_13 := Sq.up HB.out hx101_13
      replace hx101_14 := Sq.up HB.out hx101_14
      replace hx101_15 := Sq.up HB.out hx101_15
      replace hx101_16 := Sq.up HB.out hx101_16
      replace hx101_17 := Sq.up HB.out hx101_17
      replace hx101_18 := Sq.up HB.out hx101_18
      replace hx101_19 := Sq.up HB.out hx101_19
      replace hx101_20 := Sq.up HB.out hx101_20
      replace hx101_21 := Sq.up HB.out hx101_21
      replace hx101_22 := Sq.up HB.out hx101_22
      replace hx101_23 := Sq.up HB.out hx101_23
      replace hx101_24 := Sq.up HB.out hx101_24
      have eQ := Aside0.mk hi101_21
      have de := Aside0.mk hl101_21
      clear hi101_21 hl101_21
      have eR := Aside0.mk hi101_24
      have df := Aside0.mk hl101_24
      clear hi101_24 hl101_24
      replace p101 := eq_true p101
      replace q101 := eq_true q101
      go_wp2_with (first | ((with_reducible refine Pre.gate_load 25 rfl ?_); (try (refine gate_guard Z14 ?_; dsimp only)); refine Pre.load_event_a rfl rfl rfl Z14 Pre.range25 Try.underlying25 rfl Z11 ?_) | ((with_reducible refine gate_callee (f := 46) rfl ?_); refine goesL_ (some 18) rfl rfl Try.func46 Z11 rfl #[.agg #[.int .i64 ((rd_T25 l0 aG).f0), .int .i64 ((rd_T25 l0 aG).f1), .int .i64 ((rd_T25 l0 aG).f2), .string ((rd_T25 l0 aG).f3), .int .i64 ((rd_T25 l0 aG).f4), .int .i64 ((rd_T25 l0 aG).f5), .string ((rd_T25 l0 aG).f6), .int .i64 ((rd_T25 l0 aG).f7), .int .i64 ((rd_T25 l0 aG).f8), .string ((rd_T25 l0 aG).f9), .int .i64 ((rd_T25 l0 aG).f10), .string ((rd_T25 l0 aG).f11), .int .i64 ((rd_T25 l0 aG).f12), .int .i64 ((rd_T25 l0 aG).f13), .int .i64 ((rd_T25 l0 aG).f14), .int .i64 ((rd_T25 l0 aG).f15), .int .i64 ((rd_T25 l0 aG).f16), .int .i64 ((rd_T25 l0 aG).f17), .int .i64 ((rd_T25 l0 aG).f18), .string ((rd_T25 l0 aG).f19), .string ((rd_T25 l0 aG).f20), .slice dG ((rd_T25 l0 aG).f21).length dH, .int .i64 ((rd_T25 l0 aG).f22), .string ((rd_T25 l0 aG).f23), .slice dI ((rd_T25 l0 aG).f24).length dJ]] rfl Z4 ?_; (with_reducible refine (roadbookref17_Right.calls k1 ((rd_T25 l0 aG).f0) ((rd_T25 l0 aG).f1) ((rd_T25 l0 aG).f2) ((rd_T25 l0 aG).f3) ((rd_T25 l0 aG).f4) ((rd_T25 l0 aG).f5) ((rd_T25 l0 aG).f6) ((rd_T25 l0 aG).f7) ((rd_T25 l0 aG).f8) ((rd_T25 l0 aG).f9) ((rd_T25 l0 aG).f10) ((rd_T25 l0 aG).f11) ((rd_T25 l0 aG).f12) ((rd_T25 l0 aG).f13) ((rd_T25 l0 aG).f14) ((rd_T25 l0 aG).f15) ((rd_T25 l0 aG).f16) ((rd_T25 l0 aG).f17) ((rd_T25 l0 aG).f18) ((rd_T25 l0 aG).f19) ((rd_T25 l0 aG).f20) _ _ ((rd_T25 l0 aG).f21) ((rd_T25 l0 aG).f22) ((rd_T25 l0 aG).f23) _ _ ((rd_T25 l0 aG).f24) true _ ?side1 ?side2 ?side3 ?side4 A4.out).mono ?_); (case side1 => exact Z27); (case side2 => exact de.out); (case side3 => exact Z26); (case side4 => exact df.out); rintro e w6 ⟨rfl, hb⟩; refine ⟨_, rfl, ?_⟩; replace HB := Aside0.mk (below_step Z2 hb); clear hb))
      go_roundg k1
      case measure => have := HK1.out; omega
      case rel => exact ⟨(wrap64 (aG + 1)), Z10, H', ⟨Z49⟩, ⟨Z2⟩⟩
     ·replace c5 := Bool.eq_false_iff.mpr c5
      subst c5
      have H1 : (some ((⟨#[]⟩ : ByteArray), aG, 1)) = some (r1, r2, r3) := by rw [if_neg (show ¬ (false = true) by decide)] at H; exact H
      clear H
      have H := H1
      clear H1
      simp only [Option.some.injEq, Prod.mk.injEq] at H
      obtain ⟨rfl, rfl, rfl⟩ := H
      have p101 : 0 ≤ (aG : Int) := of_decide_eq_true Z8
      have q101 : aG < (l0.length : Int) := of_decide_eq_true Z8
      obtain ⟨ad101, dG, dH, dI, dJ, e101, hx101_0, hx101_1, hx101_2, hx101_3, hx101_4, hx101_5, hx101_6, hx101_7, hx101_8, hx101_9, hx101_10, hx101_11, hx101_12, hx101_13, hx101_14, hx101_15, hx101_16, hx101_17, hx101_18, hx101_19, hx101_20, hx101_21, hx101_22, hx101_23, hx101_24, hl101_21, hi101_21, hl101_24, hi101_24⟩ := at_T25 dS.out aG p101 q101
      cases e101
      replace hx101_0 := Sq.up HB.out hx101_0
      replace hx101_1 := Sq.up HB.out hx101_1
      replace hx101_2 := Sq.up HB.out hx101_2
      replace hx101_3 := Sq.up HB.out hx101_3
      replace hx101_4 := Sq.up HB.out hx101_4
      replace hx101_5 := Sq.up HB.out hx101_5
      replace hx101_6 := Sq.up HB.out hx101_6
      replace hx101_7 := Sq.up HB.out hx101_7
      replace hx101_8 := Sq.up HB.out hx101_8
      replace hx101_9 := Sq.up HB.out hx101_9
      replace hx101_10 := Sq.up HB.out hx101_10
      replace hx101_11 := Sq.up HB.out hx101_11
      replace hx101_12 := Sq.up HB.out hx101_12
      replace hx101_13 := Sq.up HB.out hx101_13
      replace hx101_14 := Sq.up HB.out hx101_14
      replace hx101_15 := Sq.up HB.out hx101_15
      replace hx101_16 := Sq.up HB.out hx101_16
      replace hx101_17 := Sq.up HB.out hx101_17
      replace hx101_18 := Sq.up HB.out hx101_18
      replace hx101_19 := Sq.up HB.out hx101_19
      replace hx101_20 := Sq.up HB.out hx101_20
      replace hx101_21 := Sq.up HB.out hx101_21
      replace hx101_22 := Sq.up HB.out hx101_22
      replace hx101_23 := Sq.up HB.out hx101_23
      replace hx101_24 := Sq.up HB.out hx101_24
      have eQ := Aside0.mk hi101_21
      have de := Aside0.mk hl101_21
      clear hi101_21 hl101_21
      have eR := Aside0.mk hi101_24
      have df := Aside0.mk hl101_24
      clear hi101_24 hl101_24
      replace p101 := eq_true p101
      replace q101 := eq_true q101
      go_wp2_with (first | ((with_reducible refine Pre.gate_load 25 rfl ?_); (try (refine gate_guard Z14 ?_; dsimp only)); refine Pre.load_event_a rfl rfl rfl Z14 Pre.range25 Try.underlying25 rfl Z11 ?_) | ((with_reducible refine gate_callee (f := 46) rfl ?_); refine goesL_ (some 18) rfl rfl Try.func46 Z11 rfl #[.agg #[.int .i64 ((rd_T25 l0 aG).f0), .int .i64 ((rd_T25 l0 aG).f1), .int .i64 ((rd_T25 l0 aG).f2), .string ((rd_T25 l0 aG).f3), .int .i64 ((rd_T25 l0 aG).f4), .int .i64 ((rd_T25 l0 aG).f5), .string ((rd_T25 l0 aG).f6), .int .i64 ((rd_T25 l0 aG).f7), .int .i64 ((rd_T25 l0 aG).f8), .string ((rd_T25 l0 aG).f9), .int .i64 ((rd_T25 l0 aG).f10), .string ((rd_T25 l0 aG).f11), .int .i64 ((rd_T25 l0 aG).f12), .int .i64 ((rd_T25 l0 aG).f13), .int .i64 ((rd_T25 l0 aG).f14), .int .i64 ((rd_T25 l0 aG).f15), .int .i64 ((rd_T25 l0 aG).f16), .int .i64 ((rd_T25 l0 aG).f17), .int .i64 ((rd_T25 l0 aG).f18), .string ((rd_T25 l0 aG).f19), .string ((rd_T25 l0 aG).f20), .slice dG ((rd_T25 l0 aG).f21).length dH, .int .i64 ((rd_T25 l0 aG).f22), .string ((rd_T25 l0 aG).f23), .slice dI ((rd_T25 l0 aG).f24).length dJ]] rfl Z4 ?_; (with_reducible refine (roadbookref17_Right.calls k1 ((rd_T25 l0 aG).f0) ((rd_T25 l0 aG).f1) ((rd_T25 l0 aG).f2) ((rd_T25 l0 aG).f3) ((rd_T25 l0 aG).f4) ((rd_T25 l0 aG).f5) ((rd_T25 l0 aG).f6) ((rd_T25 l0 aG).f7) ((rd_T25 l0 aG).f8) ((rd_T25 l0 aG).f9) ((rd_T25 l0 aG).f10) ((rd_T25 l0 aG).f11) ((rd_T25 l0 aG).f12) ((rd_T25 l0 aG).f13) ((rd_T25 l0 aG).f14) ((rd_T25 l0 aG).f15) ((rd_T25 l0 aG).f16) ((rd_T25 l0 aG).f17) ((rd_T25 l0 aG).f18) ((rd_T25 l0 aG).f19) ((rd_T25 l0 aG).f20) _ _ ((rd_T25 l0 aG).f21) ((rd_T25 l0 aG).f22) ((rd_T25 l0 aG).f23) _ _ ((rd_T25 l0 aG).f24) false _ ?side1 ?side2 ?side3 ?side4 A4.out).mono ?_); (case side1 => exact Z27); (case side2 => exact de.out); (case side3 => exact Z26); (case side4 => exact df.out); rintro e w7 ⟨rfl, hb⟩; refine ⟨_, rfl, ?_⟩; replace HB := Aside0.mk (below_step Z2 hb); clear hb))
      go_ret3
      exact ⟨Z6, Z2⟩
    ·rw [if_neg c3] at H
     exact absurd H Z35
   ·rw [if_neg c2] at H
    have fR : decide (aG < (l0.length : Int)) = false := decide_eq_false c2
    clear c2
    by_cases c8 : (l0.length : Int) = 0
    ·rw [if_pos c8] at H
     have fS : ((l0.length : Int) == 0) = true := beq_iff_eq.mpr c8
     have gF : ((l0.length : Int) != 0) = false := bne_eq_false_iff_eq.mpr c8
     clear c8
     simp only [Option.some.injEq, Prod.mk.injEq] at H
     obtain ⟨rfl, rfl, rfl⟩ := H
     go_wp2_with (first | ((with_reducible refine Pre.gate_load 25 rfl ?_); (try (refine gate_guard Z14 ?_; dsimp only)); refine Pre.load_event_a rfl rfl rfl Z14 Pre.range25 Try.underlying25 rfl Z11 ?_))
     go_ret3
     exact ⟨Z6, Z2⟩
    ·rw [if_neg c8] at H
     have fS : ((l0.length : Int) == 0) = false := beq_eq_false_iff_ne.mpr c8
     have gF : ((l0.length : Int) != 0) = true := bne_iff_ne.mpr c8
     have jR : ¬ (l0 = []) := fun h_ => c8 (by rw [h_]; rfl)
     by_cases c9 : (l0.length : Int) > 1
     ·rw [if_pos c9] at H
      have ga : decide (1 < (l0.length : Int)) = true := decide_eq_true c9
      have gG : decide (1 < l0.length) = true := decide_eq_true Z29
      clear c9
      simp only [Option.some.injEq, Prod.mk.injEq] at H
      obtain ⟨rfl, rfl, rfl⟩ := H
      go_wp2_with (first | ((with_reducible refine Pre.gate_load 25 rfl ?_); (try (refine gate_guard Z14 ?_; dsimp only)); refine Pre.load_event_a rfl rfl rfl Z14 Pre.range25 Try.underlying25 rfl Z11 ?_))
      go_ret3
      exact ⟨Z6, Z2⟩
     ·rw [if_neg c9] at H
      have ga : decide (1 < (l0.length : Int)) = false := decide_eq_false c9
      have gG : decide (1 < l0.length) = false := decide_eq_false Z29
      clear c9
      by_cases dv : 0 < (l0.length : Int)
      ·rw [if_pos dv] at H
       have eS : decide (0 < (l0.length : Int)) = true := decide_eq_true dv
       have gn : decide (0 < l0.length) = true := decide_eq_true Z29
       clear dv
       replace H := Option.bind_eq_some_iff.mp H
       obtain ⟨⟨bg, bH⟩, gh, H⟩ := H
       replace H : (if bH = true then (roadbookref17_Encode.j1 k1 l0 bg bH) else ((roadbookref15_Put.f k1 ((rd_T25 l0 0).f0) ((rd_T25 l0 0).f1) ((rd_T25 l0 0).f2) ((rd_T25 l0 0).f3) ((rd_T25 l0 0).f4) ((rd_T25 l0 0).f5) ((rd_T25 l0 0).f6) ((rd_T25 l0 0).f7) ((rd_T25 l0 0).f8) ((rd_T25 l0 0).f9) ((rd_T25 l0 0).f10) ((rd_T25 l0 0).f11) ((rd_T25 l0 0).f12) ((rd_T25 l0 0).f13) ((rd_T25 l0 0).f14) ((rd_T25 l0 0).f15) ((rd_T25 l0 0).f16) ((rd_T25 l0 0).f17) ((rd_T25 l0 0).f18) ((rd_T25 l0 0).f19) ((rd_T25 l0 0).f20) ((rd_T25 l0 0).f21) ((rd_T25 l0 0).f22) ((rd_T25 l0 0).f23) ((rd_T25 l0 0).f24)).bind fun ca => (roadbookref17_Encode.j1 k1 l0 ca.1 ca.2))) = some (r1, r2, r3) := H
       have iY := Aside0.mk gh
       clear gh
       have kX := Aside0.mk H
       clear H
       have p103 : 0 ≤ (0 : Int) := Z29
       have q103 : 0 < (l0.length : Int) := of_decide_eq_true Z8
       obtain ⟨ad103, eI, eJ, eK, eL, e103, hx103_0, hx103_1, hx103_2, hx103_3, hx103_4, hx103_5, hx103_6, hx103_7, hx103_8, hx103_9, hx103_10, hx103_11, hx103_12, hx103_13, hx103_14, hx103_15, hx103_16, hx103_17, hx103_18, hx103_19, hx103_20, hx103_21, hx103_22, hx103_23, hx103_24, hl103_21, hi103_21, hl103_24, hi103_24⟩ := at_T25 dS.out 0 p103 q103
       cases e103
       have qi103 : (0 < l0.length) = True := eq_true Z29
       (try rw [show ((0 : Int)).toNat = 0 from rfl] at hx103_0)
       (try rw [show 0 * 25 = 0 from rfl] at hx103_0)
       (try rw [Addr.add_zero'] at hx103_0)
       (try rw [show ((0 : Int)).toNat = 0 from rfl] at hx103_1)
       (try rw [show 0 * 25 = 0 from rfl] at hx103_1)
       (try rw [Addr.add_zero'] at hx103_1)
       (try rw [show ((0 : Int)).toNat = 0 from rfl] at hx103_2)
       (try rw [show 0 * 25 = 0 from rfl] at hx103_2)
       (try rw [Addr.add_zero'] at hx103_2)
       (try rw [show ((0 : Int)).toNat = 0 from rfl] at hx103_3)
       (try rw [show 0 * 25 = 0 from rfl] at hx103_3)
       (try rw [Addr.add_zero'] at hx103_3)
       (try rw [show ((0 : Int)).toNat = 0 from rfl] at hx103_4)
       (try rw [show 0 * 25 = 0 from rfl] at hx103_4)
       (try rw [Addr.add_zero'] at hx103_4)
       (try rw [show ((0 : Int)).toNat = 0 from rfl] at hx103_5)
       (try rw [show 0 * 25 = 0 from rfl] at hx103_5)
       (try rw [Addr.add_zero'] at hx103_5)
       (try rw [show ((0 : Int)).toNat = 0 from rfl] at hx103_6)
       (try rw [show 0 * 25 = 0 from rfl] at hx103_6)
       (try rw [Addr.add_zero'] at hx103_6)
       (try rw [show ((0 : Int)).toNat = 0 from rfl] at hx103_7)
       (try rw [show 0 * 25 = 0 from rfl] at hx103_7)
       (try rw [Addr.add_zero'] at hx103_7)
       (try rw [show ((0 : Int)).toNat = 0 from rfl] at hx103_8)
       (try rw [show 0 * 25 = 0 from rfl] at hx103_8)
       (try rw [Addr.add_zero'] at hx103_8)
       (try rw [show ((0 : Int)).toNat = 0 from rfl] at hx103_9)
       (try rw [show 0 * 25 = 0 from rfl] at hx103_9)
       (try rw [Addr.add_zero'] at hx103_9)
       (try rw [show ((0 : Int)).toNat = 0 from rfl] at hx103_10)
       (try rw [show 0 * 25 = 0 from rfl] at hx103_10)
       (try rw [Addr.add_zero'] at hx103_10)
       (try rw [show ((0 : Int)).toNat = 0 from rfl] at hx103_11)
       (try rw [show 0 * 25 = 0 from rfl] at hx103_11)
       (try rw [Addr.add_zero'] at hx103_11)
       (try rw [show ((0 : Int)).toNat = 0 from rfl] at hx103_12)
       (try rw [show 0 * 25 = 0 from rfl] at hx103_12)
       (try rw [Addr.add_zero'] at hx103_12)
       (try rw [show ((0 : Int)).toNat = 0 from rfl] at hx103_13)
       (try rw [show 0 * 25 = 0 from rfl] at hx103_13)
       (try rw [Addr.add_zero'] at hx103_13)
       (try rw [show ((0 : Int)).toNat = 0 from rfl] at hx103_14)
       (try rw [show 0 * 25 = 0 from rfl] at hx103_14)
       (try rw [Addr.add_zero'] at hx103_14)
       (try rw [show ((0 : Int)).toNat = 0 from rfl] at hx103_15)
       (try rw [show 0 * 25 = 0 from rfl] at hx103_15)
       (try rw [Addr.add_zero'] at hx103_15)
       (try rw [show ((0 : Int)).toNat = 0 from rfl] at hx103_16)
       (try rw [show 0 * 25 = 0 from rfl] at hx103_16)
       (try rw [Addr.add_zero'] at hx103_16)
       (try rw [show ((0 : Int)).toNat = 0 from rfl] at hx103_17)
       (try rw [show 0 * 25 = 0 from rfl] at hx103_17)
       (try rw [Addr.add_zero'] at hx103_17)
       (try rw [show ((0 : Int)).toNat = 0 from rfl] at hx103_18)
       (try rw [show 0 * 25 = 0 from rfl] at hx103_18)
       (try rw [Addr.add_zero'] at hx103_18)
       (try rw [show ((0 : Int)).toNat = 0 from rfl] at hx103_19)
       (try rw [show 0 * 25 = 0 from rfl] at hx103_19)
       (try rw [Addr.add_zero'] at hx103_19)
       (try rw [show ((0 : Int)).toNat = 0 from rfl] at hx103_20)
       (try rw [show 0 * 25 = 0 from rfl] at hx103_20)
       (try rw [Addr.add_zero'] at hx103_20)
       (try rw [show ((0 : Int)).toNat = 0 from rfl] at hx103_21)
       (try rw [show 0 * 25 = 0 from rfl] at hx103_21)
       (try rw [Addr.add_zero'] at hx103_21)
       (try rw [show ((0 : Int)).toNat = 0 from rfl] at hx103_22)
       (try rw [show 0 * 25 = 0 from rfl] at hx103_22)
       (try rw [Addr.add_zero'] at hx103_22)
       (try rw [show ((0 : Int)).toNat = 0 from rfl] at hx103_23)
       (try rw [show 0 * 25 = 0 from rfl] at hx103_23)
       (try rw [Addr.add_zero'] at hx103_23)
       (try rw [show ((0 : Int)).toNat = 0 from rfl] at hx103_24)
       (try rw [show 0 * 25 = 0 from rfl] at hx103_24)
       (try rw [Addr.add_zero'] at hx103_24)
       replace hx103_0 := Sq.up HB.out hx103_0
       replace hx103_1 := Sq.up HB.out hx103_1
       replace hx103_2 := Sq.up HB.out hx103_2
       replace hx103_3 := Sq.up HB.out hx103_3
       replace hx103_4 := Sq.up HB.out hx103_4
       replace hx103_5 := Sq.up HB.out hx103_5
       replace hx103_6 := Sq.up HB.out hx103_6
       replace hx103_7 := Sq.up HB.out hx103_7
       replace hx103_8 := Sq.up HB.out hx103_8
       replace hx103_9 := Sq.up HB.out hx103_9
       replace hx103_10 := Sq.up HB.out hx103_10
       replace hx103_11 := Sq.up HB.out hx103_11
       replace hx103_12 := Sq.up HB.out hx103_12
       replace hx103_13 := Sq.up HB.out hx103_13
       replace hx103_14 := Sq.up HB.out hx103_14
       replace hx103_15 := Sq.up HB.out hx103_15
       replace hx103_16 := Sq.up HB.out hx103_16
       replace hx103_17 := Sq.up HB.out hx103_17
       replace hx103_18 := Sq.up HB.out hx103_18
       replace hx103_19 := Sq.up HB.out hx103_19
       replace hx103_20 := Sq.up HB.out hx103_20
       replace hx103_21 := Sq.up HB.out hx103_21
       replace hx103_22 := Sq.up HB.out hx103_22
       replace hx103_23 := Sq.up HB.out hx103_23
       replace hx103_24 := Sq.up HB.out hx103_24
       have fF := Aside0.mk hi103_21
       have fp := Aside0.mk hl103_21
       clear hi103_21 hl103_21
       have fG := Aside0.mk hi103_24
       have fq := Aside0.mk hl103_24
       clear hi103_24 hl103_24
       replace p103 := eq_true p103
       replace q103 := eq_true q103
       go_upto_if 35 with (first | ((with_reducible refine Pre.gate_load 25 rfl ?_); (try (refine gate_guard Z14 ?_; dsimp only)); refine Pre.load_event_a rfl rfl rfl Z14 Pre.range25 Try.underlying25 rfl Z11 ?_) | ((with_reducible refine gate_callee (f := 19) rfl ?_); refine goesL_ (some 31) rfl rfl Try.func19 Z11 rfl #[.agg #[.int .i64 ((rd_T25 l0 0).f0), .int .i64 ((rd_T25 l0 0).f1), .int .i64 ((rd_T25 l0 0).f2), .string ((rd_T25 l0 0).f3), .int .i64 ((rd_T25 l0 0).f4), .int .i64 ((rd_T25 l0 0).f5), .string ((rd_T25 l0 0).f6), .int .i64 ((rd_T25 l0 0).f7), .int .i64 ((rd_T25 l0 0).f8), .string ((rd_T25 l0 0).f9), .int .i64 ((rd_T25 l0 0).f10), .string ((rd_T25 l0 0).f11), .int .i64 ((rd_T25 l0 0).f12), .int .i64 ((rd_T25 l0 0).f13), .int .i64 ((rd_T25 l0 0).f14), .int .i64 ((rd_T25 l0 0).f15), .int .i64 ((rd_T25 l0 0).f16), .int .i64 ((rd_T25 l0 0).f17), .int .i64 ((rd_T25 l0 0).f18), .string ((rd_T25 l0 0).f19), .string ((rd_T25 l0 0).f20), .slice eI ((rd_T25 l0 0).f21).length eJ, .int .i64 ((rd_T25 l0 0).f22), .string ((rd_T25 l0 0).f23), .slice eK ((rd_T25 l0 0).f24).length eL]] rfl Z4 ?_; (with_reducible refine (roadbookref14_Put.calls k1 ((rd_T25 l0 0).f0) ((rd_T25 l0 0).f1) ((rd_T25 l0 0).f2) ((rd_T25 l0 0).f3) ((rd_T25 l0 0).f4) ((rd_T25 l0 0).f5) ((rd_T25 l0 0).f6) ((rd_T25 l0 0).f7) ((rd_T25 l0 0).f8) ((rd_T25 l0 0).f9) ((rd_T25 l0 0).f10) ((rd_T25 l0 0).f11) ((rd_T25 l0 0).f12) ((rd_T25 l0 0).f13) ((rd_T25 l0 0).f14) ((rd_T25 l0 0).f15) ((rd_T25 l0 0).f16) ((rd_T25 l0 0).f17) ((rd_T25 l0 0).f18) ((rd_T25 l0 0).f19) ((rd_T25 l0 0).f20) _ _ ((rd_T25 l0 0).f21) ((rd_T25 l0 0).f22) ((rd_T25 l0 0).f23) _ _ ((rd_T25 l0 0).f24) bg bH _ ?side1 ?side2 ?side3 ?side4 iY.out).mono ?_); (case side1 => exact Z43); (case side2 => exact fp.out); (case side3 => exact Z42); (case side4 => exact fq.out); rintro e hS ⟨rfl, hb⟩; refine ⟨_, rfl, ?_⟩; replace HB := Aside0.mk (below_step Z2 hb); clear hb))
       (try simp only [Act.put, Sq.s1, Sq.s2, Sq.s3])
       go_cut [6, 7] (fun v6 v7 wc => ∃ (kq : Nat) (fx : ByteArray) (ik : Bool), v6 = .string fx ∧ v7 = .bool ik ∧ Aside0 (roadbookref17_Encode.j1 kq l0 fx ik = some (r1, r2, r3)) ∧ Aside0 (kq ≤ k1) ∧ Aside0 (Below w.heap.size w wc))
       case first =>
        have H := kX.out
        clear kX
        by_cases dQ : bH = true
        ·subst dQ
         have H1 : (roadbookref17_Encode.j1 k1 l0 bg true) = some (r1, r2, r3) := by rw [if_pos rfl] at H; exact H
         clear H
         have H := H1
         clear H1
         have H' := Aside0.mk H
         clear H
         go_wp2_with (first | ((with_reducible refine Pre.gate_load 25 rfl ?_); (try (refine gate_guard Z14 ?_; dsimp only)); refine Pre.load_event_a rfl rfl rfl Z14 Pre.range25 Try.underlying25 rfl Z11 ?_))
         go_meet
         case rel => exact ⟨_, (bg), (true), Z10, Z10, H', ⟨Z61⟩, ⟨Z2⟩⟩
        ·replace dQ := Bool.eq_false_iff.mpr dQ
         subst dQ
         have H1 : ((roadbookref15_Put.f k1 ((rd_T25 l0 0).f0) ((rd_T25 l0 0).f1) ((rd_T25 l0 0).f2) ((rd_T25 l0 0).f3) ((rd_T25 l0 0).f4) ((rd_T25 l0 0).f5) ((rd_T25 l0 0).f6) ((rd_T25 l0 0).f7) ((rd_T25 l0 0).f8) ((rd_T25 l0 0).f9) ((rd_T25 l0 0).f10) ((rd_T25 l0 0).f11) ((rd_T25 l0 0).f12) ((rd_T25 l0 0).f13) ((rd_T25 l0 0).f14) ((rd_T25 l0 0).f15) ((rd_T25 l0 0).f16) ((rd_T25 l0 0).f17) ((rd_T25 l0 0).f18) ((rd_T25 l0 0).f19) ((rd_T25 l0 0).f20) ((rd_T25 l0 0).f21) ((rd_T25 l0 0).f22) ((rd_T25 l0 0).f23) ((rd_T25 l0 0).f24)).bind fun ca => (roadbookref17_Encode.j1 k1 l0 ca.1 ca.2)) = some (r1, r2, r3) := by rw [if_neg (show ¬ (false = true) by decide)] at H; exact H
         clear H
         have H := H1
         clear H1
         replace H := Option.bind_eq_some_iff.mp H
         obtain ⟨⟨bX, aH⟩, gp, H⟩ := H
         replace H : (roadbookref17_Encode.j1 k1 l0 bX aH) = some (r1, r2, r3) := H
         have jS := Aside0.mk gp
         clear gp
         have H' := Aside0.mk H
         clear H
         have p106 : 0 ≤ (0 : Int) := Z29
         have q106 : 0 < (l0.length : Int) := of_decide_eq_true Z8
         obtain ⟨ad106, gS, gT, gU, gV, e106, hx106_0, hx106_1, hx106_2, hx106_3, hx106_4, hx106_5, hx106_6, hx106_7, hx106_8, hx106_9, hx106_10, hx106_11, hx106_12, hx106_13, hx106_14, hx106_15, hx106_16, hx106_17, hx106_18, hx106_19, hx106_20, hx106_21, hx106_22, hx106_23, hx106_24, hl106_21, hi106_21, hl106_24, hi106_24⟩ := at_T25 dS.out 0 p106 q106
         obtain rfl : ad103 = ad106 := (by injection e106)
         have qi106 : (0 < l0.length) = True := eq_true Z29
         (try rw [show ((0 : Int)).toNat = 0 from rfl] at hx106_0)
         (try rw [show 0 * 25 = 0 from rfl] at hx106_0)
         (try rw [Addr.add_zero'] at hx106_0)
         (try rw [show ((0 : Int)).toNat = 0 from rfl] at hx106_1)
         (try rw [show 0 * 25 = 0 from rfl] at hx106_1)
         (try rw [Addr.add_zero'] at hx106_1)
         (try rw [show ((0 : Int)).toNat = 0 from rfl] at hx106_2)
         (try rw [show 0 * 25 = 0 from rfl] at hx106_2)
         (try rw [Addr.add_zero'] at hx106_2)
         (try rw [show ((0 : Int)).toNat = 0 from rfl] at hx106_3)
         (try rw [show 0 * 25 = 0 from rfl] at hx106_3)
         (try rw [Addr.add_zero'] at hx106_3)
         (try rw [show ((0 : Int)).toNat = 0 from rfl] at hx106_4)
         (try rw [show 0 * 25 = 0 from rfl] at hx106_4)
         (try rw [Addr.add_zero'] at hx106_4)
         (try rw [show ((0 : Int)).toNat = 0 from rfl] at hx106_5)
         (try rw [show 0 * 25 = 0 from rfl] at hx106_5)
         (try rw [Addr.add_zero'] at hx106_5)
         (try rw [show ((0 : Int)).toNat = 0 from rfl] at hx106_6)
         (try rw [show 0 * 25 = 0 from rfl] at hx106_6)
         (try rw [Addr.add_zero'] at hx106_6)
         (try rw [show ((0 : Int)).toNat = 0 from rfl] at hx106_7)
         (try rw [show 0 * 25 = 0 from rfl] at hx106_7)
         (try rw [Addr.add_zero'] at hx106_7)
         (try rw [show ((0 : Int)).toNat = 0 from rfl] at hx106_8)
         (try rw [show 0 * 25 = 0 from rfl] at hx106_8)
         (try rw [Addr.add_zero'] at hx106_8)
         (try rw [show ((0 : Int)).toNat = 0 from rfl] at hx106_9)
         (try rw [show 0 * 25 = 0 from rfl] at hx106_9)
         (try rw [Addr.add_zero'] at hx106_9)
         (try rw [show ((0 : Int)).toNat = 0 from rfl] at hx106_10)
         (try rw [show 0 * 25 = 0 from rfl] at hx106_10)
         (try rw [Addr.add_zero'] at hx106_10)
         (try rw [show ((0 : Int)).toNat = 0 from rfl] at hx106_11)
         (try rw [show 0 * 25 = 0 from rfl] at hx106_11)
         (try rw [Addr.add_zero'] at hx106_11)
         (try rw [show ((0 : Int)).toNat = 0 from rfl] at hx106_12)
         (try rw [show 0 * 25 = 0 from rfl] at hx106_12)
         (try rw [Addr.add_zero'] at hx106_12)
         (try rw [show ((0 : Int)).toNat = 0 from rfl] at hx106_13)
         (try rw [show 0 * 25 = 0 from rfl] at hx106_13)
         (try rw [Addr.add_zero'] at hx106_13)
         (try rw [show ((0 : Int)).toNat = 0 from rfl] at hx106_14)
         (try rw [show 0 * 25 = 0 from rfl] at hx106_14)
         (try rw [Addr.add_zero'] at hx106_14)
         (try rw [show ((0 : Int)).toNat = 0 from rfl] at hx106_15)
         (try rw [show 0 * 25 = 0 from rfl] at hx106_15)
         (try rw [Addr.add_zero'] at hx106_15)
         (try rw [show ((0 : Int)).toNat = 0 from rfl] at hx106_16)
         (try rw [show 0 * 25 = 0 from rfl] at hx106_16)
         (try rw [Addr.add_zero'] at hx106_16)
         (try rw [show ((0 : Int)).toNat = 0 from rfl] at hx106_17)
         (try rw [show 0 * 25 = 0 from rfl] at hx106_17)
         (try rw [Addr.add_zero'] at hx106_17)
         (try rw [show ((0 : Int)).toNat = 0 from rfl] at hx106_18)
         (try rw [show 0 * 25 = 0 from rfl] at hx106_18)
         (try rw [Addr.add_zero'] at hx106_18)
         (try rw [show ((0 : Int)).toNat = 0 from rfl] at hx106_19)
         (try rw [show 0 * 25 = 0 from rfl] at hx106_19)
         (try rw [Addr.add_zero'] at hx106_19)
         (try rw [show ((0 : Int)).toNat = 0 from rfl] at hx106_20)
         (try rw [show 0 * 25 = 0 from rfl] at hx106_20)
         (try rw [Addr.add_zero'] at hx106_20)
         (try rw [show ((0 : Int)).toNat = 0 from rfl] at hx106_21)
         (try rw [show 0 * 25 = 0 from rfl] at hx106_21)
         (try rw [Addr.add_zero'] at hx106_21)
         (try rw [show ((0 : Int)).toNat = 0 from rfl] at hx106_22)
         (try rw [show 0 * 25 = 0 from rfl] at hx106_22)
         (try rw [Addr.add_zero'] at hx106_22)
         (try rw [show ((0 : Int)).toNat = 0 from rfl] at hx106_23)
         (try rw [show 0 * 25 = 0 from rfl] at hx106_23)
         (try rw [Addr.add_zero'] at hx106_23)
         (try rw [show ((0 : Int)).toNat = 0 from rfl] at hx106_24)
         (try rw [show 0 * 25 = 0 from rfl] at hx106_24)
         (try rw [Addr.add_zero'] at hx106_24)
         replace hx106_0 := Sq.up HB.out hx106_0
         replace hx106_1 := Sq.up HB.out hx106_1
         replace hx106_2 := Sq.up HB.out hx106_2
         replace hx106_3 := Sq.up HB.out hx106_3
         replace hx106_4 := Sq.up HB.out hx106_4
         replace hx106_5 := Sq.up HB.out hx106_5
         replace hx106_6 := Sq.up HB.out hx106_6
         replace hx106_7 := Sq.up HB.out hx106_7
         replace hx106_8 := Sq.up HB.out hx106_8
         replace hx106_9 := Sq.up HB.out hx106_9
         replace hx106_10 := Sq.up HB.out hx106_10
         replace hx106_11 := Sq.up HB.out hx106_11
         replace hx106_12 := Sq.up HB.out hx106_12
         replace hx106_13 := Sq.up HB.out hx106_13
         replace hx106_14 := Sq.up HB.out hx106_14
         replace hx106_15 := Sq.up HB.out hx106_15
         replace hx106_16 := Sq.up HB.out hx106_16
         replace hx106_17 := Sq.up HB.out hx106_17
         replace hx106_18 := Sq.up HB.out hx106_18
         replace hx106_19 := Sq.up HB.out hx106_19
         replace hx106_20 := Sq.up HB.out hx106_20
         replace hx106_21 := Sq.up HB.out hx106_21
         replace hx106_22 := Sq.up HB.out hx106_22
         replace hx106_23 := Sq.up HB.out hx106_23
         replace hx106_24 := Sq.up HB.out hx106_24
         have hA := Aside0.mk hi106_21
         have gq := Aside0.mk hl106_21
         clear hi106_21 hl106_21
         have hB := Aside0.mk hi106_24
         have gr := Aside0.mk hl106_24
         clear hi106_24 hl106_24
         replace p106 := eq_true p106
         replace q106 := eq_true q106
         go_wp2_with (first | ((with_reducible refine Pre.gate_load 25 rfl ?_); (try (refine gate_guard Z14 ?_; dsimp only)); refine Pre.load_event_a rfl rfl rfl Z14 Pre.range25 Try.underlying25 rfl Z11 ?_) | ((with_reducible refine gate_callee (f := 35) rfl ?_); refine goesL_ (some 40) rfl rfl Try.func35 Z11 rfl #[.agg #[.int .i64 ((rd_T25 l0 0).f0), .int .i64 ((rd_T25 l0 0).f1), .int .i64 ((rd_T25 l0 0).f2), .string ((rd_T25 l0 0).f3), .int .i64 ((rd_T25 l0 0).f4), .int .i64 ((rd_T25 l0 0).f5), .string ((rd_T25 l0 0).f6), .int .i64 ((rd_T25 l0 0).f7), .int .i64 ((rd_T25 l0 0).f8), .string ((rd_T25 l0 0).f9), .int .i64 ((rd_T25 l0 0).f10), .string ((rd_T25 l0 0).f11), .int .i64 ((rd_T25 l0 0).f12), .int .i64 ((rd_T25 l0 0).f13), .int .i64 ((rd_T25 l0 0).f14), .int .i64 ((rd_T25 l0 0).f15), .int .i64 ((rd_T25 l0 0).f16), .int .i64 ((rd_T25 l0 0).f17), .int .i64 ((rd_T25 l0 0).f18), .string ((rd_T25 l0 0).f19), .string ((rd_T25 l0 0).f20), .slice gS ((rd_T25 l0 0).f21).length gT, .int .i64 ((rd_T25 l0 0).f22), .string ((rd_T25 l0 0).f23), .slice gU ((rd_T25 l0 0).f24).length gV]] rfl Z4 ?_; (with_reducible refine (roadbookref15_Put.calls k1 ((rd_T25 l0 0).f0) ((rd_T25 l0 0).f1) ((rd_T25 l0 0).f2) ((rd_T25 l0 0).f3) ((rd_T25 l0 0).f4) ((rd_T25 l0 0).f5) ((rd_T25 l0 0).f6) ((rd_T25 l0 0).f7) ((rd_T25 l0 0).f8) ((rd_T25 l0 0).f9) ((rd_T25 l0 0).f10) ((rd_T25 l0 0).f11) ((rd_T25 l0 0).f12) ((rd_T25 l0 0).f13) ((rd_T25 l0 0).f14) ((rd_T25 l0 0).f15) ((rd_T25 l0 0).f16) ((rd_T25 l0 0).f17) ((rd_T25 l0 0).f18) ((rd_T25 l0 0).f19) ((rd_T25 l0 0).f20) _ _ ((rd_T25 l0 0).f21) ((rd_T25 l0 0).f22) ((rd_T25 l0 0).f23) _ _ ((rd_T25 l0 0).f24) bX aH _ ?side1 ?side2 ?side3 ?side4 jS.out).mono ?_); (case side1 => exact Z58); (case side2 => exact gq.out); (case side3 => exact Z57); (case side4 => exact gr.out); rintro e kp ⟨rfl, hb⟩; refine ⟨_, rfl, ?_⟩; replace HB := Aside0.mk (below_step Z2 hb); clear hb))
         go_meet
         case rel => exact ⟨_, (bX), (aH), Z10, Z10, H', ⟨Z61⟩, ⟨Z2⟩⟩
       case rest =>
        clear kX
        try clear c1
        try clear p1
        try clear q1
        try clear hx1
        try clear qi1
        try clear c2
        try clear fR
        try clear p2
        try clear c3
        try clear fh
        try clear c4
        try clear c5
        try clear p6
        try clear c8
        try clear fS
        try clear gF
        try clear jR
        try clear c9
        try clear ga
        try clear gG
        try clear dv
        try clear eS
        try clear gn
        try clear p10
        try clear q10
        try clear hx10
        try clear qi10
        try clear hx101_0
        try clear hx101_1
        try clear hx101_10
        try clear hx101_11
        try clear hx101_12
        try clear hx101_13
        try clear hx101_14
        try clear hx101_15
        try clear hx101_16
        try clear hx101_17
        try clear hx101_18
        try clear hx101_19
        try clear hx101_2
        try clear hx101_20
        try clear hx101_21
        try clear hx101_22
        try clear hx101_23
        try clear hx101_24
        try clear hx101_3
        try clear hx101_4
        try clear hx101_5
        try clear hx101_6
        try clear hx101_7
        try clear hx101_8
        try clear hx101_9
        try clear hx103_0
        try clear hx103_1
        try clear hx103_10
        try clear hx103_11
        try clear hx103_12
        try clear hx103_13
        try clear hx103_14
        try clear hx103_15
        try clear hx103_16
        try clear hx103_17
        try clear hx103_18
        try clear hx103_19
        try clear hx103_2
        try clear hx103_20
        try clear hx103_21
        try clear hx103_22
        try clear hx103_23
        try clear hx103_24
        try clear hx103_3
        try clear hx103_4
        try clear hx103_5
        try clear hx103_6
        try clear hx103_7
        try clear hx103_8
        try clear hx103_9
        try clear p101
        try clear p103
        try clear q101
        try clear q103
        obtain ⟨kq, fx, ik, rfl, rfl, HA, HJ11, HB⟩ := hcut
        cases kq with
        | zero => exact absurd HA.out (by simp [roadbookref17_Encode.j1])
        | succ kj11 =>
         have H := HA.out
         clear HA
         simp only [roadbookref17_Encode.j1] at H
         by_cases eM : ik = true
         ·subst eM
          have H1 : (if (fx.size : Int) > 65535 then (some ((⟨#[]⟩ : ByteArray), 0, 10)) else (some (fx, 0, 0))) = some (r1, r2, r3) := by rw [if_pos rfl] at H; exact H
          clear H
          have H := H1
          clear H1
          by_cases ep : (fx.size : Int) > 65535
          ·rw [if_pos ep] at H
           have fy : decide (65535 < (fx.size : Int)) = true := decide_eq_true ep
           have gL : decide (65535 < fx.size) = true := decide_eq_true Z29
           clear ep
           simp only [Option.some.injEq, Prod.mk.injEq] at H
           obtain ⟨rfl, rfl, rfl⟩ := H
           go_wp2_with (first | ((with_reducible refine Pre.gate_load 25 rfl ?_); (try (refine gate_guard Z14 ?_; dsimp only)); refine Pre.load_event_a rfl rfl rfl Z14 Pre.range25 Try.underlying25 rfl Z11 ?_))
           go_ret3
           exact ⟨Z6, Z2⟩
          ·rw [if_neg ep] at H
           have fy : decide (65535 < (fx.size : Int)) = false := decide_eq_false ep
           have gL : decide (65535 < fx.size) = false := decide_eq_false Z29
           clear ep
           simp only [Option.some.injEq, Prod.mk.injEq] at H
           obtain ⟨rfl, rfl, rfl⟩ := H
           go_wp2_with (first | ((with_reducible refine Pre.gate_load 25 rfl ?_); (try (refine gate_guard Z14 ?_; dsimp only)); refine Pre.load_event_a rfl rfl rfl Z14 Pre.range25 Try.underlying25 rfl Z11 ?_))
           go_ret3
           exact ⟨Z6, Z2⟩
         ·replace eM := Bool.eq_false_iff.mpr eM
          subst eM
          have H1 : (if 0 < (l0.length : Int) then ((roadbookref16_Put.f kj11 ((rd_T25 l0 0).f0) ((rd_T25 l0 0).f1) ((rd_T25 l0 0).f2) ((rd_T25 l0 0).f3) ((rd_T25 l0 0).f4) ((rd_T25 l0 0).f5) ((rd_T25 l0 0).f6) ((rd_T25 l0 0).f7) ((rd_T25 l0 0).f8) ((rd_T25 l0 0).f9) ((rd_T25 l0 0).f10) ((rd_T25 l0 0).f11) ((rd_T25 l0 0).f12) ((rd_T25 l0 0).f13) ((rd_T25 l0 0).f14) ((rd_T25 l0 0).f15) ((rd_T25 l0 0).f16) ((rd_T25 l0 0).f17) ((rd_T25 l0 0).f18) ((rd_T25 l0 0).f19) ((rd_T25 l0 0).f20) ((rd_T25 l0 0).f21) ((rd_T25 l0 0).f22) ((rd_T25 l0 0).f23) ((rd_T25 l0 0).f24)).bind fun dF => (if (dF.1.size : Int) > 65535 then (some ((⟨#[]⟩ : ByteArray), 0, 10)) else (some (dF.1, 0, 0)))) else (none)) = some (r1, r2, r3) := by rw [if_neg (show ¬ (false = true) by decide)] at H; exact H
          clear H
          have H := H1
          clear H1
          by_cases eN : 0 < (l0.length : Int)
          ·rw [if_pos eN] at H
           have fz : decide (0 < (l0.length : Int)) = true := decide_eq_true eN
           have gM : decide (0 < l0.length) = true := decide_eq_true Z29
           clear eN
           replace H := Option.bind_eq_some_iff.mp H
           obtain ⟨⟨ba, cP⟩, hC, H⟩ := H
           replace H : (if (ba.size : Int) > 65535 then (some ((⟨#[]⟩ : ByteArray), 0, 10)) else (some (ba, 0, 0))) = some (r1, r2, r3) := H
           have dL := Aside0.mk hC
           clear hC
           by_cases dE : (ba.size : Int) > 65535
           ·rw [if_pos dE] at H
            have kr : decide (65535 < (ba.size : Int)) = true := decide_eq_true dE
            have ks : decide (65535 < ba.size) = true := decide_eq_true Z29
            clear dE
            simp only [Option.some.injEq, Prod.mk.injEq] at H
            obtain ⟨rfl, rfl, rfl⟩ := H
            have p109 : 0 ≤ (0 : Int) := Z29
            have q109 : 0 < (l0.length : Int) := of_decide_eq_true Z8
            obtain ⟨ad109, eZ, fa, fb, fc, e109, hx109_0, hx109_1, hx109_2, hx109_3, hx109_4, hx109_5, hx109_6, hx109_7, hx109_8, hx109_9, hx109_10, hx109_11, hx109_12, hx109_13, hx109_14, hx109_15, hx109_16, hx109_17, hx109_18, hx109_19, hx109_20, hx109_21, hx109_22, hx109_23, hx109_24, hl109_21, hi109_21, hl109_24, hi109_24⟩ := at_T25 dS.out 0 p109 q109
            obtain rfl : ad103 = ad109 := (by injection e109)
            have qi109 : (0 < l0.length) = True := eq_true Z29
            (try rw [show ((0 : Int)).toNat = 0 from rfl] at hx109_0)
            (try rw [show 0 * 25 = 0 from rfl] at hx109_0)
            (try rw [Addr.add_zero'] at hx109_0)
            (try rw [show ((0 : Int)).toNat = 0 from rfl] at hx109_1)
            (try rw [show 0 * 25 = 0 from rfl] at hx109_1)
            (try rw [Addr.add_zero'] at hx109_1)
            (try rw [show ((0 : Int)).toNat = 0 from rfl] at hx109_2)
            (try rw [show 0 * 25 = 0 from rfl] at hx109_2)
            (try rw [Addr.add_zero'] at hx109_2)
            (try rw [show ((0 : Int)).toNat = 0 from rfl] at hx109_3)
            (try rw [show 0 * 25 = 0 from rfl] at hx109_3)
            (try rw [Addr.add_zero'] at hx109_3)
            (try rw [show ((0 : Int)).toNat = 0 from rfl] at hx109_4)
            (try rw [show 0 * 25 = 0 from rfl] at hx109_4)
            (try rw [Addr.add_zero'] at hx109_4)
            (try rw [show ((0 : Int)).toNat = 0 from rfl] at hx109_5)
            (try rw [show 0 * 25 = 0 from rfl] at hx109_5)
            (try rw [Addr.add_zero'] at hx109_5)
            (try rw [show ((0 : Int)).toNat = 0 from rfl] at hx109_6)
            (try rw [show 0 * 25 = 0 from rfl] at hx109_6)
            (try rw [Addr.add_zero'] at hx109_6)
            (try rw [show ((0 : Int)).toNat = 0 from rfl] at hx109_7)
            (try rw [show 0 * 25 = 0 from rfl] at hx109_7)
            (try rw [Addr.add_zero'] at hx109_7)
            (try rw [show ((0 : Int)).toNat = 0 from rfl] at hx109_8)
            (try rw [show 0 * 25 = 0 from rfl] at hx109_8)
            (try rw [Addr.add_zero'] at hx109_8)
            (try rw [show ((0 : Int)).toNat = 0 from rfl] at hx109_9)
            (try rw [show 0 * 25 = 0 from rfl] at hx109_9)
            (try rw [Addr.add_zero'] at hx109_9)
            (try rw [show ((0 : Int)).toNat = 0 from rfl] at hx109_10)
            (try rw [show 0 * 25 = 0 from rfl] at hx109_10)
            (try rw [Addr.add_zero'] at hx109_10)
            (try rw [show ((0 : Int)).toNat = 0 from rfl] at hx109_11)
            (try rw [show 0 * 25 = 0 from rfl] at hx109_11)
            (try rw [Addr.add_zero'] at hx109_11)
            (try rw [show ((0 : Int)).toNat = 0 from rfl] at hx109_12)
            (try rw [show 0 * 25 = 0 from rfl] at hx109_12)
            (try rw [Addr.add_zero'] at hx109_12)
            (try rw [show ((0 : Int)).toNat = 0 from rfl] at hx109_13)
            (try rw [show 0 * 25 = 0 from rfl] at hx109_13)
            (try rw [Addr.add_zero'] at hx109_13)
            (try rw [show ((0 : Int)).toNat = 0 from rfl] at hx109_14)
            (try rw [show 0 * 25 = 0 from rfl] at hx109_14)
            (try rw [Addr.add_zero'] at hx109_14)
            (try rw [show ((0 : Int)).toNat = 0 from rfl] at hx109_15)
            (try rw [show 0 * 25 = 0 from rfl] at hx109_15)
            (try rw [Addr.add_zero'] at hx109_15)
            (try rw [show ((0 : Int)).toNat = 0 from rfl] at hx109_16)
            (try rw [show 0 * 25 = 0 from rfl] at hx109_16)
            (try rw [Addr.add_zero'] at hx109_16)
            (try rw [show ((0 : Int)).toNat = 0 from rfl] at hx109_17)
            (try rw [show 0 * 25 = 0 from rfl] at hx109_17)
            (try rw [Addr.add_zero'] at hx109_17)
            (try rw [show ((0 : Int)).toNat = 0 from rfl] at hx109_18)
            (try rw [show 0 * 25 = 0 from rfl] at hx109_18)
            (try rw [Addr.add_zero'] at hx109_18)
            (try rw [show ((0 : Int)).toNat = 0 from rfl] at hx109_19)
            (try rw [show 0 * 25 = 0 from rfl] at hx109_19)
            (try rw [Addr.add_zero'] at hx109_19)
            (try rw [show ((0 : Int)).toNat = 0 from rfl] at hx109_20)
            (try rw [show 0 * 25 = 0 from rfl] at hx109_20)
            (try rw [Addr.add_zero'] at hx109_20)
            (try rw [show ((0 : Int)).toNat = 0 from rfl] at hx109_21)
            (try rw [show 0 * 25 = 0 from rfl] at hx109_21)
            (try rw [Addr.add_zero'] at hx109_21)
            (try rw [show ((0 : Int)).toNat = 0 from rfl] at hx109_22)
            (try rw [show 0 * 25 = 0 from rfl] at hx109_22)
            (try rw [Addr.add_zero'] at hx109_22)
            (try rw [show ((0 : Int)).toNat = 0 from rfl] at hx109_23)
            (try rw [show 0 * 25 = 0 from rfl] at hx109_23)
            (try rw [Addr.add_zero'] at hx109_23)
            (try rw [show ((0 : Int)).toNat = 0 from rfl] at hx109_24)
            (try rw [show 0 * 25 = 0 from rfl] at hx109_24)
            (try rw [Addr.add_zero'] at hx109_24)
            replace hx109_0 := Sq.up HB.out hx109_0
            replace hx109_1 := Sq.up HB.out hx109_1
            replace hx109_2 := Sq.up HB.out hx109_2
            replace hx109_3 := Sq.up HB.out hx109_3
            replace hx109_4 := Sq.up HB.out hx109_4
            replace hx109_5 := Sq.up HB.out hx109_5
            replace hx109_6 := Sq.up HB.out hx109_6
            replace hx109_7 := Sq.up HB.out hx109_7
            replace hx109_8 := Sq.up HB.out hx109_8
            replace hx109_9 := Sq.up HB.out hx109_9
            replace hx109_10 := Sq.up HB.out hx109_10
            replace hx109_11 := Sq.up HB.out hx109_11
            replace hx109_12 := Sq.up HB.out hx109_12
            replace hx109_13 := Sq.up HB.out hx109_13
            replace hx109_14 := Sq.up HB.out hx109_14
            replace hx109_15 := Sq.up HB.out hx109_15
            replace hx109_16 := Sq.up HB.out hx109_16
            replace hx109_17 := Sq.up HB.out hx109_17
            replace hx109_18 := Sq.up HB.out hx109_18
            replace hx109_19 := Sq.up HB.out hx109_19
            replace hx109_20 := Sq.up HB.out hx109_20
            replace hx109_21 := Sq.up HB.out hx109_21
            replace hx109_22 := Sq.up HB.out hx109_22
            replace hx109_23 := Sq.up HB.out hx109_23
            replace hx109_24 := Sq.up HB.out hx109_24
            have fH := Aside0.mk hi109_21
            have en := Aside0.mk hl109_21
            clear hi109_21 hl109_21
            have fI := Aside0.mk hi109_24
            have eo := Aside0.mk hl109_24
            clear hi109_24 hl109_24
            replace p109 := eq_true p109
            replace q109 := eq_true q109
            go_wp2_with (first | ((with_reducible refine Pre.gate_load 25 rfl ?_); (try (refine gate_guard Z14 ?_; dsimp only)); refine Pre.load_event_a rfl rfl rfl Z14 Pre.range25 Try.underlying25 rfl Z11 ?_) | ((with_reducible refine gate_callee (f := 27) rfl ?_); refine goesL_ (some 49) rfl rfl Try.func27 Z11 rfl #[.agg #[.int .i64 ((rd_T25 l0 0).f0), .int .i64 ((rd_T25 l0 0).f1), .int .i64 ((rd_T25 l0 0).f2), .string ((rd_T25 l0 0).f3), .int .i64 ((rd_T25 l0 0).f4), .int .i64 ((rd_T25 l0 0).f5), .string ((rd_T25 l0 0).f6), .int .i64 ((rd_T25 l0 0).f7), .int .i64 ((rd_T25 l0 0).f8), .string ((rd_T25 l0 0).f9), .int .i64 ((rd_T25 l0 0).f10), .string ((rd_T25 l0 0).f11), .int .i64 ((rd_T25 l0 0).f12), .int .i64 ((rd_T25 l0 0).f13), .int .i64 ((rd_T25 l0 0).f14), .int .i64 ((rd_T25 l0 0).f15), .int .i64 ((rd_T25 l0 0).f16), .int .i64 ((rd_T25 l0 0).f17), .int .i64 ((rd_T25 l0 0).f18), .string ((rd_T25 l0 0).f19), .string ((rd_T25 l0 0).f20), .slice eZ ((rd_T25 l0 0).f21).length fa, .int .i64 ((rd_T25 l0 0).f22), .string ((rd_T25 l0 0).f23), .slice fb ((rd_T25 l0 0).f24).length fc]] rfl Z4 ?_; (with_reducible refine (roadbookref16_Put.calls kj11 ((rd_T25 l0 0).f0) ((rd_T25 l0 0).f1) ((rd_T25 l0 0).f2) ((rd_T25 l0 0).f3) ((rd_T25 l0 0).f4) ((rd_T25 l0 0).f5) ((rd_T25 l0 0).f6) ((rd_T25 l0 0).f7) ((rd_T25 l0 0).f8) ((rd_T25 l0 0).f9) ((rd_T25 l0 0).f10) ((rd_T25 l0 0).f11) ((rd_T25 l0 0).f12) ((rd_T25 l0 0).f13) ((rd_T25 l0 0).f14) ((rd_T25 l0 0).f15) ((rd_T25 l0 0).f16) ((rd_T25 l0 0).f17) ((rd_T25 l0 0).f18) ((rd_T25 l0 0).f19) ((rd_T25 l0 0).f20) _ _ ((rd_T25 l0 0).f21) ((rd_T25 l0 0).f22) ((rd_T25 l0 0).f23) _ _ ((rd_T25 l0 0).f24) ba cP _ ?side1 ?side2 ?side3 ?side4 dL.out).mono ?_); (case side1 => exact Z34); (case side2 => exact en.out); (case side3 => exact Z33); (case side4 => exact eo.out); rintro e kV ⟨rfl, hb⟩; refine ⟨_, rfl, ?_⟩; replace HB := Aside0.mk (below_step Z2 hb); clear hb))
            go_ret3
            exact ⟨Z6, Z2⟩
           ·rw [if_neg dE] at H
            have kr : decide (65535 < (ba.size : Int)) = false := decide_eq_false dE
            have ks : decide (65535 < ba.size) = false := decide_eq_false Z29
            clear dE
            simp only [Option.some.injEq, Prod.mk.injEq] at H
            obtain ⟨rfl, rfl, rfl⟩ := H
            have p109 : 0 ≤ (0 : Int) := Z29
            have q109 : 0 < (l0.length : Int) := of_decide_eq_true Z8
            obtain ⟨ad109, eZ, fa, fb, fc, e109, hx109_0, hx109_1, hx109_2, hx109_3, hx109_4, hx109_5, hx109_6, hx109_7, hx109_8, hx109_9, hx109_10, hx109_11, hx109_12, hx109_13, hx109_14, hx109_15, hx109_16, hx109_17, hx109_18, hx109_19, hx109_20, hx109_21, hx109_22, hx109_23, hx109_24, hl109_21, hi109_21, hl109_24, hi109_24⟩ := at_T25 dS.out 0 p109 q109
            obtain rfl : ad103 = ad109 := (by injection e109)
            have qi109 : (0 < l0.length) = True := eq_true Z29
            (try rw [show ((0 : Int)).toNat = 0 from rfl] at hx109_0)
            (try rw [show 0 * 25 = 0 from rfl] at hx109_0)
            (try rw [Addr.add_zero'] at hx109_0)
            (try rw [show ((0 : Int)).toNat = 0 from rfl] at hx109_1)
            (try rw [show 0 * 25 = 0 from rfl] at hx109_1)
            (try rw [Addr.add_zero'] at hx109_1)
            (try rw [show ((0 : Int)).toNat = 0 from rfl] at hx109_2)
            (try rw [show 0 * 25 = 0 from rfl] at hx109_2)
            (try rw [Addr.add_zero'] at hx109_2)
            (try rw [show ((0 : Int)).toNat = 0 from rfl] at hx109_3)
            (try rw [show 0 * 25 = 0 from rfl] at hx109_3)
            (try rw [Addr.add_zero'] at hx109_3)
            (try rw [show ((0 : Int)).toNat = 0 from rfl] at hx109_4)
            (try rw [show 0 * 25 = 0 from rfl] at hx109_4)
            (try rw [Addr.add_zero'] at hx109_4)
            (try rw [show ((0 : Int)).toNat = 0 from rfl] at hx109_5)
            (try rw [show 0 * 25 = 0 from rfl] at hx109_5)
            (try rw [Addr.add_zero'] at hx109_5)
            (try rw [show ((0 : Int)).toNat = 0 from rfl] at hx109_6)
            (try rw [show 0 * 25 = 0 from rfl] at hx109_6)
            (try rw [Addr.add_zero'] at hx109_6)
            (try rw [show ((0 : Int)).toNat = 0 from rfl] at hx109_7)
            (try rw [show 0 * 25 = 0 from rfl] at hx109_7)
            (try rw [Addr.add_zero'] at hx109_7)
            (try rw [show ((0 : Int)).toNat = 0 from rfl] at hx109_8)
            (try rw [show 0 * 25 = 0 from rfl] at hx109_8)
            (try rw [Addr.add_zero'] at hx109_8)
            (try rw [show ((0 : Int)).toNat = 0 from rfl] at hx109_9)
            (try rw [show 0 * 25 = 0 from rfl] at hx109_9)
            (try rw [Addr.add_zero'] at hx109_9)
            (try rw [show ((0 : Int)).toNat = 0 from rfl] at hx109_10)
            (try rw [show 0 * 25 = 0 from rfl] at hx109_10)
            (try rw [Addr.add_zero'] at hx109_10)
            (try rw [show ((0 : Int)).toNat = 0 from rfl] at hx109_11)
            (try rw [show 0 * 25 = 0 from rfl] at hx109_11)
            (try rw [Addr.add_zero'] at hx109_11)
            (try rw [show ((0 : Int)).toNat = 0 from rfl] at hx109_12)
            (try rw [show 0 * 25 = 0 from rfl] at hx109_12)
            (try rw [Addr.add_zero'] at hx109_12)
            (try rw [show ((0 : Int)).toNat = 0 from rfl] at hx109_13)
            (try rw [show 0 * 25 = 0 from rfl] at hx109_13)
            (try rw [Addr.add_zero'] at hx109_13)
            (try rw [show ((0 : Int)).toNat = 0 from rfl] at hx109_14)
            (try rw [show 0 * 25 = 0 from rfl] at hx109_14)
            (try rw [Addr.add_zero'] at hx109_14)
            (try rw [show ((0 : Int)).toNat = 0 from rfl] at hx109_15)
            (try rw [show 0 * 25 = 0 from rfl] at hx109_15)
            (try rw [Addr.add_zero'] at hx109_15)
            (try rw [show ((0 : Int)).toNat = 0 from rfl] at hx109_16)
            (try rw [show 0 * 25 = 0 from rfl] at hx109_16)
            (try rw [Addr.add_zero'] at hx109_16)
            (try rw [show ((0 : Int)).toNat = 0 from rfl] at hx109_17)
            (try rw [show 0 * 25 = 0 from rfl] at hx109_17)
            (try rw [Addr.add_zero'] at hx109_17)
            (try rw [show ((0 : Int)).toNat = 0 from rfl] at hx109_18)
            (try rw [show 0 * 25 = 0 from rfl] at hx109_18)
            (try rw [Addr.add_zero'] at hx109_18)
            (try rw [show ((0 : Int)).toNat = 0 from rfl] at hx109_19)
            (try rw [show 0 * 25 = 0 from rfl] at hx109_19)
            (try rw [Addr.add_zero'] at hx109_19)
            (try rw [show ((0 : Int)).toNat = 0 from rfl] at hx109_20)
            (try rw [show 0 * 25 = 0 from rfl] at hx109_20)
            (try rw [Addr.add_zero'] at hx109_20)
            (try rw [show ((0 : Int)).toNat = 0 from rfl] at hx109_21)
            (try rw [show 0 * 25 = 0 from rfl] at hx109_21)
            (try rw [Addr.add_zero'] at hx109_21)
            (try rw [show ((0 : Int)).toNat = 0 from rfl] at hx109_22)
            (try rw [show 0 * 25 = 0 from rfl] at hx109_22)
            (try rw [Addr.add_zero'] at hx109_22)
            (try rw [show ((0 : Int)).toNat = 0 from rfl] at hx109_23)
            (try rw [show 0 * 25 = 0 from rfl] at hx109_23)
            (try rw [Addr.add_zero'] at hx109_23)
            (try rw [show ((0 : Int)).toNat = 0 from rfl] at hx109_24)
            (try rw [show 0 * 25 = 0 from rfl] at hx109_24)
            (try rw [Addr.add_zero'] at hx109_24)
            replace hx109_0 := Sq.up HB.out hx109_0
            replace hx109_1 := Sq.up HB.out hx109_1
            replace hx109_2 := Sq.up HB.out hx109_2
            replace hx109_3 := Sq.up HB.out hx109_3
            replace hx109_4 := Sq.up HB.out hx109_4
            replace hx109_5 := Sq.up HB.out hx109_5
            replace hx109_6 := Sq.up HB.out hx109_6
            replace hx109_7 := Sq.up HB.out hx109_7
            replace hx109_8 := Sq.up HB.out hx109_8
            replace hx109_9 := Sq.up HB.out hx109_9
            replace hx109_10 := Sq.up HB.out hx109_10
            replace hx109_11 := Sq.up HB.out hx109_11
            replace hx109_12 := Sq.up HB.out hx109_12
            replace hx109_13 := Sq.up HB.out hx109_13
            replace hx109_14 := Sq.up HB.out hx109_14
            replace hx109_15 := Sq.up HB.out hx109_15
            replace hx109_16 := Sq.up HB.out hx109_16
            replace hx109_17 := Sq.up HB.out hx109_17
            replace hx109_18 := Sq.up HB.out hx109_18
            replace hx109_19 := Sq.up HB.out hx109_19
            replace hx109_20 := Sq.up HB.out hx109_20
            replace hx109_21 := Sq.up HB.out hx109_21
            replace hx109_22 := Sq.up HB.out hx109_22
            replace hx109_23 := Sq.up HB.out hx109_23
            replace hx109_24 := Sq.up HB.out hx109_24
            have fH := Aside0.mk hi109_21
            have en := Aside0.mk hl109_21
            clear hi109_21 hl109_21
            have fI := Aside0.mk hi109_24
            have eo := Aside0.mk hl109_24
            clear hi109_24 hl109_24
            replace p109 := eq_true p109
            replace q109 := eq_true q109
            go_wp2_with (first | ((with_reducible refine Pre.gate_load 25 rfl ?_); (try (refine gate_guard Z14 ?_; dsimp only)); refine Pre.load_event_a rfl rfl rfl Z14 Pre.range25 Try.underlying25 rfl Z11 ?_) | ((with_reducible refine gate_callee (f := 27) rfl ?_); refine goesL_ (some 49) rfl rfl Try.func27 Z11 rfl #[.agg #[.int .i64 ((rd_T25 l0 0).f0), .int .i64 ((rd_T25 l0 0).f1), .int .i64 ((rd_T25 l0 0).f2), .string ((rd_T25 l0 0).f3), .int .i64 ((rd_T25 l0 0).f4), .int .i64 ((rd_T25 l0 0).f5), .string ((rd_T25 l0 0).f6), .int .i64 ((rd_T25 l0 0).f7), .int .i64 ((rd_T25 l0 0).f8), .string ((rd_T25 l0 0).f9), .int .i64 ((rd_T25 l0 0).f10), .string ((rd_T25 l0 0).f11), .int .i64 ((rd_T25 l0 0).f12), .int .i64 ((rd_T25 l0 0).f13), .int .i64 ((rd_T25 l0 0).f14), .int .i64 ((rd_T25 l0 0).f15), .int .i64 ((rd_T25 l0 0).f16), .int .i64 ((rd_T25 l0 0).f17), .int .i64 ((rd_T25 l0 0).f18), .string ((rd_T25 l0 0).f19), .string ((rd_T25 l0 0).f20), .slice eZ ((rd_T25 l0 0).f21).length fa, .int .i64 ((rd_T25 l0 0).f22), .string ((rd_T25 l0 0).f23), .slice fb ((rd_T25 l0 0).f24).length fc]] rfl Z4 ?_; (with_reducible refine (roadbookref16_Put.calls kj11 ((rd_T25 l0 0).f0) ((rd_T25 l0 0).f1) ((rd_T25 l0 0).f2) ((rd_T25 l0 0).f3) ((rd_T25 l0 0).f4) ((rd_T25 l0 0).f5) ((rd_T25 l0 0).f6) ((rd_T25 l0 0).f7) ((rd_T25 l0 0).f8) ((rd_T25 l0 0).f9) ((rd_T25 l0 0).f10) ((rd_T25 l0 0).f11) ((rd_T25 l0 0).f12) ((rd_T25 l0 0).f13) ((rd_T25 l0 0).f14) ((rd_T25 l0 0).f15) ((rd_T25 l0 0).f16) ((rd_T25 l0 0).f17) ((rd_T25 l0 0).f18) ((rd_T25 l0 0).f19) ((rd_T25 l0 0).f20) _ _ ((rd_T25 l0 0).f21) ((rd_T25 l0 0).f22) ((rd_T25 l0 0).f23) _ _ ((rd_T25 l0 0).f24) ba cP _ ?side1 ?side2 ?side3 ?side4 dL.out).mono ?_); (case side1 => exact Z34); (case side2 => exact en.out); (case side3 => exact Z33); (case side4 => exact eo.out); rintro e gW ⟨rfl, hb⟩; refine ⟨_, rfl, ?_⟩; replace HB := Aside0.mk (below_step Z2 hb); clear hb))
            go_ret3
            exact ⟨Z6, Z2⟩
          ·rw [if_neg eN] at H
           exact absurd H Z35
      ·rw [if_neg dv] at H
       exact absurd H Z35

end Go.Proofs.Ytccjakjjaemmkaa.PAE
