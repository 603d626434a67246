-- Written by mp.py, a program of this work (wip/tools), out of the translation; Lean checks it.
import Derived.Test.YtnifhgackjkkbaaPNxZ
import Derived.Test.YtnifhgackjkkbaaPNxroadbookref02
import Derived.Test.YtnifhgackjkkbaaPNxroadbookref11
import Derived.Test.YtnifhgackjkkbaaPNxroadbookref12Right
import Derived.Test.YtnifhgackjkkbaaLoad
import Derived.Test.YtnifhgackjkkbaaSqB
import Derived.Test.YtnifhgackjkkbaaSqC
namespace Go.Proofs.Ytnifhgackjkkbaa.PN
open Go.RowKit Go.Proofs.YtnifhgackjkkbaaW.PrintWords Go.Proofs.YtnifhgackjkkbaaW.PrintLast Go.Proofs.YtnifhgackjkkbaaW.PrintMore
attribute [local go_sem] max2_int min2_int max_two min_two max_three min_three max_four min_four   -- for this text's walks alone
set_option linter.unusedVariables false
set_option linter.unusedSimpArgs false

/-! ### roadbookref12_Encode: function 15 -/
/-- Which bytes there are, and which next hop holds, ahead of a route's own entry. -/
def roadbookref12_Encode.s (k : Nat) (x0 : List S34) (o n : ByteArray) (x : Int) : Option (ByteArray × ByteArray) := if (((rd_T34 x0 x).f9)).toList = n.toList then some (o, n) else (roadbookref11_Put.f k 0 0 ((rd_T34 x0 x).f9) (⟨#[]⟩ : ByteArray) (⟨#[]⟩ : ByteArray) 255).bind fun hv => (if o.size + hv.1.size ≤ 9223372036854775807 then some (o ++ hv.1, ((rd_T34 x0 x).f9)) else none)
def roadbookref12_Encode.lb : Nat → List S34 → ByteArray → ByteArray → Int → Option (ByteArray × Int × Int)
 | 0, _, _, _, _ => none
 | k + 1, x0, o, n, x => if x < (x0.length : Int) then (if 0 ≤ x then (if 0 < (x0.length : Int) then (if ((rd_T34 x0 x).f1) = ((rd_T34 x0 0).f1) then (roadbookref12_Encode.s k x0 o n x).bind fun s => ((roadbookref11_Put.f k ((rd_T34 x0 x).f7) ((rd_T34 x0 x).f8) ((rd_T34 x0 x).f6) (⟨#[]⟩ : ByteArray) (⟨#[]⟩ : ByteArray) ((rd_T34 x0 x).f10)).bind fun v => (if s.1.size + v.1.size ≤ 9223372036854775807 then (if ((s.1 ++ v.1).size : Int) > 65535 then some ((⟨#[]⟩ : ByteArray), x, 10) else roadbookref12_Encode.lb k x0 (s.1 ++ v.1) s.2 (wrap64 (x + 1))) else none)) else some ((⟨#[]⟩ : ByteArray), x, 7)) else none) else none) else some (o, 0, 0)
def roadbookref12_Encode.la : Nat → List S34 → Int → Option (ByteArray × Int × Int)
 | 0, _, _ => none
 | k + 1, x0, x => if x < (x0.length : Int) then (if 0 ≤ x then ((roadbookref12_Right.f k ((rd_T34 x0 x).f0) ((rd_T34 x0 x).f1) ((rd_T34 x0 x).f2) ((rd_T34 x0 x).f3) ((rd_T34 x0 x).f4) ((rd_T34 x0 x).f5) ((rd_T34 x0 x).f6) ((rd_T34 x0 x).f7) ((rd_T34 x0 x).f8) ((rd_T34 x0 x).f9) ((rd_T34 x0 x).f10) ((rd_T34 x0 x).f11) ((rd_T34 x0 x).f12) ((rd_T34 x0 x).f13) ((rd_T34 x0 x).f14) ((rd_T34 x0 x).f15) ((rd_T34 x0 x).f16) ((rd_T34 x0 x).f17) ((rd_T34 x0 x).f18) ((rd_T34 x0 x).f19) ((rd_T34 x0 x).f20) ((rd_T34 x0 x).f21) ((rd_T34 x0 x).f22) ((rd_T34 x0 x).f23) ((rd_T34 x0 x).f24)).bind fun t => (if t = true then roadbookref12_Encode.la k x0 (wrap64 (x + 1)) else some ((⟨#[]⟩ : ByteArray), x, 1))) else none) else (if (x0.length : Int) = 0 then some ((⟨#[]⟩ : ByteArray), 0, 8) else (if 0 < (x0.length : Int) then ((roadbookref02_Of.f k ((rd_T34 x0 0).f1) 1).bind fun h => (if h.size + 3 ≤ 9223372036854775807 then ((roadbookref12_none.f).bind fun z => roadbookref12_Encode.lb k x0 (h ++ (⟨#[1, 0, 0]⟩ : ByteArray)) z 0) else none)) else none))
def roadbookref12_Encode.f (k : Nat) (l0 : List S34) : Option (ByteArray × Int × Int) := roadbookref12_Encode.la k l0 0
theorem roadbookref12_Encode.mono_s : ∀ a0 a1 a2 a3 k, LeO (roadbookref12_Encode.s k a0 a1 a2 a3) (roadbookref12_Encode.s (k + 1) a0 a1 a2 a3) := by
 intros
 unfold roadbookref12_Encode.s
 have m0 := roadbookref11_Put.mono
 exact Sq.mo
theorem roadbookref12_Encode.mono_b : ∀ k, (∀ y0 y1 y2 y3, LeO (roadbookref12_Encode.lb k y0 y1 y2 y3) (roadbookref12_Encode.lb (k + 1) y0 y1 y2 y3))
 | 0 => Sq.mz
 | k + 1 => by
  have ih0 := roadbookref12_Encode.mono_b k
  intros
  unfold roadbookref12_Encode.lb
  have m0 := roadbookref11_Put.mono
  have m1 := roadbookref12_Encode.mono_s
  exact Sq.mo
theorem roadbookref12_Encode.mono_a : ∀ k, (∀ y0 y1, LeO (roadbookref12_Encode.la k y0 y1) (roadbookref12_Encode.la (k + 1) y0 y1))
 | 0 => Sq.mz
 | k + 1 => by
  have ih0 := roadbookref12_Encode.mono_a k
  have ih1 := roadbookref12_Encode.mono_b k
  intros
  unfold roadbookref12_Encode.la
  have m0 := roadbookref02_Of.mono
  have m1 := roadbookref12_Right.mono
  exact Sq.mo
theorem roadbookref12_Encode.mono : ∀ a0 k, LeO (roadbookref12_Encode.f k a0) (roadbookref12_Encode.f (k + 1) a0) := by
 intro a0 k
 exact roadbookref12_Encode.mono_a k a0 0
def roadbookref12_Encode.T13 : Bool × List (List Nat × List Nat) := (true, [([], []), ([], []), ([0, 1], [0, 1]), ([2], [2]), ([3], [3]), ([], []), ([5], [5]), ([6], [6]), ([7], [7]), ([4, 8], [4, 8])])
def roadbookref12_Encode.B13 : List Nat := [0, 0, 3, 7, 15, 0, 32, 96, 224, 511]
theorem roadbookref12_Encode.tab13 : rtab .any (opsOf Try.f15 13) = roadbookref12_Encode.T13 := by kernel_rfl
theorem roadbookref12_Encode.bits13 : waitsOk roadbookref12_Encode.T13.2 roadbookref12_Encode.B13 = true := by kernel_rfl
def roadbookref12_Encode.T19 : Bool × List (List Nat × List Nat) := (true, [([], []), ([], []), ([0, 1], [0, 1]), ([2], [2]), ([3], [3]), ([], []), ([], []), ([5, 6], [5, 6]), ([7], [7]), ([8], [8]), ([], []), ([], []), ([10, 11], [10, 11]), ([12], [12]), ([13], [13]), ([], []), ([], []), ([15, 16], [15, 16]), ([17], [17]), ([18], [18]), ([4, 9, 14, 19], [4, 9, 14, 19]), ([20], [20]), ([21], [21]), ([22], [22]), ([22], [22]), ([23, 21, 0, 1, 2, 3, 4, 5, 6, 7, 8, 9, 10, 11, 12, 13, 14, 15, 16, 17, 18, 19, 20, 21, 22, 23], [23]), ([24, 25, 0, 1, 2, 3, 4, 5, 6, 7, 8, 9, 10, 11, 12, 13, 14, 15, 16, 17, 18, 19, 20, 21, 22, 23, 24, 25], [24])])
def roadbookref12_Encode.B19 : List Nat := [0, 0, 3, 7, 15, 0, 0, 96, 224, 480, 0, 0, 3072, 7168, 15360, 0, 0, 98304, 229376, 491520, 1048575, 2097151, 4194303, 8388607, 8388607, 16777215, 67108863]
theorem roadbookref12_Encode.tab19 : rtab .any (opsOf Try.f15 19) = roadbookref12_Encode.T19 := by kernel_rfl
theorem roadbookref12_Encode.bits19 : waitsOk roadbookref12_Encode.T19.2 roadbookref12_Encode.B19 = true := by kernel_rfl
set_option maxHeartbeats 8000000 in
set_option maxRecDepth 100000 in
theorem roadbookref12_Encode.calls (k : Nat) (A0 : Option Addr) (c0 : Nat) (l0 : List S34) (r1 : ByteArray) (r2 : Int) (r3 : Int) (w : World) (fO : Kd.C k34 w A0 l0.length l0) (dY : l0.length ≤ c0) (h : roadbookref12_Encode.f k l0 = some (r1, r2, r3)) :
  Calls Try.prog 15 #[.slice A0 l0.length c0] w fun e w' => e = .returned (.tuple #[.string r1, .int .i64 r2, .int .i64 r3]) ∧ Below w.heap.size w w' := by
 have fu := Try.underlying34
 have fW := Try.underlying47
 have fR := Aside0.mk fO
 have jD := Aside0.mk dY
 have HB := Aside0.mk (Below.refl w.heap.size w)
 have HL := Aside0.mk (show roadbookref12_Encode.la k l0 0 = some (r1, r2, r3) from h)
 clear fO dY h
 go_enter Try.func15, Try.ntmps15
 go_wp2
 go_loopg [5] k (fun kq v5 w' => ∃ (x : Int), v5 = .int .i64 x ∧ Aside0 (roadbookref12_Encode.la kq l0 x = some (r1, r2, r3)) ∧ Aside0 (kq ≤ k) ∧ Aside0 (Below w.heap.size w w'))
 case atStart => exact ⟨0, rfl, HL, ⟨Nat.le_refl _⟩, ⟨Z0⟩⟩
 case round =>
  clear HL
  obtain ⟨x, rfl, HA, HK1, HB⟩ := hrel
  cases gk with
  | zero => exact absurd HA.out (by simp [roadbookref12_Encode.la])
  | succ k1 =>
   have H := HA.out
   clear HA
   simp only [roadbookref12_Encode.la] at H
   by_cases c1 : x < (l0.length : Int)
   ·rw [if_pos c1] at H
    have f1 : decide (x < (l0.length : Int)) = true := decide_eq_true c1
    by_cases c2 : 0 ≤ x
    ·rw [if_pos c2] at H
     have f2 : decide (0 ≤ x) = true := decide_eq_true c2
     have p : 0 ≤ (x : Int) := c2
     have q : x < (l0.length : Int) := c1
     obtain ⟨t, g1, H1⟩ := Option.bind_eq_some_iff.mp H
     have A1 := Aside0.mk g1
     clear H g1 c1 c2
     obtain ⟨ad, db, dc, dd, cT, ea, hx0, hx1, hx2, hx3, hx4, hx5, hx6, hx7, hx8, hx9, hx10, hx11, hx12, hx13, hx14, hx15, hx16, hx17, hx18, hx19, hx20, hx21, hx22, hx23, hx24, hl21, hi21, hl24, hi24⟩ := at_T34 fR.out x p q
     cases ea
     replace hx0 := Sq.up HB.out hx0
     replace hx1 := Sq.up HB.out hx1
     replace hx2 := Sq.up HB.out hx2
     replace hx3 := Sq.up HB.out hx3
     replace hx4 := Sq.up HB.out hx4
     replace hx5 := Sq.up HB.out hx5
     replace hx6 := Sq.up HB.out hx6
     replace hx7 := Sq.up HB.out hx7
     replace hx8 := Sq.up HB.out hx8
     replace hx9 := Sq.up HB.out hx9
     replace hx10 := Sq.up HB.out hx10
     replace hx11 := Sq.up HB.out hx11
     replace hx12 := Sq.up HB.out hx12
     replace hx13 := Sq.up HB.out hx13
     replace hx14 := Sq.up HB.out hx14
     replace hx15 := Sq.up HB.out hx15
     replace hx16 := Sq.up HB.out hx16
     replace hx17 := Sq.up HB.out hx17
     replace hx18 := Sq.up HB.out hx18
     replace hx19 := Sq.up HB.out hx19
     replace hx20 := Sq.up HB.out hx20
     replace hx21 := Sq.up HB.out hx21
     replace hx22 := Sq.up HB.out hx22
     replace hx23 := Sq.up HB.out hx23
     replace hx24 := Sq.up HB.out hx24
     have HR21 := Aside0.mk hi21
     have HC21 := Aside0.mk hl21
     have HR24 := Aside0.mk hi24
     have he := Aside0.mk hl24
     clear hi21 hl21 hi24 hl24
     replace p := eq_true p
     replace q := eq_true q
     cases t
     ·replace H1 := (if_neg Bool.false_ne_true).symm.trans H1
      simp only [Option.some.injEq, Prod.mk.injEq] at H1
      obtain ⟨rfl, rfl, rfl⟩ := H1
      go_wp2_with (first | ((with_reducible refine Pre.gate_load 34 rfl ?_); (try (refine gate_guard Z27 ?_; dsimp only)); refine Pre.load_event_a rfl rfl rfl Z27 Pre.range25 Try.underlying34 rfl Z16 ?_) | ((with_reducible refine gate_callee (f := 13) rfl ?_); refine goesL_ (some 23) rfl rfl Try.func13 Z16 rfl #[.agg #[.int .i64 ((rd_T34 l0 x).f0), .int .i64 ((rd_T34 l0 x).f1), .int .i64 ((rd_T34 l0 x).f2), .string ((rd_T34 l0 x).f3), .int .i64 ((rd_T34 l0 x).f4), .int .i64 ((rd_T34 l0 x).f5), .string ((rd_T34 l0 x).f6), .int .i64 ((rd_T34 l0 x).f7), .int .i64 ((rd_T34 l0 x).f8), .string ((rd_T34 l0 x).f9), .int .i64 ((rd_T34 l0 x).f10), .string ((rd_T34 l0 x).f11), .int .i64 ((rd_T34 l0 x).f12), .int .i64 ((rd_T34 l0 x).f13), .int .i64 ((rd_T34 l0 x).f14), .int .i64 ((rd_T34 l0 x).f15), .int .i64 ((rd_T34 l0 x).f16), .int .i64 ((rd_T34 l0 x).f17), .int .i64 ((rd_T34 l0 x).f18), .string ((rd_T34 l0 x).f19), .string ((rd_T34 l0 x).f20), .slice db ((rd_T34 l0 x).f21).length dc, .int .i64 ((rd_T34 l0 x).f22), .string ((rd_T34 l0 x).f23), .slice dd ((rd_T34 l0 x).f24).length cT]] rfl Z4 ?_; (with_reducible refine (roadbookref12_Right.calls k1 ((rd_T34 l0 x).f0) ((rd_T34 l0 x).f1) ((rd_T34 l0 x).f2) ((rd_T34 l0 x).f3) ((rd_T34 l0 x).f4) ((rd_T34 l0 x).f5) ((rd_T34 l0 x).f6) ((rd_T34 l0 x).f7) ((rd_T34 l0 x).f8) ((rd_T34 l0 x).f9) ((rd_T34 l0 x).f10) ((rd_T34 l0 x).f11) ((rd_T34 l0 x).f12) ((rd_T34 l0 x).f13) ((rd_T34 l0 x).f14) ((rd_T34 l0 x).f15) ((rd_T34 l0 x).f16) ((rd_T34 l0 x).f17) ((rd_T34 l0 x).f18) ((rd_T34 l0 x).f19) ((rd_T34 l0 x).f20) _ _ ((rd_T34 l0 x).f21) ((rd_T34 l0 x).f22) ((rd_T34 l0 x).f23) _ _ ((rd_T34 l0 x).f24) false _ ?side1 ?side2 ?side3 ?side4 A1.out).mono ?_); (case side1 => exact (Kd.C_below HR21.out HB.out)); (case side2 => exact HC21.out); (case side3 => exact (Kd.C_below HR24.out HB.out)); (case side4 => exact he.out); rintro e w6 ⟨rfl, hb⟩; refine ⟨_, rfl, ?_⟩; replace HB := Aside0.mk (below_step HB.out hb); clear hb))
      go_ret3
      exact ⟨rfl, Z0⟩
     ·replace H1 := (if_pos rfl).symm.trans H1
      have H' := Aside0.mk H1
      clear H1
      go_wp2_with (first | ((with_reducible refine Pre.gate_load 34 rfl ?_); (try (refine gate_guard Z27 ?_; dsimp only)); refine Pre.load_event_a rfl rfl rfl Z27 Pre.range25 Try.underlying34 rfl Z16 ?_) | ((with_reducible refine gate_callee (f := 13) rfl ?_); refine goesL_ (some 23) rfl rfl Try.func13 Z16 rfl #[.agg #[.int .i64 ((rd_T34 l0 x).f0), .int .i64 ((rd_T34 l0 x).f1), .int .i64 ((rd_T34 l0 x).f2), .string ((rd_T34 l0 x).f3), .int .i64 ((rd_T34 l0 x).f4), .int .i64 ((rd_T34 l0 x).f5), .string ((rd_T34 l0 x).f6), .int .i64 ((rd_T34 l0 x).f7), .int .i64 ((rd_T34 l0 x).f8), .string ((rd_T34 l0 x).f9), .int .i64 ((rd_T34 l0 x).f10), .string ((rd_T34 l0 x).f11), .int .i64 ((rd_T34 l0 x).f12), .int .i64 ((rd_T34 l0 x).f13), .int .i64 ((rd_T34 l0 x).f14), .int .i64 ((rd_T34 l0 x).f15), .int .i64 ((rd_T34 l0 x).f16), .int .i64 ((rd_T34 l0 x).f17), .int .i64 ((rd_T34 l0 x).f18), .string ((rd_T34 l0 x).f19), .string ((rd_T34 l0 x).f20), .slice db ((rd_T34 l0 x).f21).length dc, .int .i64 ((rd_T34 l0 x).f22), .string ((rd_T34 l0 x).f23), .slice dd ((rd_T34 l0 x).f24).length cT]] rfl Z4 ?_; (with_reducible refine (roadbookref12_Right.calls k1 ((rd_T34 l0 x).f0) ((rd_T34 l0 x).f1) ((rd_T34 l0 x).f2) ((rd_T34 l0 x).f3) ((rd_T34 l0 x).f4) ((rd_T34 l0 x).f5) ((rd_T34 l0 x).f6) ((rd_T34 l0 x).f7) ((rd_T34 l0 x).f8) ((rd_T34 l0 x).f9) ((rd_T34 l0 x).f10) ((rd_T34 l0 x).f11) ((rd_T34 l0 x).f12) ((rd_T34 l0 x).f13) ((rd_T34 l0 x).f14) ((rd_T34 l0 x).f15) ((rd_T34 l0 x).f16) ((rd_T34 l0 x).f17) ((rd_T34 l0 x).f18) ((rd_T34 l0 x).f19) ((rd_T34 l0 x).f20) _ _ ((rd_T34 l0 x).f21) ((rd_T34 l0 x).f22) ((rd_T34 l0 x).f23) _ _ ((rd_T34 l0 x).f24) true _ ?side1 ?side2 ?side3 ?side4 A1.out).mono ?_); (case side1 => exact (Kd.C_below HR21.out HB.out)); (case side2 => exact HC21.out); (case side3 => exact (Kd.C_below HR24.out HB.out)); (case side4 => exact he.out); rintro e w6 ⟨rfl, hb⟩; refine ⟨_, rfl, ?_⟩; replace HB := Aside0.mk (below_step HB.out hb); clear hb))
      go_roundg k1
      case measure => have := HK1.out; omega
      case rel => exact ⟨wrap64 (x + 1), Z7, H', ⟨by have := HK1.out; omega⟩, ⟨Z0⟩⟩
    ·rw [if_neg c2] at H; exact absurd H Z36
   ·rw [if_neg c1] at H
    have f1 : decide (x < (l0.length : Int)) = false := decide_eq_false c1
    clear c1
    by_cases c2 : (l0.length : Int) = 0
    ·rw [if_pos c2] at H
     have d0 : ((l0.length : Int) == 0) = true := beq_iff_eq.mpr c2
     clear c2
     simp only [Option.some.injEq, Prod.mk.injEq] at H
     obtain ⟨rfl, rfl, rfl⟩ := H
     go_wp2
     go_ret3
     exact ⟨rfl, Z0⟩
    rw [if_neg c2] at H
    have d0 : ((l0.length : Int) == 0) = false := beq_eq_false_iff_ne.mpr c2
    have c3 : 0 < (l0.length : Int) := by omega
    rw [if_pos c3] at H
    have qk : decide (0 < (l0.length : Int)) = true := decide_eq_true c3
    have ql : decide (0 < l0.length) = true := decide_eq_true Z25
    obtain ⟨h, g1, H1⟩ := Option.bind_eq_some_iff.mp H
    have A1 := Aside0.mk g1
    clear H g1
    have ch : h.size + 3 ≤ 9223372036854775807 := by
     by_cases ch : h.size + 3 ≤ 9223372036854775807
     ·exact ch
     ·rw [if_neg ch] at H1; exact absurd H1 Z36
    rw [if_pos ch] at H1
    have g0 := eq_true ch
    have gd : decide (h.size + 3 ≤ 9223372036854775807) = true := decide_eq_true ch
    have gf : (9223372036854775807 < h.size + 3) = False := eq_false (Nat.not_lt.2 ch)
    obtain ⟨z, g2, H2⟩ := Option.bind_eq_some_iff.mp H1
    have A2 := Aside0.mk g2
    have H' := Aside0.mk H2
    clear H1 H2 g2 ch
    have p : 0 ≤ (0 : Int) := by omega
    obtain ⟨ad, _, _, _, _, ea, _, h01, _⟩ := at_T34 fR.out 0 p c3
    cases ea
    rw [show ((0 : Int)).toNat = 0 from rfl, show 0 * 25 = 0 from rfl, Addr.add_zero'] at h01
    have H01 := Aside0.mk h01
    replace h01 := Sq.up HB.out h01
    have qi : (0 < l0.length) = True := eq_true Z25
    have qj : (0 < (l0.length : Int)) = True := eq_true c3
    clear c2 p
    go_wp2_with (first | ((with_reducible refine gate_callee (f := 33) rfl ?_); refine goesL_ (some 33) rfl rfl Try.func33 Z16 rfl #[.int .i64 ((rd_T34 l0 0).f1), .int .i64 1] rfl Z4 ?_; (with_reducible refine (roadbookref02_Of.calls k1 ((rd_T34 l0 0).f1) 1 h _ A1.out).mono ?_); rintro e fX ⟨rfl, hb⟩; refine ⟨_, rfl, ?_⟩; replace HB := Aside0.mk (below_step HB.out hb); clear hb) | ((with_reducible refine gate_callee (f := 21) rfl ?_); refine goesL_ (some 35) rfl rfl Try.func21 Z16 rfl #[] rfl Z4 ?_; (with_reducible refine (roadbookref12_none.calls z _ A2.out).mono ?_); rintro e w14 ⟨rfl, hb⟩; refine ⟨_, rfl, ?_⟩; replace HB := Aside0.mk (below_step HB.out hb); clear hb))
    go_loopg [6, 7, 8] k1 (fun kq v6 v7 v8 w' => ∃ (o n : ByteArray) (x : Int), v6 = .string o ∧ v7 = .string n ∧ v8 = .int .i64 x ∧ Aside0 (roadbookref12_Encode.lb kq l0 o n x = some (r1, r2, r3)) ∧ Aside0 (kq ≤ k1) ∧ Aside0 (Below w.heap.size w w'))
    case atStart => exact ⟨h ++ (⟨#[1, 0, 0]⟩ : ByteArray), z, 0, Z7, Z7, Z7, H', ⟨Nat.le_refl _⟩, ⟨Z0⟩⟩
    case round =>
     clear H' A1 A2 g0 gd gf f1 d0 h01 HB HK1
     obtain ⟨o, n, x, rfl, rfl, rfl, HA, HK2, HB⟩ := hrel
     cases gk with
     | zero => exact absurd HA.out (by simp [roadbookref12_Encode.lb])
     | succ k2 =>
      have H := HA.out
      clear HA
      simp only [roadbookref12_Encode.lb] at H
      by_cases c1 : x < (l0.length : Int)
      rotate_left
      ·rw [if_neg c1] at H
       have f1 : decide (x < (l0.length : Int)) = false := decide_eq_false c1
       clear c1
       simp only [Option.some.injEq, Prod.mk.injEq] at H
       obtain ⟨rfl, rfl, rfl⟩ := H
       go_wp2
       go_ret3
       exact ⟨rfl, Z0⟩
      rw [if_pos c1] at H
      have f1 : decide (x < (l0.length : Int)) = true := decide_eq_true c1
      by_cases c2 : 0 ≤ x
      rotate_left
      ·rw [if_neg c2] at H; exact absurd H Z36
      rw [if_pos c2, if_pos c3] at H
      have f2 : decide (0 ≤ x) = true := decide_eq_true c2
      have HA := Aside0.mk H
      clear H
      obtain ⟨ad2, _, _, _, _, ea, _, h1, _, _, _, _, h6, h7, h8, h9, h10, _⟩ := at_T34 fR.out x c2 c1
      obtain rfl : ad = ad2 := (by injection ea)
      have H1 := Aside0.mk h1
      have H6 := Aside0.mk h6
      have H7 := Aside0.mk h7
      have H8 := Aside0.mk h8
      have H9 := Aside0.mk h9
      have H10 := Aside0.mk h10
      clear h1 h6 h7 h8 h9 h10 ea
      have p : (0 ≤ x) = True := eq_true c2
      have q : (x < (l0.length : Int)) = True := eq_true c1
      clear c1 c2
      go_upto_region 13 with (first | (fail))
      (try simp only [Act.put, Sq.s1, Sq.s2, Sq.s3])
      replace HB := Aside0.mk (below_drew1 HB.out)
      refine start_ (n := 10) (S := fun w' => w'.cell? ⟨(ad.add (x.toNat * 25)).block, (ad.add (x.toNat * 25)).off + 1, none⟩ = some (.int .i64 (rd_T34 l0 x).f1) ∧ w'.cell? ⟨ad.block, ad.off + 1, none⟩ = some (.int .i64 (rd_T34 l0 0).f1)) (ds := []) (Sq.b 10 0) Z16 rfl rfl ⟨Sq.up HB.out H1.out, Sq.up HB.out H01.out⟩ (fun hHeld => ?_)
      refine with_tabW roadbookref12_Encode.tab13 roadbookref12_Encode.bits13 (fun HT_ HW_ => ?_)
      generalize World.drew _ = w3 at HB hHeld ⊢
      refine Sq.pur 0 (some 42) (Sq.b 10 1) HT_.out ?_
      refine Sq.pur 1 (some 43) (Sq.b 10 3) HT_.out ?_
      refine Sq.pur 2 (some 44) (Sq.b 10 7) HT_.out ?_
      refine Sq.pur 3 (some 45) (Sq.b 10 15) HT_.out ?_
      refine Sq.pur 5 (some 47) (Sq.b 10 47) HT_.out ?_
      refine Sq.pur 6 (some 48) (Sq.b 10 111) HT_.out ?_
      refine Sq.pur 7 (some 49) (Sq.b 10 239) HT_.out ?_
      refine Sq.tak 4 (some 46) (Sq.b 10 255) HT_.out HW_.out hHeld (v := ?_) (a' := ?_) ?_ ?_ ?_
      rotate_left
      ·rintro w' ⟨s0, s1⟩
       (go_simp; with_reducible rfl)
      rotate_left
      ·simp only [Act.put, Sq.s1, Sq.s2, Sq.s3, i64_w, i32_w]
       rfl
      refine Sq.tak 8 (some 50) (Sq.b 10 511) HT_.out HW_.out hHeld (v := ?_) (a' := ?_) ?_ ?_ ?_
      rotate_left
      ·rintro w' ⟨s0, s1⟩
       (go_simp; with_reducible rfl)
      rotate_left
      ·simp only [Act.put, Sq.s1, Sq.s2, Sq.s3, i64_w, i32_w]
       rfl
      have H := HA.out
      clear HA
      by_cases c : (rd_T34 l0 x).f1 = (rd_T34 l0 0).f1
      rotate_left
      ·rw [if_neg c] at H
       have f3 : ((rd_T34 l0 x).f1 == (rd_T34 l0 0).f1) = false := beq_eq_false_iff_ne.mpr c
       have f4 : ((rd_T34 l0 x).f1 != (rd_T34 l0 0).f1) = true := bne_iff_ne.mpr c
       clear c
       simp only [Option.some.injEq, Prod.mk.injEq] at H
       obtain ⟨rfl, rfl, rfl⟩ := H
       refine Sq.pur 9 (some 51) (Sq.b 10 1023) HT_.out ?_
       refine done_ (done_of HT_.out Z16) ?_
       go_wp2
       go_ret3
       exact ⟨rfl, Z0⟩
      rw [if_pos c] at H
      have f3 : ((rd_T34 l0 x).f1 == (rd_T34 l0 0).f1) = true := beq_iff_eq.mpr c
      have f4 : ((rd_T34 l0 x).f1 != (rd_T34 l0 0).f1) = false := bne_eq_false_iff_eq.mpr c
      clear c
      obtain ⟨⟨o2, n2⟩, g1, H⟩ := Option.bind_eq_some_iff.mp H
      dsimp only at H
      have HS := Aside0.mk g1
      have HA := Aside0.mk H
      clear g1 H
      refine Sq.pur 9 (some 51) (Sq.b 10 1023) HT_.out ?_
      refine done_ (done_of HT_.out Z16) ?_
      clear hHeld HT_ HW_
      have h9 := Sq.up HB.out H9.out
      go_upto_if 59 with (first | (fail))
      go_cut [6, 7] (fun v6 v7 wc => v6 = .string o2 ∧ v7 = .string n2 ∧ Aside0 (Below w.heap.size w wc))
      case first =>
       have g1 := HS.out
       clear HS
       unfold roadbookref12_Encode.s at g1
       by_cases c : ((rd_T34 l0 x).f9).toList = n.toList
       ·rw [if_pos c] at g1
        have f5 : (((rd_T34 l0 x).f9).toList == n.toList) = true := beq_iff_eq.mpr c
        have f6 : (((rd_T34 l0 x).f9).toList != n.toList) = false := bne_eq_false_iff_eq.mpr c
        clear c
        simp only [Option.some.injEq, Prod.mk.injEq] at g1
        obtain ⟨rfl, rfl⟩ := g1
        rw [f5, Bool.not_true]
        go_wp2
        go_meet
        case rel => exact ⟨rfl, rfl, ⟨Z0⟩⟩
       ·rw [if_neg c] at g1
        have f5 : (((rd_T34 l0 x).f9).toList == n.toList) = false := beq_eq_false_iff_ne.mpr c
        have f6 : (((rd_T34 l0 x).f9).toList != n.toList) = true := bne_iff_ne.mpr c
        obtain ⟨⟨e1, e2⟩, g2, g3⟩ := Option.bind_eq_some_iff.mp g1
        dsimp only at g3
        have A1 := Aside0.mk g2
        clear g1 g2 c
        by_cases ch : o.size + e1.size ≤ 9223372036854775807
        ·rw [if_pos ch] at g3
         have g0 := eq_true ch
         have gd : decide (o.size + e1.size ≤ 9223372036854775807) = true := decide_eq_true ch
         have gf : (9223372036854775807 < o.size + e1.size) = False := eq_false (Nat.not_lt.2 ch)
         clear ch
         simp only [Option.some.injEq, Prod.mk.injEq] at g3
         obtain ⟨rfl, rfl⟩ := g3
         rw [f5, Bool.not_false]
         go_wp2_with (first | ((with_reducible refine gate_callee (f := 34) rfl ?_); refine goesL_ (some 68) rfl rfl Try.func34 Z16 rfl #[.agg #[.int .i64 0, .int .i64 0, .string ((rd_T34 l0 x).f9), .string ⟨#[]⟩, .string ⟨#[]⟩, .int .i64 255]] rfl Z4 ?_; (with_reducible refine (roadbookref11_Put.calls k2 0 0 ((rd_T34 l0 x).f9) (⟨#[]⟩ : ByteArray) (⟨#[]⟩ : ByteArray) 255 e1 e2 _ A1.out).mono ?_); rintro e w4 ⟨rfl, hb⟩; refine ⟨_, rfl, ?_⟩; replace HB := Aside0.mk (below_step HB.out hb); clear hb))
         go_meet
         case rel => exact ⟨rfl, rfl, ⟨Z0⟩⟩
        ·rw [if_neg ch] at g3; exact absurd g3 Z36
      case rest =>
       clear HS HB h9
       obtain ⟨rfl, rfl, HB⟩ := hcut
       obtain ⟨⟨e1, e2⟩, g2, H⟩ := Option.bind_eq_some_iff.mp HA.out
       dsimp only at H
       have A1 := Aside0.mk g2
       clear HA g2
       by_cases ch : o2.size + e1.size ≤ 9223372036854775807
       rotate_left
       ·rw [if_neg ch] at H; exact absurd H Z36
       rw [if_pos ch] at H
       have HA := Aside0.mk H
       clear H
       have g0 := eq_true ch
       have gd : decide (o2.size + e1.size ≤ 9223372036854775807) = true := decide_eq_true ch
       have gf : (9223372036854775807 < o2.size + e1.size) = False := eq_false (Nat.not_lt.2 ch)
       clear ch
       go_upto_region 19 with (first | (fail))
       (try simp only [Act.put, Sq.s1, Sq.s2, Sq.s3])
       replace HB := Aside0.mk (below_drew1 HB.out)
       refine start_ (n := 27) (S := fun w' => w'.cell? ⟨(ad.add (x.toNat * 25)).block, (ad.add (x.toNat * 25)).off + 6, none⟩ = some (.string (rd_T34 l0 x).f6) ∧ w'.cell? ⟨(ad.add (x.toNat * 25)).block, (ad.add (x.toNat * 25)).off + 8, none⟩ = some (.int .i64 (rd_T34 l0 x).f8) ∧ w'.cell? ⟨(ad.add (x.toNat * 25)).block, (ad.add (x.toNat * 25)).off + 7, none⟩ = some (.int .i64 (rd_T34 l0 x).f7) ∧ w'.cell? ⟨(ad.add (x.toNat * 25)).block, (ad.add (x.toNat * 25)).off + 10, none⟩ = some (.int .i64 (rd_T34 l0 x).f10)) (ds := []) (Sq.b 27 0) Z16 rfl rfl ⟨Sq.up HB.out H6.out, Sq.up HB.out H8.out, Sq.up HB.out H7.out, Sq.up HB.out H10.out⟩ (fun hHeld => ?_)
       refine with_tabW roadbookref12_Encode.tab19 roadbookref12_Encode.bits19 (fun HT_ HW_ => ?_)
       generalize World.drew _ = w5 at HB hHeld ⊢
       refine Sq.pur 0 (some 75) (Sq.b 27 1) HT_.out ?_
       refine Sq.pur 1 (some 76) (Sq.b 27 3) HT_.out ?_
       refine Sq.pur 2 (some 77) (Sq.b 27 7) HT_.out ?_
       refine Sq.pur 3 (some 78) (Sq.b 27 15) HT_.out ?_
       refine Sq.pur 5 (some 80) (Sq.b 27 47) HT_.out ?_
       refine Sq.pur 6 (some 81) (Sq.b 27 111) HT_.out ?_
       refine Sq.pur 7 (some 82) (Sq.b 27 239) HT_.out ?_
       refine Sq.pur 8 (some 83) (Sq.b 27 495) HT_.out ?_
       refine Sq.pur 10 (some 85) (Sq.b 27 1519) HT_.out ?_
       refine Sq.pur 11 (some 86) (Sq.b 27 3567) HT_.out ?_
       refine Sq.pur 12 (some 87) (Sq.b 27 7663) HT_.out ?_
       refine Sq.pur 13 (some 88) (Sq.b 27 15855) HT_.out ?_
       refine Sq.pur 15 (some 90) (Sq.b 27 48623) HT_.out ?_
       refine Sq.pur 16 (some 91) (Sq.b 27 114159) HT_.out ?_
       refine Sq.pur 17 (some 92) (Sq.b 27 245231) HT_.out ?_
       refine Sq.pur 18 (some 93) (Sq.b 27 507375) HT_.out ?_
       refine Sq.tak 4 (some 79) (Sq.b 27 507391) HT_.out HW_.out hHeld (v := ?_) (a' := ?_) ?_ ?_ ?_
       rotate_left
       ·rintro w' ⟨s0, s1, s2, s3⟩
        (go_simp; with_reducible rfl)
       rotate_left
       ·simp only [Act.put, Sq.s1, Sq.s2, Sq.s3, i64_w, i32_w]
        rfl
       refine Sq.tak 9 (some 84) (Sq.b 27 507903) HT_.out HW_.out hHeld (v := ?_) (a' := ?_) ?_ ?_ ?_
       rotate_left
       ·rintro w' ⟨s0, s1, s2, s3⟩
        (go_simp; with_reducible rfl)
       rotate_left
       ·simp only [Act.put, Sq.s1, Sq.s2, Sq.s3, i64_w, i32_w]
        rfl
       refine Sq.tak 14 (some 89) (Sq.b 27 524287) HT_.out HW_.out hHeld (v := ?_) (a' := ?_) ?_ ?_ ?_
       rotate_left
       ·rintro w' ⟨s0, s1, s2, s3⟩
        (go_simp; with_reducible rfl)
       rotate_left
       ·simp only [Act.put, Sq.s1, Sq.s2, Sq.s3, i64_w, i32_w]
        rfl
       refine Sq.tak 19 (some 94) (Sq.b 27 1048575) HT_.out HW_.out hHeld (v := ?_) (a' := ?_) ?_ ?_ ?_
       rotate_left
       ·rintro w' ⟨s0, s1, s2, s3⟩
        (go_simp; with_reducible rfl)
       rotate_left
       ·simp only [Act.put, Sq.s1, Sq.s2, Sq.s3, i64_w, i32_w]
        rfl
       refine Sq.pur 20 (some 95) (Sq.b 27 2097151) HT_.out ?_
       refine one_ (i := 21) (N := some 96) (Sq.b 27 4194303) rfl rfl (one_of HT_.out Z16) Z18 (fun K hK => ?_)
       refine goes_ Try.func34 Z16 rfl #[.agg #[.int .i64 ((rd_T34 l0 x).f7), .int .i64 ((rd_T34 l0 x).f8), .string ((rd_T34 l0 x).f6), .string ⟨#[]⟩, .string ⟨#[]⟩, .int .i64 ((rd_T34 l0 x).f10)]] Z27 rfl rfl Z4 ?_
       with_reducible refine (roadbookref11_Put.calls k2 ((rd_T34 l0 x).f7) ((rd_T34 l0 x).f8) ((rd_T34 l0 x).f6) (⟨#[]⟩ : ByteArray) (⟨#[]⟩ : ByteArray) ((rd_T34 l0 x).f10) e1 e2 _ A1.out).mono ?_
       rintro e w6 ⟨rfl, hb⟩
       refine ⟨_, rfl, ?_⟩
       replace HB := Aside0.mk (below_step HB.out hb)
       clear hb
       refine hK.out _ _ ⟨Sq.up HB.out H6.out, Sq.up HB.out H8.out, Sq.up HB.out H7.out, Sq.up HB.out H10.out⟩ (fun hHeld => ?_)
       clear hK K
       refine norm_ (a' := ?_) ?_ ?_
       rotate_left
       ·show Act.put _ (some 96) _ = _
        simp only [Act.put, Sq.s1, Sq.s2, Sq.s3, i64_w, i32_w]
        rfl
       refine Sq.pur 22 (some 74) (Sq.b 27 8388607) HT_.out ?_
       refine Sq.pur 23 (some 97) (Sq.b 27 16777215) HT_.out ?_
       refine Sq.pur 24 (some 98) (Sq.b 27 33554431) HT_.out ?_
       refine Sq.pur 25 (some 11) (Sq.b 27 67108863) HT_.out ?_
       refine Sq.pur 26 (some 12) (Sq.b 27 134217727) HT_.out ?_
       refine done_ (done_of HT_.out Z16) ?_
       clear hHeld HT_ HW_
       have H := HA.out
       clear HA
       by_cases c : ((o2 ++ e1).size : Int) > 65535
       ·rw [if_pos c] at H
        have f7 : decide (65535 < ((o2 ++ e1).size : Int)) = true := decide_eq_true c
        have z : (o2 ++ e1).size = o2.size + e1.size := ByteArray.size_append
        have f8 : decide (65535 < (o2.size : Int) + (e1.size : Int)) = true := decide_eq_true Z25
        clear z
        clear c
        simp only [Option.some.injEq, Prod.mk.injEq] at H
        obtain ⟨rfl, rfl, rfl⟩ := H
        go_wp2
        go_ret3
        exact ⟨rfl, Z0⟩
       ·rw [if_neg c] at H
        have f7 : decide (65535 < ((o2 ++ e1).size : Int)) = false := decide_eq_false c
        have z : (o2 ++ e1).size = o2.size + e1.size := ByteArray.size_append
        have f8 : decide (65535 < (o2.size : Int) + (e1.size : Int)) = false := decide_eq_false Z25
        clear z
        clear c
        have HA := Aside0.mk H
        clear H
        go_wp2
        go_roundg k2
        case measure => have := HK2.out; omega
        case rel => exact ⟨o2 ++ e1, n2, wrap64 (x + 1), Z7, Z7, Z7, HA, ⟨by have := HK2.out; omega⟩, ⟨Z0⟩⟩

end Go.Proofs.Ytnifhgackjkkbaa.PN
