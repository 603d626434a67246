-- Written by mp.py, a program of this work (wip/tools), out of the translation; Lean checks it.
import Derived.Test.YtnifhgackjkkbaaPNxZ
import Derived.Test.YtnifhgackjkkbaaPNxoctet
import Derived.Test.YtnifhgackjkkbaaPNxripng
import Derived.Test.YtnifhgackjkkbaaPNxripngRight
import Derived.Test.YtnifhgackjkkbaaBuild
import Derived.Test.YtnifhgackjkkbaaStore
import Derived.Test.YtnifhgackjkkbaaLoad
namespace Go.Proofs.Ytnifhgackjkkbaa.PN
open Go.RowKit Go.Proofs.YtnifhgackjkkbaaW.PrintWords Go.Proofs.YtnifhgackjkkbaaW.PrintLast Go.Proofs.YtnifhgackjkkbaaW.PrintMore
attribute [local go_sem] max2_int min2_int max_two min_two max_three min_three max_four min_four   -- for this text's walks alone
set_option linter.unusedVariables false
set_option linter.unusedSimpArgs false

/-! ### ripng_Encode: function 14 -/
def ripng_Encode.T9 : Bool × List (List Nat × List Nat) := (true, [([], []), ([0], [0]), ([1], [1]), ([2], [2]), ([3], [3]), ([4], [4]), ([], []), ([5, 6], [5, 6]), ([7], [7]), ([8, 6, 0, 1, 2, 3, 4, 5, 6, 7, 8], [8])])
def ripng_Encode.B9 : List Nat := [0, 1, 3, 7, 15, 31, 0, 127, 255, 511]
theorem ripng_Encode.tab9 : rtab .any (opsOf Try.f14 9) = ripng_Encode.T9 := by kernel_rfl
theorem ripng_Encode.bits9 : waitsOk ripng_Encode.T9.2 ripng_Encode.B9 = true := by kernel_rfl
theorem ripng_Encode.bd32 (A : Option Addr) (n c : Nat) (z : ByteArray) : Try.prog.built 56 [(0, .slice A n c), (1, .string z)] = some #[.slice A n c, .string z] := by kernel_rfl
def ripng_Encode.lb : Nat → List S34 → Int → ByteArray → List Int → Option (ByteArray × Int × Int)
 | 0, _, _, _, _ => none
 | k + 1, l0, x, nx, xs => if x < (l0.length : Int) then (if 0 ≤ x then (if (rd_T34 l0 x).f1 = (rd_T34 l0 0).f1 then ((ripng_writer_route.f xs nx (rd_T34 l0 x).f6 (rd_T34 l0 x).f7 (rd_T34 l0 x).f8 (rd_T34 l0 x).f9 (rd_T34 l0 x).f10).bind fun r => if (r.1.length : Int) > 65535 then some (⟨#[]⟩, x, 10) else ripng_Encode.lb k l0 (wrap64 (x + 1)) r.2 r.1) else some (⟨#[]⟩, x, 7)) else none) else some (strOfNums xs, 0, 0)
def ripng_Encode.la : Nat → List S34 → Int → Option (ByteArray × Int × Int)
 | 0, _, _ => none
 | k + 1, l0, x => if x < (l0.length : Int) then (if 0 ≤ x then ((ripng_Right.f k ((rd_T34 l0 x)).f0 ((rd_T34 l0 x)).f1 ((rd_T34 l0 x)).f2 ((rd_T34 l0 x)).f3 ((rd_T34 l0 x)).f4 ((rd_T34 l0 x)).f5 ((rd_T34 l0 x)).f6 ((rd_T34 l0 x)).f7 ((rd_T34 l0 x)).f8 ((rd_T34 l0 x)).f9 ((rd_T34 l0 x)).f10 ((rd_T34 l0 x)).f11 ((rd_T34 l0 x)).f12 ((rd_T34 l0 x)).f13 ((rd_T34 l0 x)).f14 ((rd_T34 l0 x)).f15 ((rd_T34 l0 x)).f16 ((rd_T34 l0 x)).f17 ((rd_T34 l0 x)).f18 ((rd_T34 l0 x)).f19 ((rd_T34 l0 x)).f20 ((rd_T34 l0 x)).f21 ((rd_T34 l0 x)).f22 ((rd_T34 l0 x)).f23 ((rd_T34 l0 x)).f24).bind fun t => if t = true then ripng_Encode.la k l0 (wrap64 (x + 1)) else some (⟨#[]⟩, x, 1)) else none) else (if (l0.length : Int) = 0 then some (⟨#[]⟩, 0, 8) else (octet_Zeros.f 16).bind fun z => ripng_Encode.lb k l0 0 z [(rd_T34 l0 0).f1 % 256, 1, 0, 0])
def ripng_Encode.f (k : Nat) (l0 : List S34) : Option (ByteArray × Int × Int) := ripng_Encode.la k l0 0
theorem ripng_Encode.mono_b : ∀ k, (∀ y0 y1 y2 y3, LeO (ripng_Encode.lb k y0 y1 y2 y3) (ripng_Encode.lb (k + 1) y0 y1 y2 y3))
 | 0 => Sq.mz
 | k + 1 => by
  have ih0 := ripng_Encode.mono_b k
  intros
  unfold ripng_Encode.lb
  exact Sq.mo
theorem ripng_Encode.mono_a : ∀ k, (∀ y0 y1, LeO (ripng_Encode.la k y0 y1) (ripng_Encode.la (k + 1) y0 y1))
 | 0 => Sq.mz
 | k + 1 => by
  have ih0 := ripng_Encode.mono_a k
  have ih1 := ripng_Encode.mono_b k
  intros
  unfold ripng_Encode.la
  have m0 := ripng_Right.mono
  exact Sq.mo
theorem ripng_Encode.mono : ∀ a0 k, LeO (ripng_Encode.f k a0) (ripng_Encode.f (k + 1) a0) := by
 intro a0 k
 exact ripng_Encode.mono_a k a0 0
set_option maxHeartbeats 8000000 in
set_option maxRecDepth 100000 in
theorem ripng_Encode.calls (k : Nat) (A0 : Option Addr) (c0 : Nat) (l0 : List S34) (r1 : ByteArray) (r2 : Int) (r3 : Int) (w : World) (fO : Kd.C k34 w A0 l0.length l0) (dY : l0.length ≤ c0) (h : ripng_Encode.f k l0 = some (r1, r2, r3)) :
  Calls Try.prog 14 #[.slice A0 l0.length c0] w fun e w' => e = .returned (.tuple #[.string r1, .int .i64 r2, .int .i64 r3]) ∧ Below w.heap.size w w' := by
 have fu := Try.underlying34
 have hu56 := Try.underlying56
 have fR := Aside0.mk fO
 have jD := Aside0.mk dY
 have HB := Aside0.mk (Below.refl w.heap.size w)
 have HL := Aside0.mk (show ripng_Encode.la k l0 0 = some (r1, r2, r3) from h)
 clear fO dY h
 go_enter Try.func14, Try.ntmps14
 go_wp2
 go_loopg [12] k (fun kq fG w' => ∃ (x : Int), fG = .int .i64 x ∧ Aside0 (ripng_Encode.la kq l0 x = some (r1, r2, r3)) ∧ Aside0 (kq ≤ k) ∧ Aside0 (Below w.heap.size w w'))
 case atStart => exact ⟨0, rfl, HL, ⟨Nat.le_refl _⟩, ⟨Z0⟩⟩
 case round =>
  clear HL
  obtain ⟨x, rfl, HA, HK1, HB⟩ := hrel
  cases gk with
  | zero => exact absurd HA.out (by simp [ripng_Encode.la])
  | succ k1 =>
   have H := HA.out
   clear HA
   simp only [ripng_Encode.la] at H
   by_cases c1 : x < (l0.length : Int)
   ·rw [if_pos c1] at H
    have f1 : decide (x < (l0.length : Int)) = true := decide_eq_true c1
    by_cases c2 : 0 ≤ x
    ·rw [if_pos c2] at H
     have f2 : decide (0 ≤ x) = true := decide_eq_true c2
     have p : 0 ≤ (x : Int) := c2
     have q : x < (l0.length : Int) := c1
     obtain ⟨t, g1, H1⟩ := Option.bind_eq_some_iff.mp H
     have A1 := Aside0.mk g1
     clear H g1 c1 c2
     obtain ⟨ad, db, dc, dd, cT, ea, hx0, hx1, hx2, hx3, hx4, hx5, hx6, hx7, hx8, hx9, hx10, hx11, hx12, hx13, hx14, hx15, hx16, hx17, hx18, hx19, hx20, hx21, hx22, hx23, hx24, hl21, hi21, hl24, hi24⟩ := at_T34 fR.out x p q
     cases ea
     replace hx0 := Sq.up HB.out hx0
     replace hx1 := Sq.up HB.out hx1
     replace hx2 := Sq.up HB.out hx2
     replace hx3 := Sq.up HB.out hx3
     replace hx4 := Sq.up HB.out hx4
     replace hx5 := Sq.up HB.out hx5
     replace hx6 := Sq.up HB.out hx6
     replace hx7 := Sq.up HB.out hx7
     replace hx8 := Sq.up HB.out hx8
     replace hx9 := Sq.up HB.out hx9
     replace hx10 := Sq.up HB.out hx10
     replace hx11 := Sq.up HB.out hx11
     replace hx12 := Sq.up HB.out hx12
     replace hx13 := Sq.up HB.out hx13
     replace hx14 := Sq.up HB.out hx14
     replace hx15 := Sq.up HB.out hx15
     replace hx16 := Sq.up HB.out hx16
     replace hx17 := Sq.up HB.out hx17
     replace hx18 := Sq.up HB.out hx18
     replace hx19 := Sq.up HB.out hx19
     replace hx20 := Sq.up HB.out hx20
     replace hx21 := Sq.up HB.out hx21
     replace hx22 := Sq.up HB.out hx22
     replace hx23 := Sq.up HB.out hx23
     replace hx24 := Sq.up HB.out hx24
     have HR21 := Aside0.mk hi21
     have HC21 := Aside0.mk hl21
     have HR24 := Aside0.mk hi24
     have he := Aside0.mk hl24
     clear hi21 hl21 hi24 hl24
     replace p := eq_true p
     replace q := eq_true q
     by_cases ct : t = true
     ·subst ct
      rw [if_pos rfl] at H1
      have H' := Aside0.mk H1
      clear H1
      go_wp2_with (first | ((with_reducible refine Pre.gate_load 34 rfl ?_); (try (refine gate_guard Z27 ?_; dsimp only)); refine Pre.load_event_a rfl rfl rfl Z27 Pre.range25 Try.underlying34 rfl Z16 ?_) | ((with_reducible refine gate_dst (N := 6) rfl ?_); refine Sq.box 6 #[.int .i64 0, .int .i64 0, .int .i64 0, .string ⟨#[]⟩, .int .i64 0, .int .i64 0, .string ⟨#[]⟩, .int .i64 0, .int .i64 0, .string ⟨#[]⟩, .int .i64 0, .string ⟨#[]⟩, .int .i64 0, .int .i64 0, .int .i64 0, .int .i64 0, .int .i64 0, .int .i64 0, .int .i64 0, .string ⟨#[]⟩, .string ⟨#[]⟩, .slice none 0 0, .int .i64 0, .string ⟨#[]⟩, .slice none 0 0] 34 ?_; intro gb hg w7 hbox hb; have eH := Aside0.mk (below_step Z0 hb); have BK1 := Aside0.mk hbox; have GE1 := Aside0.mk ((by rw [hg]; exact below_size Z0) : w.heap.size ≤ gb); clear HB hbox hg hb hx0 hx1 hx2 hx3 hx4 hx5 hx6 hx7 hx8 hx9 hx10 hx11 hx12 hx13 hx14 hx15 hx16 hx17 hx18 hx19 hx20 hx21 hx22 hx23 hx24; have HB := eH; clear eH) | ((with_reducible refine Pre.gate_store 34 rfl ?_); refine Pre.store_abs rfl rfl rfl Z27 Z27 (by (with_reducible repeat (first | refine blk_drewN ?_ _ | refine blk_drew ?_ | refine blk_alloc ?_ _)); exact BK1.out) Z16 Z27 Z27 ?_; intro wS hbS sS; have de := Aside0.mk (sS.below Z0 GE1.out); have eH := Aside0.mk hbS; clear HB BK1 hbS sS; have HB := de; have BK1 := eH; clear de eH) | ((with_reducible refine Pre.gate_load 34 rfl ?_); (try (refine gate_guard Z27 ?_; dsimp only)); refine Pre.load_event rfl rfl rfl Z27 (by (with_reducible repeat (first | refine blk_drewN ?_ _ | refine blk_drew ?_ | refine blk_alloc ?_ _)); exact BK1.out) Try.underlying34 rfl Z16 ?_) | ((with_reducible refine gate_callee (f := 12) rfl ?_); refine goesL_ (some 18) rfl rfl Try.func12 Z16 rfl #[.agg #[.int .i64 ((rd_T34 l0 x)).f0, .int .i64 ((rd_T34 l0 x)).f1, .int .i64 ((rd_T34 l0 x)).f2, .string ((rd_T34 l0 x)).f3, .int .i64 ((rd_T34 l0 x)).f4, .int .i64 ((rd_T34 l0 x)).f5, .string ((rd_T34 l0 x)).f6, .int .i64 ((rd_T34 l0 x)).f7, .int .i64 ((rd_T34 l0 x)).f8, .string ((rd_T34 l0 x)).f9, .int .i64 ((rd_T34 l0 x)).f10, .string ((rd_T34 l0 x)).f11, .int .i64 ((rd_T34 l0 x)).f12, .int .i64 ((rd_T34 l0 x)).f13, .int .i64 ((rd_T34 l0 x)).f14, .int .i64 ((rd_T34 l0 x)).f15, .int .i64 ((rd_T34 l0 x)).f16, .int .i64 ((rd_T34 l0 x)).f17, .int .i64 ((rd_T34 l0 x)).f18, .string ((rd_T34 l0 x)).f19, .string ((rd_T34 l0 x)).f20, .slice db ((rd_T34 l0 x)).f21.length dc, .int .i64 ((rd_T34 l0 x)).f22, .string ((rd_T34 l0 x)).f23, .slice dd ((rd_T34 l0 x)).f24.length cT]] rfl (by (try simp only [List.map_toArray, List.map_cons, List.map_nil]); first | done | rfl) ?_; (with_reducible refine (ripng_Right.calls k1 ((rd_T34 l0 x)).f0 ((rd_T34 l0 x)).f1 ((rd_T34 l0 x)).f2 ((rd_T34 l0 x)).f3 ((rd_T34 l0 x)).f4 ((rd_T34 l0 x)).f5 ((rd_T34 l0 x)).f6 ((rd_T34 l0 x)).f7 ((rd_T34 l0 x)).f8 ((rd_T34 l0 x)).f9 ((rd_T34 l0 x)).f10 ((rd_T34 l0 x)).f11 ((rd_T34 l0 x)).f12 ((rd_T34 l0 x)).f13 ((rd_T34 l0 x)).f14 ((rd_T34 l0 x)).f15 ((rd_T34 l0 x)).f16 ((rd_T34 l0 x)).f17 ((rd_T34 l0 x)).f18 ((rd_T34 l0 x)).f19 ((rd_T34 l0 x)).f20 _ _ ((rd_T34 l0 x)).f21 ((rd_T34 l0 x)).f22 ((rd_T34 l0 x)).f23 _ _ ((rd_T34 l0 x)).f24 true _ ?side1 ?side2 ?side3 ?side4 A1.out).mono ?_); (case side1 => exact (by repeat (first | exact (Kd.C_below HR21.out HB.out) | (with_reducible refine Kd.C_alloc ?_ _) | (with_reducible refine Kd.C_drewN ?_ _) | (with_reducible refine Kd.C_drew ?_)))); (case side2 => exact HC21.out); (case side3 => exact (by repeat (first | exact (Kd.C_below HR24.out HB.out) | (with_reducible refine Kd.C_alloc ?_ _) | (with_reducible refine Kd.C_drewN ?_ _) | (with_reducible refine Kd.C_drew ?_)))); (case side4 => exact he.out); rintro e jH ⟨rfl, hb⟩; refine ⟨_, rfl, ?_⟩; have eH := Aside0.mk (below_step Z0 hb); clear HB hb; have HB := eH; clear eH))
      go_roundg k1
      case measure => have := HK1.out; omega
      case rel => exact ⟨wrap64 (x + 1), Z7, H', ⟨by have := HK1.out; omega⟩, ⟨Z0⟩⟩
     ·replace ct := Bool.eq_false_iff.mpr ct
      subst ct
      rw [if_neg Z18] at H1
      simp only [Option.some.injEq, Prod.mk.injEq] at H1
      obtain ⟨rfl, rfl, rfl⟩ := H1
      go_wp2_with (first | ((with_reducible refine Pre.gate_load 34 rfl ?_); (try (refine gate_guard Z27 ?_; dsimp only)); refine Pre.load_event_a rfl rfl rfl Z27 Pre.range25 Try.underlying34 rfl Z16 ?_) | ((with_reducible refine gate_dst (N := 6) rfl ?_); refine Sq.box 6 #[.int .i64 0, .int .i64 0, .int .i64 0, .string ⟨#[]⟩, .int .i64 0, .int .i64 0, .string ⟨#[]⟩, .int .i64 0, .int .i64 0, .string ⟨#[]⟩, .int .i64 0, .string ⟨#[]⟩, .int .i64 0, .int .i64 0, .int .i64 0, .int .i64 0, .int .i64 0, .int .i64 0, .int .i64 0, .string ⟨#[]⟩, .string ⟨#[]⟩, .slice none 0 0, .int .i64 0, .string ⟨#[]⟩, .slice none 0 0] 34 ?_; intro gb hg w7 hbox hb; have eH := Aside0.mk (below_step Z0 hb); have BK1 := Aside0.mk hbox; have GE1 := Aside0.mk ((by rw [hg]; exact below_size Z0) : w.heap.size ≤ gb); clear HB hbox hg hb hx0 hx1 hx2 hx3 hx4 hx5 hx6 hx7 hx8 hx9 hx10 hx11 hx12 hx13 hx14 hx15 hx16 hx17 hx18 hx19 hx20 hx21 hx22 hx23 hx24; have HB := eH; clear eH) | ((with_reducible refine Pre.gate_store 34 rfl ?_); refine Pre.store_abs rfl rfl rfl Z27 Z27 (by (with_reducible repeat (first | refine blk_drewN ?_ _ | refine blk_drew ?_ | refine blk_alloc ?_ _)); exact BK1.out) Z16 Z27 Z27 ?_; intro wS hbS sS; have de := Aside0.mk (sS.below Z0 GE1.out); have eH := Aside0.mk hbS; clear HB BK1 hbS sS; have HB := de; have BK1 := eH; clear de eH) | ((with_reducible refine Pre.gate_load 34 rfl ?_); (try (refine gate_guard Z27 ?_; dsimp only)); refine Pre.load_event rfl rfl rfl Z27 (by (with_reducible repeat (first | refine blk_drewN ?_ _ | refine blk_drew ?_ | refine blk_alloc ?_ _)); exact BK1.out) Try.underlying34 rfl Z16 ?_) | ((with_reducible refine gate_callee (f := 12) rfl ?_); refine goesL_ (some 18) rfl rfl Try.func12 Z16 rfl #[.agg #[.int .i64 ((rd_T34 l0 x)).f0, .int .i64 ((rd_T34 l0 x)).f1, .int .i64 ((rd_T34 l0 x)).f2, .string ((rd_T34 l0 x)).f3, .int .i64 ((rd_T34 l0 x)).f4, .int .i64 ((rd_T34 l0 x)).f5, .string ((rd_T34 l0 x)).f6, .int .i64 ((rd_T34 l0 x)).f7, .int .i64 ((rd_T34 l0 x)).f8, .string ((rd_T34 l0 x)).f9, .int .i64 ((rd_T34 l0 x)).f10, .string ((rd_T34 l0 x)).f11, .int .i64 ((rd_T34 l0 x)).f12, .int .i64 ((rd_T34 l0 x)).f13, .int .i64 ((rd_T34 l0 x)).f14, .int .i64 ((rd_T34 l0 x)).f15, .int .i64 ((rd_T34 l0 x)).f16, .int .i64 ((rd_T34 l0 x)).f17, .int .i64 ((rd_T34 l0 x)).f18, .string ((rd_T34 l0 x)).f19, .string ((rd_T34 l0 x)).f20, .slice db ((rd_T34 l0 x)).f21.length dc, .int .i64 ((rd_T34 l0 x)).f22, .string ((rd_T34 l0 x)).f23, .slice dd ((rd_T34 l0 x)).f24.length cT]] rfl (by (try simp only [List.map_toArray, List.map_cons, List.map_nil]); first | done | rfl) ?_; (with_reducible refine (ripng_Right.calls k1 ((rd_T34 l0 x)).f0 ((rd_T34 l0 x)).f1 ((rd_T34 l0 x)).f2 ((rd_T34 l0 x)).f3 ((rd_T34 l0 x)).f4 ((rd_T34 l0 x)).f5 ((rd_T34 l0 x)).f6 ((rd_T34 l0 x)).f7 ((rd_T34 l0 x)).f8 ((rd_T34 l0 x)).f9 ((rd_T34 l0 x)).f10 ((rd_T34 l0 x)).f11 ((rd_T34 l0 x)).f12 ((rd_T34 l0 x)).f13 ((rd_T34 l0 x)).f14 ((rd_T34 l0 x)).f15 ((rd_T34 l0 x)).f16 ((rd_T34 l0 x)).f17 ((rd_T34 l0 x)).f18 ((rd_T34 l0 x)).f19 ((rd_T34 l0 x)).f20 _ _ ((rd_T34 l0 x)).f21 ((rd_T34 l0 x)).f22 ((rd_T34 l0 x)).f23 _ _ ((rd_T34 l0 x)).f24 false _ ?side1 ?side2 ?side3 ?side4 A1.out).mono ?_); (case side1 => exact (by repeat (first | exact (Kd.C_below HR21.out HB.out) | (with_reducible refine Kd.C_alloc ?_ _) | (with_reducible refine Kd.C_drewN ?_ _) | (with_reducible refine Kd.C_drew ?_)))); (case side2 => exact HC21.out); (case side3 => exact (by repeat (first | exact (Kd.C_below HR24.out HB.out) | (with_reducible refine Kd.C_alloc ?_ _) | (with_reducible refine Kd.C_drewN ?_ _) | (with_reducible refine Kd.C_drew ?_)))); (case side4 => exact he.out); rintro e jH ⟨rfl, hb⟩; refine ⟨_, rfl, ?_⟩; have eH := Aside0.mk (below_step Z0 hb); clear HB hb; have HB := eH; clear eH))
      go_ret3
      exact ⟨rfl, Z0⟩
    ·rw [if_neg c2] at H; exact absurd H Z36
   ·rw [if_neg c1] at H
    have f1 : decide (x < (l0.length : Int)) = false := decide_eq_false c1
    clear c1
    by_cases c2 : (l0.length : Int) = 0
    ·rw [if_pos c2] at H
     have d0 : ((l0.length : Int) == 0) = true := beq_iff_eq.mpr c2
     clear c2
     simp only [Option.some.injEq, Prod.mk.injEq] at H
     obtain ⟨rfl, rfl, rfl⟩ := H
     go_wp2
     go_ret3
     exact ⟨rfl, Z0⟩
    ·rw [if_neg c2] at H
     have d0 : ((l0.length : Int) == 0) = false := beq_eq_false_iff_ne.mpr c2
     obtain ⟨z, g1, H1⟩ := Option.bind_eq_some_iff.mp H
     have A1 := Aside0.mk g1
     have HL := Aside0.mk H1
     clear H g1 H1
     have p : 0 ≤ (0 : Int) := by omega
     have q : 0 < (l0.length : Int) := by omega
     obtain ⟨ad, _, _, _, _, ea, _, h01, _⟩ := at_T34 fR.out 0 p q
     cases ea
     rw [show ((0 : Int)).toNat = 0 from rfl, show 0 * 25 = 0 from rfl, Addr.add_zero'] at h01
     have H01 := Aside0.mk h01
     have qi : (0 < l0.length) = True := eq_true Z25
     have qj : (0 < (l0.length : Int)) = True := eq_true q
     have qk : decide (0 < (l0.length : Int)) = true := decide_eq_true q
     clear c2 h01 p q
     go_upto_region 9 with (first | (fail))
     (try simp only [Act.put, Sq.s1, Sq.s2, Sq.s3])
     have eH := Aside0.mk (below_drew1 HB.out)
     clear HB
     have HB := eH
     clear eH
     refine start_ (n := 10) (S := fun w' => w'.cell? ⟨ad.block, ad.off + 1, none⟩ = some (.int .i64 (rd_T34 l0 0).f1)) (ds := []) (Sq.b 10 0) Z16 rfl rfl ((HB.out.cell (World.block_lt_of_cell? w _ H01.out)).trans H01.out) (fun hHeld => ?_)
     refine with_tabW ripng_Encode.tab9 ripng_Encode.bits9 (fun HT_ HW_ => ?_)
     generalize World.drew _ = w39 at HB hHeld ⊢
     refine Sq.pur 0 (some 25) (Sq.b 10 1) HT_.out ?_
     refine Sq.pur 1 (some 26) (Sq.b 10 3) HT_.out ?_
     refine Sq.pur 2 (some 27) (Sq.b 10 7) HT_.out ?_
     refine Sq.tak 3 (some 28) (Sq.b 10 15) HT_.out HW_.out hHeld (v := ?_) (a' := ?_) ?_ ?_ ?_
     rotate_left
     ·intro w' s0
      go_simp
      with_reducible rfl
     rotate_left
     ·simp only [Act.put, Sq.s1, Sq.s2, Sq.s3, i64_w, i32_w]
      rfl
     refine Sq.pur 4 (some 29) (Sq.b 10 31) HT_.out ?_
     refine join_ 3 (Sq.b 10 127) (fun (s : Value) => [(30, s), (31, .string z)]) (fun s w' => w'.cell? ⟨ad.block, ad.off + 1, none⟩ = some (.int .i64 (rd_T34 l0 0).f1) ∧ Kd.R (Kd.int .u8) 5 w' w.heap.size (fun _ => True) s ([(rd_T34 l0 0).f1 % 256, 1, 0, 0] : List Int) ∧ Below w.heap.size w w') ?_ ?_
     rotate_left
     ·intro hJ
      refine two_ (i := 5) (j := 6) (Ni := some 30) (Nj := some 31) (Sq.b 10 63) (Sq.b 10 95) rfl rfl rfl rfl (two_of HT_.out Z16) Z18 Z18 (fun K hK => ?_) (fun K hK => ?_)
      ·refine Kd.R_lit_step (Kd.int .u8) _ 5 ?hg (N := 30) ?hd (xs := ([(rd_T34 l0 0).f1 % 256, 1, 0, 0] : List Int)) (inner := [.int .u8 ((rd_T34 l0 0).f1 % 256), .int .u8 1, .int .u8 0, .int .u8 0]) (ok := fun _ => True) (okp := fun _ => True) ?hr ?hp (fun _ hk => hk) trivial (Below.refl _ _) (Nat.le_refl _) Z36 ?_
       (case hd => rfl)
       (case hg => rfl)
       (case hr => first | (go_simp; done) | (go_simp; rfl))
       (case hp => exact (Reps.one (show Kd.M (Kd.int .u8) _ _ _ ((rd_T34 l0 0).f1 % 256) [.int .u8 ((rd_T34 l0 0).f1 % 256)] from rfl) (Reps.one (show Kd.M (Kd.int .u8) _ _ _ 1 [.int .u8 1] from rfl) (Reps.one (show Kd.M (Kd.int .u8) _ _ _ 0 [.int .u8 0] from rfl) (Reps.one (show Kd.M (Kd.int .u8) _ _ _ 0 [.int .u8 0] from rfl) (Reps.none _ _))))))
       intro v2 w9 ho10 hb hg_ hnew_
       clear hg_ hnew_
       have HO := Aside0.mk (Kd.R_lower ho10 (below_size HB.out))
       have de := Aside0.mk (below_step HB.out hb)
       clear HB hb ho10
       have HB := de
       clear de
       refine hK.out _ _ ((HB.out.cell (World.block_lt_of_cell? w _ H01.out)).trans H01.out) (fun hHeld => ?_)
       clear hK K
       refine norm_ (a' := ?_) ?_ ?_
       rotate_left
       ·show Act.put _ (some 30) _ = _
        simp only [Act.put, Sq.s1, Sq.s2, Sq.s3, i64_w, i32_w]
        rfl
       refine one_ (i := 6) (N := some 31) (Sq.b 10 127) rfl rfl (one_of HT_.out Z16) Z18 (fun K hK => ?_)
       refine goes_ Try.func18 Z16 rfl #[.int .i64 16] Z27 rfl rfl (by (try simp only [List.map_toArray, List.map_cons, List.map_nil]); first | done | rfl) ?_
       with_reducible refine (octet_Zeros.calls 16 z _ A1.out).mono ?_
       rintro e jH ⟨rfl, hb⟩
       refine ⟨_, rfl, ?_⟩
       have de := Aside0.mk (Kd.R_below HO.out hb)
       have eH := Aside0.mk (below_step HB.out hb)
       clear HB hb HO
       have HO := de
       clear de
       have HB := eH
       clear eH
       refine hK.out _ _ ((HB.out.cell (World.block_lt_of_cell? w _ H01.out)).trans H01.out) (fun hHeld => ?_)
       clear hK K
       refine norm_ (a' := ?_) ?_ ?_
       rotate_left
       ·show Act.put _ (some 31) _ = _
        simp only [Act.put, Sq.s1, Sq.s2, Sq.s3, i64_w, i32_w]
        rfl
       exact norm_ (by first | (simp only [putAll, Act.put, Sq.s1, Sq.s2, Sq.s3]; done) | (simp only [putAll, Act.put, Sq.s1, Sq.s2, Sq.s3]; rfl)) (hJ _ _ ⟨hHeld, HO.out, HB.out⟩)
      ·refine goes_ Try.func18 Z16 rfl #[.int .i64 16] Z27 rfl rfl (by (try simp only [List.map_toArray, List.map_cons, List.map_nil]); first | done | rfl) ?_
       with_reducible refine (octet_Zeros.calls 16 z _ A1.out).mono ?_
       rintro e jH ⟨rfl, hb⟩
       refine ⟨_, rfl, ?_⟩
       have eH := Aside0.mk (below_step HB.out hb)
       clear HB hb
       have HB := eH
       clear eH
       refine hK.out _ _ ((HB.out.cell (World.block_lt_of_cell? w _ H01.out)).trans H01.out) (fun hHeld => ?_)
       clear hK K
       refine norm_ (a' := ?_) ?_ ?_
       rotate_left
       ·show Act.put _ (some 31) _ = _
        simp only [Act.put, Sq.s1, Sq.s2, Sq.s3, i64_w, i32_w]
        rfl
       refine one_ (i := 5) (N := some 30) (Sq.b 10 127) rfl rfl (one_of HT_.out Z16) Z18 (fun K hK => ?_)
       refine Kd.R_lit_step (Kd.int .u8) _ 5 ?hg (N := 30) ?hd (xs := ([(rd_T34 l0 0).f1 % 256, 1, 0, 0] : List Int)) (inner := [.int .u8 ((rd_T34 l0 0).f1 % 256), .int .u8 1, .int .u8 0, .int .u8 0]) (ok := fun _ => True) (okp := fun _ => True) ?hr ?hp (fun _ hk => hk) trivial (Below.refl _ _) (Nat.le_refl _) Z36 ?_
       (case hd => rfl)
       (case hg => rfl)
       (case hr => first | (go_simp; done) | (go_simp; rfl))
       (case hp => exact (Reps.one (show Kd.M (Kd.int .u8) _ _ _ ((rd_T34 l0 0).f1 % 256) [.int .u8 ((rd_T34 l0 0).f1 % 256)] from rfl) (Reps.one (show Kd.M (Kd.int .u8) _ _ _ 1 [.int .u8 1] from rfl) (Reps.one (show Kd.M (Kd.int .u8) _ _ _ 0 [.int .u8 0] from rfl) (Reps.one (show Kd.M (Kd.int .u8) _ _ _ 0 [.int .u8 0] from rfl) (Reps.none _ _))))))
       intro v2 w9 ho10 hb hg_ hnew_
       clear hg_ hnew_
       have HO := Aside0.mk (Kd.R_lower ho10 (below_size HB.out))
       have de := Aside0.mk (below_step HB.out hb)
       clear HB hb ho10
       have HB := de
       clear de
       refine hK.out _ _ ((HB.out.cell (World.block_lt_of_cell? w _ H01.out)).trans H01.out) (fun hHeld => ?_)
       clear hK K
       refine norm_ (a' := ?_) ?_ ?_
       rotate_left
       ·show Act.put _ (some 30) _ = _
        simp only [Act.put, Sq.s1, Sq.s2, Sq.s3, i64_w, i32_w]
        rfl
       exact norm_ (by first | (simp only [putAll, Act.put, Sq.s1, Sq.s2, Sq.s3]; done) | (simp only [putAll, Act.put, Sq.s1, Sq.s2, Sq.s3]; rfl)) (hJ _ _ ⟨hHeld, HO.out, HB.out⟩)
     rintro s jH ⟨hHeld, ho, hb⟩
     have HO := Aside0.mk ho
     clear HB
     have HB := Aside0.mk hb
     clear ho hb
     obtain ⟨Ao, co, eo⟩ := Kd.R_slice HO.out
     subst eo
     refine norm_ (a' := ?_) ?_ ?_
     rotate_left
     ·simp only [putAll, Act.put, Sq.s1, Sq.s2, Sq.s3]
      rfl
     refine pure_ (i := 7) (N := some 32) (v := ?_) (a' := ?_) (Sq.b 10 255) rfl rfl (any_of HT_.out Z16) (fun _ _ _ h => h) (Or.inl ⟨Z27, ?_⟩) ?_ ?_
     rotate_left
     ·intro w'
      refine Eq.trans (Pre.build_run 56 [(0, Go.Operand.tmp 30), (1, Go.Operand.tmp 31)] rfl (ripng_Encode.bd32 _ _ _ _)) ?_
      with_reducible rfl
     rotate_left
     ·simp only [Act.put, Sq.s1, Sq.s2, Sq.s3, i64_w, i32_w]
      rfl
     refine one_ (i := 8) (N := some 33) (Sq.b 10 511) rfl rfl (one_of HT_.out Z16) Z18 (fun K hK => ?_)
     refine value_ (w1 := jH.alloc (.cells #[.slice Ao ([(rd_T34 l0 0).f1 % 256, 1, 0, 0] : List Int).length co, .string z] 56 (0, 0))) (v := .pointer (some ⟨jH.heap.size, 0, none⟩)) Z27 rfl ?_ ?_
     ·first | (go_simp; done) | (go_simp; rfl) | (go_simp; constructor <;> rfl)
     have hbx := below_alloc (Below.refl jH.heap.size jH) (.cells #[.slice Ao ([(rd_T34 l0 0).f1 % 256, 1, 0, 0] : List Int).length co, .string z] 56 (0, 0))
     have BK0 := Aside0.mk (blk_new jH (.cells #[.slice Ao ([(rd_T34 l0 0).f1 % 256, 1, 0, 0] : List Int).length co, .string z] 56 (0, 0)))
     have eH := Aside0.mk (below_step HB.out hbx)
     have de := Aside0.mk (Kd.R_below HO.out hbx)
     have GE0 := Aside0.mk (below_size HB.out)
     clear HB HO hbx
     have HB := eH
     have HO := de
     clear de eH
     refine hK.out _ _ ((HB.out.cell (World.block_lt_of_cell? w _ H01.out)).trans H01.out) (fun hHeld => ?_)
     clear hK K
     refine norm_ (a' := ?_) ?_ ?_
     rotate_left
     ·show Act.put _ (some 33) _ = _
      simp only [Act.put, Sq.s1, Sq.s2, Sq.s3, i64_w, i32_w]
      rfl
     generalize jH.heap.size = g at BK0 GE0 ⊢
     generalize World.alloc _ _ = w11 at BK0 HB HO hHeld ⊢
     refine Sq.pur 9 (some 7) (Sq.b 10 1023) HT_.out ?_
     refine done_ (done_of HT_.out Z16) ?_
     clear hHeld HT_ HW_ A1 d0
     generalize ([(rd_T34 l0 0).f1 % 256, 1, 0, 0] : List Int) = xs0 at BK0 HO HL
     go_wp2
     go_loopg [36] k1 (fun kq v36 w' => ∃ (x : Int) (nx : ByteArray) (xs : List Int) (u : Value), v36 = .int .i64 x ∧ Aside0 (ripng_Encode.lb kq l0 x nx xs = some (r1, r2, r3)) ∧ Aside0 (kq ≤ k1) ∧ Aside0 (w'.heap[g]? = some (.cells #[u, .string nx] 56 (0, 0))) ∧ Aside0 (Kd.R (Kd.int .u8) 5 w' w.heap.size (fun _ => True) u xs) ∧ Aside0 (Below w.heap.size w w'))
     case atStart => exact ⟨0, z, xs0, _, rfl, HL, ⟨Nat.le_refl _⟩, BK0, HO, HB⟩
     case round =>
      clear HL BK0 HO HB
      obtain ⟨x, nx, xs, u, rfl, HA, HK2, BK0, HO, HB⟩ := hrel
      cases gk with
      | zero => exact absurd HA.out (by simp [ripng_Encode.lb])
      | succ k2 =>
       have H := HA.out
       clear HA
       simp only [ripng_Encode.lb] at H
       by_cases c1 : x < (l0.length : Int)
       ·rw [if_pos c1] at H
        have f1 : decide (x < (l0.length : Int)) = true := decide_eq_true c1
        by_cases c2 : 0 ≤ x
        ·rw [if_pos c2] at H
         have f2 : decide (0 ≤ x) = true := decide_eq_true c2
         have p : 0 ≤ (x : Int) := c2
         have q : x < (l0.length : Int) := c1
         clear c1 c2
         by_cases c3 : (rd_T34 l0 x).f1 = (rd_T34 l0 0).f1
         ·rw [if_pos c3] at H
          have d1 : ((rd_T34 l0 x).f1 != (rd_T34 l0 0).f1) = false := bne_eq_false_iff_eq.mpr c3
          have d2 : ((rd_T34 l0 x).f1 == (rd_T34 l0 0).f1) = true := beq_iff_eq.mpr c3
          clear c3
          obtain ⟨⟨ys, ny⟩, g1, H1⟩ := Option.bind_eq_some_iff.mp H
          dsimp only at H1
          have A1 := Aside0.mk g1
          clear H g1
          obtain ⟨ad, db, dc, dd, cT, ea, hx0, hx1, hx2, hx3, hx4, hx5, hx6, hx7, hx8, hx9, hx10, hx11, hx12, hx13, hx14, hx15, hx16, hx17, hx18, hx19, hx20, hx21, hx22, hx23, hx24, hl21, hi21, hl24, hi24⟩ := at_T34 fR.out x p q
          cases ea
          replace hx0 := Sq.up HB.out hx0
          replace hx1 := Sq.up HB.out hx1
          replace hx2 := Sq.up HB.out hx2
          replace hx3 := Sq.up HB.out hx3
          replace hx4 := Sq.up HB.out hx4
          replace hx5 := Sq.up HB.out hx5
          replace hx6 := Sq.up HB.out hx6
          replace hx7 := Sq.up HB.out hx7
          replace hx8 := Sq.up HB.out hx8
          replace hx9 := Sq.up HB.out hx9
          replace hx10 := Sq.up HB.out hx10
          replace hx11 := Sq.up HB.out hx11
          replace hx12 := Sq.up HB.out hx12
          replace hx13 := Sq.up HB.out hx13
          replace hx14 := Sq.up HB.out hx14
          replace hx15 := Sq.up HB.out hx15
          replace hx16 := Sq.up HB.out hx16
          replace hx17 := Sq.up HB.out hx17
          replace hx18 := Sq.up HB.out hx18
          replace hx19 := Sq.up HB.out hx19
          replace hx20 := Sq.up HB.out hx20
          replace hx21 := Sq.up HB.out hx21
          replace hx22 := Sq.up HB.out hx22
          replace hx23 := Sq.up HB.out hx23
          replace hx24 := Sq.up HB.out hx24
          have HR21 := Aside0.mk hi21
          have HC21 := Aside0.mk hl21
          have HR24 := Aside0.mk hi24
          have he := Aside0.mk hl24
          clear hi21 hl21 hi24 hl24
          replace p := eq_true p
          replace q := eq_true q
          by_cases c4 : (ys.length : Int) > 65535
          ·rw [if_pos c4] at H1
           have d3 : decide ((ys.length : Int) > 65535) = true := decide_eq_true c4
           have d4 : decide (65535 < (ys.length : Int)) = true := decide_eq_true c4
           clear c4
           simp only [Option.some.injEq, Prod.mk.injEq] at H1
           obtain ⟨rfl, rfl, rfl⟩ := H1
           go_upto_region 13 with (first | ((with_reducible refine Pre.gate_load 34 rfl ?_); (try (refine gate_guard Z27 ?_; dsimp only)); refine Pre.load_event_a rfl rfl rfl Z27 Pre.range25 Try.underlying34 rfl Z16 ?_) | ((with_reducible refine gate_dst (N := 9) rfl ?_); refine Sq.box 9 #[.int .i64 0, .int .i64 0, .int .i64 0, .string ⟨#[]⟩, .int .i64 0, .int .i64 0, .string ⟨#[]⟩, .int .i64 0, .int .i64 0, .string ⟨#[]⟩, .int .i64 0, .string ⟨#[]⟩, .int .i64 0, .int .i64 0, .int .i64 0, .int .i64 0, .int .i64 0, .int .i64 0, .int .i64 0, .string ⟨#[]⟩, .string ⟨#[]⟩, .slice none 0 0, .int .i64 0, .string ⟨#[]⟩, .slice none 0 0] 34 ?_; intro gb hg w7 hbox hb; have eH := Aside0.mk (below_step Z0 hb); have BK1 := Aside0.mk hbox; have GE1 := Aside0.mk ((by rw [hg]; exact below_size Z0) : w.heap.size ≤ gb); have n3_ := Aside0.mk (blk_below (g := g) (by (with_reducible repeat (first | refine blk_drewN ?_ _ | refine blk_drew ?_ | refine blk_alloc ?_ _)); exact BK0.out) hb); have n4_ := Aside0.mk (Kd.R_below (by (with_reducible repeat (first | apply Kd.R_alloc | apply Kd.R_drewN | apply Kd.R_drew)); exact HO.out) hb); have NB := Aside0.mk ((by rw [hg]; exact Nat.ne_of_lt (blk_lt (g := g) (by (with_reducible repeat (first | refine blk_drewN ?_ _ | refine blk_drew ?_ | refine blk_alloc ?_ _)); exact BK0.out))) : g ≠ gb); clear BK0 HO; have BK0 := n3_; have HO := n4_; clear n3_ n4_; clear HB hbox hg hb hx0 hx1 hx2 hx3 hx4 hx5 hx6 hx7 hx8 hx9 hx10 hx11 hx12 hx13 hx14 hx15 hx16 hx17 hx18 hx19 hx20 hx21 hx22 hx23 hx24; have HB := eH; clear eH) | ((with_reducible refine Pre.gate_store 34 rfl ?_); refine Pre.store_abs rfl rfl rfl Z27 Z27 (by (with_reducible repeat (first | refine blk_drewN ?_ _ | refine blk_drew ?_ | refine blk_alloc ?_ _)); exact BK1.out) Z16 Z27 Z27 ?_; intro wS hbS sS; have de := Aside0.mk (sS.below Z0 GE1.out); have eH := Aside0.mk hbS; have n3_ := Aside0.mk (sS.blk (by (with_reducible repeat (first | refine blk_drewN ?_ _ | refine blk_drew ?_ | refine blk_alloc ?_ _)); exact BK0.out) NB.out); have n4_ := Aside0.mk (Kd.R_mono (Pre.R_sets (ok := fun k => True ∧ k ≠ gb) sS (by (with_reducible repeat (first | apply Kd.R_alloc | apply Kd.R_drewN | apply Kd.R_drew)); exact Kd.R_types HO.out BK1.out Z18) (fun _ hk => hk.2)) (fun _ _ => trivial) : Kd.R (Kd.int .u8) 5 _ w.heap.size (fun _ => True) u xs); clear BK0 HO; have BK0 := n3_; have HO := n4_; clear n3_ n4_; clear HB BK1 hbS sS; have HB := de; have BK1 := eH; clear de eH))
           have h01 := (HB.out.cell (World.block_lt_of_cell? w _ H01.out)).trans H01.out
           have hz1 := (blk_cell BK1.out 1).trans rfl
           go_region
           all_goals
            clear h01
            go_wp2_with (first | ((with_reducible refine Pre.gate_load 34 rfl ?_); (try (refine gate_guard Z27 ?_; dsimp only)); refine Pre.load_event rfl rfl rfl Z27 (by (with_reducible repeat (first | refine blk_drewN ?_ _ | refine blk_drew ?_ | refine blk_alloc ?_ _)); exact BK1.out) Try.underlying34 rfl Z16 ?_) | ((with_reducible refine gate_callee (f := 32) rfl ?_); refine goesL_ (some 51) rfl rfl Try.func32 Z16 rfl #[.pointer (some ⟨g, 0, none⟩), .agg #[.int .i64 ((rd_T34 l0 x)).f0, .int .i64 ((rd_T34 l0 x)).f1, .int .i64 ((rd_T34 l0 x)).f2, .string ((rd_T34 l0 x)).f3, .int .i64 ((rd_T34 l0 x)).f4, .int .i64 ((rd_T34 l0 x)).f5, .string ((rd_T34 l0 x)).f6, .int .i64 ((rd_T34 l0 x)).f7, .int .i64 ((rd_T34 l0 x)).f8, .string ((rd_T34 l0 x)).f9, .int .i64 ((rd_T34 l0 x)).f10, .string ((rd_T34 l0 x)).f11, .int .i64 ((rd_T34 l0 x)).f12, .int .i64 ((rd_T34 l0 x)).f13, .int .i64 ((rd_T34 l0 x)).f14, .int .i64 ((rd_T34 l0 x)).f15, .int .i64 ((rd_T34 l0 x)).f16, .int .i64 ((rd_T34 l0 x)).f17, .int .i64 ((rd_T34 l0 x)).f18, .string ((rd_T34 l0 x)).f19, .string ((rd_T34 l0 x)).f20, .slice db ((rd_T34 l0 x)).f21.length dc, .int .i64 ((rd_T34 l0 x)).f22, .string ((rd_T34 l0 x)).f23, .slice dd ((rd_T34 l0 x)).f24.length cT]] rfl (by (try simp only [List.map_toArray, List.map_cons, List.map_nil]); first | done | rfl) ?_; (with_reducible refine (ripng_writer_route.calls g u nx xs ((rd_T34 l0 x)).f0 ((rd_T34 l0 x)).f1 ((rd_T34 l0 x)).f2 ((rd_T34 l0 x)).f3 ((rd_T34 l0 x)).f4 ((rd_T34 l0 x)).f5 ((rd_T34 l0 x)).f6 ((rd_T34 l0 x)).f7 ((rd_T34 l0 x)).f8 ((rd_T34 l0 x)).f9 ((rd_T34 l0 x)).f10 ((rd_T34 l0 x)).f11 ((rd_T34 l0 x)).f12 ((rd_T34 l0 x)).f13 ((rd_T34 l0 x)).f14 ((rd_T34 l0 x)).f15 ((rd_T34 l0 x)).f16 ((rd_T34 l0 x)).f17 ((rd_T34 l0 x)).f18 ((rd_T34 l0 x)).f19 ((rd_T34 l0 x)).f20 db ((rd_T34 l0 x)).f21.length dc ((rd_T34 l0 x)).f22 ((rd_T34 l0 x)).f23 dd ((rd_T34 l0 x)).f24.length cT ys ny w _ Z0 GE0.out (by (with_reducible repeat (first | refine blk_drewN ?_ _ | refine blk_drew ?_ | refine blk_alloc ?_ _)); exact BK0.out) (by (with_reducible repeat (first | apply Kd.R_alloc | apply Kd.R_drewN | apply Kd.R_drew)); exact HO.out) A1.out).mono ?_); rintro e jN ⟨rfl, u2, hk, hr, hb⟩; refine ⟨_, rfl, ?_⟩; have cQ := Aside0.mk hk; have de := Aside0.mk hr; have eH := Aside0.mk hb; clear BK0 HO HB BK1 hz1 hk hr hb; have BK0 := cQ; have HO := de; have HB := eH; clear cQ de eH; obtain ⟨Ao, co, eo⟩ := Kd.R_slice HO.out; subst eo; have hg0 := (blk_cell BK0.out 0).trans rfl))
            go_ret3
            exact ⟨rfl, Z0⟩
          ·rw [if_neg c4] at H1
           have d3 : decide ((ys.length : Int) > 65535) = false := decide_eq_false c4
           have d4 : decide (65535 < (ys.length : Int)) = false := decide_eq_false c4
           clear c4
           have H' := Aside0.mk H1
           clear H1
           go_upto_region 13 with (first | ((with_reducible refine Pre.gate_load 34 rfl ?_); (try (refine gate_guard Z27 ?_; dsimp only)); refine Pre.load_event_a rfl rfl rfl Z27 Pre.range25 Try.underlying34 rfl Z16 ?_) | ((with_reducible refine gate_dst (N := 9) rfl ?_); refine Sq.box 9 #[.int .i64 0, .int .i64 0, .int .i64 0, .string ⟨#[]⟩, .int .i64 0, .int .i64 0, .string ⟨#[]⟩, .int .i64 0, .int .i64 0, .string ⟨#[]⟩, .int .i64 0, .string ⟨#[]⟩, .int .i64 0, .int .i64 0, .int .i64 0, .int .i64 0, .int .i64 0, .int .i64 0, .int .i64 0, .string ⟨#[]⟩, .string ⟨#[]⟩, .slice none 0 0, .int .i64 0, .string ⟨#[]⟩, .slice none 0 0] 34 ?_; intro gb hg w7 hbox hb; have eH := Aside0.mk (below_step Z0 hb); have BK1 := Aside0.mk hbox; have GE1 := Aside0.mk ((by rw [hg]; exact below_size Z0) : w.heap.size ≤ gb); have n3_ := Aside0.mk (blk_below (g := g) (by (with_reducible repeat (first | refine blk_drewN ?_ _ | refine blk_drew ?_ | refine blk_alloc ?_ _)); exact BK0.out) hb); have n4_ := Aside0.mk (Kd.R_below (by (with_reducible repeat (first | apply Kd.R_alloc | apply Kd.R_drewN | apply Kd.R_drew)); exact HO.out) hb); have NB := Aside0.mk ((by rw [hg]; exact Nat.ne_of_lt (blk_lt (g := g) (by (with_reducible repeat (first | refine blk_drewN ?_ _ | refine blk_drew ?_ | refine blk_alloc ?_ _)); exact BK0.out))) : g ≠ gb); clear BK0 HO; have BK0 := n3_; have HO := n4_; clear n3_ n4_; clear HB hbox hg hb hx0 hx1 hx2 hx3 hx4 hx5 hx6 hx7 hx8 hx9 hx10 hx11 hx12 hx13 hx14 hx15 hx16 hx17 hx18 hx19 hx20 hx21 hx22 hx23 hx24; have HB := eH; clear eH) | ((with_reducible refine Pre.gate_store 34 rfl ?_); refine Pre.store_abs rfl rfl rfl Z27 Z27 (by (with_reducible repeat (first | refine blk_drewN ?_ _ | refine blk_drew ?_ | refine blk_alloc ?_ _)); exact BK1.out) Z16 Z27 Z27 ?_; intro wS hbS sS; have de := Aside0.mk (sS.below Z0 GE1.out); have eH := Aside0.mk hbS; have n3_ := Aside0.mk (sS.blk (by (with_reducible repeat (first | refine blk_drewN ?_ _ | refine blk_drew ?_ | refine blk_alloc ?_ _)); exact BK0.out) NB.out); have n4_ := Aside0.mk (Kd.R_mono (Pre.R_sets (ok := fun k => True ∧ k ≠ gb) sS (by (with_reducible repeat (first | apply Kd.R_alloc | apply Kd.R_drewN | apply Kd.R_drew)); exact Kd.R_types HO.out BK1.out Z18) (fun _ hk => hk.2)) (fun _ _ => trivial) : Kd.R (Kd.int .u8) 5 _ w.heap.size (fun _ => True) u xs); clear BK0 HO; have BK0 := n3_; have HO := n4_; clear n3_ n4_; clear HB BK1 hbS sS; have HB := de; have BK1 := eH; clear de eH))
           have h01 := (HB.out.cell (World.block_lt_of_cell? w _ H01.out)).trans H01.out
           have hz1 := (blk_cell BK1.out 1).trans rfl
           go_region
           all_goals
            clear h01
            go_wp2_with (first | ((with_reducible refine Pre.gate_load 34 rfl ?_); (try (refine gate_guard Z27 ?_; dsimp only)); refine Pre.load_event rfl rfl rfl Z27 (by (with_reducible repeat (first | refine blk_drewN ?_ _ | refine blk_drew ?_ | refine blk_alloc ?_ _)); exact BK1.out) Try.underlying34 rfl Z16 ?_) | ((with_reducible refine gate_callee (f := 32) rfl ?_); refine goesL_ (some 51) rfl rfl Try.func32 Z16 rfl #[.pointer (some ⟨g, 0, none⟩), .agg #[.int .i64 ((rd_T34 l0 x)).f0, .int .i64 ((rd_T34 l0 x)).f1, .int .i64 ((rd_T34 l0 x)).f2, .string ((rd_T34 l0 x)).f3, .int .i64 ((rd_T34 l0 x)).f4, .int .i64 ((rd_T34 l0 x)).f5, .string ((rd_T34 l0 x)).f6, .int .i64 ((rd_T34 l0 x)).f7, .int .i64 ((rd_T34 l0 x)).f8, .string ((rd_T34 l0 x)).f9, .int .i64 ((rd_T34 l0 x)).f10, .string ((rd_T34 l0 x)).f11, .int .i64 ((rd_T34 l0 x)).f12, .int .i64 ((rd_T34 l0 x)).f13, .int .i64 ((rd_T34 l0 x)).f14, .int .i64 ((rd_T34 l0 x)).f15, .int .i64 ((rd_T34 l0 x)).f16, .int .i64 ((rd_T34 l0 x)).f17, .int .i64 ((rd_T34 l0 x)).f18, .string ((rd_T34 l0 x)).f19, .string ((rd_T34 l0 x)).f20, .slice db ((rd_T34 l0 x)).f21.length dc, .int .i64 ((rd_T34 l0 x)).f22, .string ((rd_T34 l0 x)).f23, .slice dd ((rd_T34 l0 x)).f24.length cT]] rfl (by (try simp only [List.map_toArray, List.map_cons, List.map_nil]); first | done | rfl) ?_; (with_reducible refine (ripng_writer_route.calls g u nx xs ((rd_T34 l0 x)).f0 ((rd_T34 l0 x)).f1 ((rd_T34 l0 x)).f2 ((rd_T34 l0 x)).f3 ((rd_T34 l0 x)).f4 ((rd_T34 l0 x)).f5 ((rd_T34 l0 x)).f6 ((rd_T34 l0 x)).f7 ((rd_T34 l0 x)).f8 ((rd_T34 l0 x)).f9 ((rd_T34 l0 x)).f10 ((rd_T34 l0 x)).f11 ((rd_T34 l0 x)).f12 ((rd_T34 l0 x)).f13 ((rd_T34 l0 x)).f14 ((rd_T34 l0 x)).f15 ((rd_T34 l0 x)).f16 ((rd_T34 l0 x)).f17 ((rd_T34 l0 x)).f18 ((rd_T34 l0 x)).f19 ((rd_T34 l0 x)).f20 db ((rd_T34 l0 x)).f21.length dc ((rd_T34 l0 x)).f22 ((rd_T34 l0 x)).f23 dd ((rd_T34 l0 x)).f24.length cT ys ny w _ Z0 GE0.out (by (with_reducible repeat (first | refine blk_drewN ?_ _ | refine blk_drew ?_ | refine blk_alloc ?_ _)); exact BK0.out) (by (with_reducible repeat (first | apply Kd.R_alloc | apply Kd.R_drewN | apply Kd.R_drew)); exact HO.out) A1.out).mono ?_); rintro e jN ⟨rfl, u2, hk, hr, hb⟩; refine ⟨_, rfl, ?_⟩; have cQ := Aside0.mk hk; have de := Aside0.mk hr; have eH := Aside0.mk hb; clear BK0 HO HB BK1 hz1 hk hr hb; have BK0 := cQ; have HO := de; have HB := eH; clear cQ de eH; obtain ⟨Ao, co, eo⟩ := Kd.R_slice HO.out; subst eo; have hg0 := (blk_cell BK0.out 0).trans rfl))
            go_roundg k2
            case measure => have := HK2.out; omega
            case rel => exact ⟨wrap64 (x + 1), ny, ys, _, Z7, H', ⟨by have := HK2.out; omega⟩, ⟨by (with_reducible repeat (first | refine blk_drewN ?_ _ | refine blk_drew ?_ | refine blk_alloc ?_ _)); exact BK0.out⟩, ⟨by (with_reducible repeat (first | apply Kd.R_alloc | apply Kd.R_drewN | apply Kd.R_drew)); exact HO.out⟩, ⟨Z0⟩⟩
         ·rw [if_neg c3] at H
          have d1 : ((rd_T34 l0 x).f1 != (rd_T34 l0 0).f1) = true := bne_iff_ne.mpr c3
          have d2 : ((rd_T34 l0 x).f1 == (rd_T34 l0 0).f1) = false := beq_eq_false_iff_ne.mpr c3
          clear c3
          simp only [Option.some.injEq, Prod.mk.injEq] at H
          obtain ⟨rfl, rfl, rfl⟩ := H
          obtain ⟨ad, db, dc, dd, cT, ea, hx0, hx1, hx2, hx3, hx4, hx5, hx6, hx7, hx8, hx9, hx10, hx11, hx12, hx13, hx14, hx15, hx16, hx17, hx18, hx19, hx20, hx21, hx22, hx23, hx24, hl21, hi21, hl24, hi24⟩ := at_T34 fR.out x p q
          cases ea
          replace hx0 := Sq.up HB.out hx0
          replace hx1 := Sq.up HB.out hx1
          replace hx2 := Sq.up HB.out hx2
          replace hx3 := Sq.up HB.out hx3
          replace hx4 := Sq.up HB.out hx4
          replace hx5 := Sq.up HB.out hx5
          replace hx6 := Sq.up HB.out hx6
          replace hx7 := Sq.up HB.out hx7
          replace hx8 := Sq.up HB.out hx8
          replace hx9 := Sq.up HB.out hx9
          replace hx10 := Sq.up HB.out hx10
          replace hx11 := Sq.up HB.out hx11
          replace hx12 := Sq.up HB.out hx12
          replace hx13 := Sq.up HB.out hx13
          replace hx14 := Sq.up HB.out hx14
          replace hx15 := Sq.up HB.out hx15
          replace hx16 := Sq.up HB.out hx16
          replace hx17 := Sq.up HB.out hx17
          replace hx18 := Sq.up HB.out hx18
          replace hx19 := Sq.up HB.out hx19
          replace hx20 := Sq.up HB.out hx20
          replace hx21 := Sq.up HB.out hx21
          replace hx22 := Sq.up HB.out hx22
          replace hx23 := Sq.up HB.out hx23
          replace hx24 := Sq.up HB.out hx24
          have HR21 := Aside0.mk hi21
          have HC21 := Aside0.mk hl21
          have HR24 := Aside0.mk hi24
          have he := Aside0.mk hl24
          clear hi21 hl21 hi24 hl24
          replace p := eq_true p
          replace q := eq_true q
          go_upto_region 13 with (first | ((with_reducible refine Pre.gate_load 34 rfl ?_); (try (refine gate_guard Z27 ?_; dsimp only)); refine Pre.load_event_a rfl rfl rfl Z27 Pre.range25 Try.underlying34 rfl Z16 ?_) | ((with_reducible refine gate_dst (N := 9) rfl ?_); refine Sq.box 9 #[.int .i64 0, .int .i64 0, .int .i64 0, .string ⟨#[]⟩, .int .i64 0, .int .i64 0, .string ⟨#[]⟩, .int .i64 0, .int .i64 0, .string ⟨#[]⟩, .int .i64 0, .string ⟨#[]⟩, .int .i64 0, .int .i64 0, .int .i64 0, .int .i64 0, .int .i64 0, .int .i64 0, .int .i64 0, .string ⟨#[]⟩, .string ⟨#[]⟩, .slice none 0 0, .int .i64 0, .string ⟨#[]⟩, .slice none 0 0] 34 ?_; intro gb hg w7 hbox hb; have eH := Aside0.mk (below_step Z0 hb); have BK1 := Aside0.mk hbox; have GE1 := Aside0.mk ((by rw [hg]; exact below_size Z0) : w.heap.size ≤ gb); have n3_ := Aside0.mk (blk_below (g := g) (by (with_reducible repeat (first | refine blk_drewN ?_ _ | refine blk_drew ?_ | refine blk_alloc ?_ _)); exact BK0.out) hb); have n4_ := Aside0.mk (Kd.R_below (by (with_reducible repeat (first | apply Kd.R_alloc | apply Kd.R_drewN | apply Kd.R_drew)); exact HO.out) hb); have NB := Aside0.mk ((by rw [hg]; exact Nat.ne_of_lt (blk_lt (g := g) (by (with_reducible repeat (first | refine blk_drewN ?_ _ | refine blk_drew ?_ | refine blk_alloc ?_ _)); exact BK0.out))) : g ≠ gb); clear BK0 HO; have BK0 := n3_; have HO := n4_; clear n3_ n4_; clear HB hbox hg hb hx0 hx1 hx2 hx3 hx4 hx5 hx6 hx7 hx8 hx9 hx10 hx11 hx12 hx13 hx14 hx15 hx16 hx17 hx18 hx19 hx20 hx21 hx22 hx23 hx24; have HB := eH; clear eH) | ((with_reducible refine Pre.gate_store 34 rfl ?_); refine Pre.store_abs rfl rfl rfl Z27 Z27 (by (with_reducible repeat (first | refine blk_drewN ?_ _ | refine blk_drew ?_ | refine blk_alloc ?_ _)); exact BK1.out) Z16 Z27 Z27 ?_; intro wS hbS sS; have de := Aside0.mk (sS.below Z0 GE1.out); have eH := Aside0.mk hbS; have n3_ := Aside0.mk (sS.blk (by (with_reducible repeat (first | refine blk_drewN ?_ _ | refine blk_drew ?_ | refine blk_alloc ?_ _)); exact BK0.out) NB.out); have n4_ := Aside0.mk (Kd.R_mono (Pre.R_sets (ok := fun k => True ∧ k ≠ gb) sS (by (with_reducible repeat (first | apply Kd.R_alloc | apply Kd.R_drewN | apply Kd.R_drew)); exact Kd.R_types HO.out BK1.out Z18) (fun _ hk => hk.2)) (fun _ _ => trivial) : Kd.R (Kd.int .u8) 5 _ w.heap.size (fun _ => True) u xs); clear BK0 HO; have BK0 := n3_; have HO := n4_; clear n3_ n4_; clear HB BK1 hbS sS; have HB := de; have BK1 := eH; clear de eH))
          have h01 := (HB.out.cell (World.block_lt_of_cell? w _ H01.out)).trans H01.out
          have hz1 := (blk_cell BK1.out 1).trans rfl
          go_region
          all_goals
           clear h01
           go_wp2_with (first | ((with_reducible refine Pre.gate_load 34 rfl ?_); (try (refine gate_guard Z27 ?_; dsimp only)); refine Pre.load_event rfl rfl rfl Z27 (by (with_reducible repeat (first | refine blk_drewN ?_ _ | refine blk_drew ?_ | refine blk_alloc ?_ _)); exact BK1.out) Try.underlying34 rfl Z16 ?_))
           go_ret3
           exact ⟨rfl, Z0⟩
        ·rw [if_neg c2] at H; exact absurd H Z36
       ·rw [if_neg c1] at H
        have f1 : decide (x < (l0.length : Int)) = false := decide_eq_false c1
        clear c1
        simp only [Option.some.injEq, Prod.mk.injEq] at H
        obtain ⟨rfl, rfl, rfl⟩ := H
        obtain ⟨Ao, co, eo⟩ := Kd.R_slice HO.out
        subst eo
        have hg0 := (blk_cell BK0.out 0).trans rfl
        have hcv := own_string (P := Try.prog) Try.underlying38 Try.underlying5 Try.underlying9 (Kd.own_of_R HO.out)
        go_wp2
        go_ret3
        exact ⟨rfl, Z0⟩

end Go.Proofs.Ytnifhgackjkkbaa.PN
