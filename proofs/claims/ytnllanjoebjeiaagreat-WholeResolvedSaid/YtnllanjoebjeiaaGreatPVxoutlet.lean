-- Written by mp.py, a program of this work (wip/tools), out of the translation; Lean checks it.
import Derived.Test.YtnllanjoebjeiaaGreatPVxZ
import Derived.Test.YtnllanjoebjeiaaGreatPVxframe
import Derived.Test.YtnllanjoebjeiaaGreatPVxlean
import Derived.Test.YtnllanjoebjeiaaGreatPVxleanPut
import Derived.Test.YtnllanjoebjeiaaGreatStore
namespace Go.Proofs.YtnllanjoebjeiaaGreat.PV
open Go.RowKit Go.Proofs.YtnllanjoebjeiaaGreatW.PrintWords Go.Proofs.YtnllanjoebjeiaaGreatW.PrintLast Go.Proofs.YtnllanjoebjeiaaGreatW.PrintMore
attribute [local go_sem] max2_int min2_int max_two min_two max_three min_three max_four min_four   -- for this text's walks alone
set_option linter.unusedVariables false
set_option linter.unusedSimpArgs false

/-! ### outlet_Encode: function 15 -/
/-- The messages' bytes, one behind the other, where something is known. -/
def outlet_Encode.lb : Nat → List S32 → Int → List Int → ByteArray → ByteArray → ByteArray → ByteArray → ByteArray → ByteArray → ByteArray → Option (ByteArray × Int × Int)
 | 0, _, _, _, _, _, _, _, _, _, _ => none
 | k + 1, l0, x, xs, p0, p1, p2, p3, h0, h1, id => if x < (l0.length : Int) then (if 0 ≤ x then (lean_Put.f k p0 p1 p2 p3 h0 h1 id (rd_T32 l0 x).f0 (rd_T32 l0 x).f1 (rd_T32 l0 x).f2 (rd_T32 l0 x).f3 (rd_T32 l0 x).f4 (rd_T32 l0 x).f5 (rd_T32 l0 x).f6 (rd_T32 l0 x).f7 (rd_T32 l0 x).f8 (rd_T32 l0 x).f9 (rd_T32 l0 x).f10 (rd_T32 l0 x).f11 (rd_T32 l0 x).f12 (rd_T32 l0 x).f13 (rd_T32 l0 x).f14 (rd_T32 l0 x).f15 (rd_T32 l0 x).f16 (rd_T32 l0 x).f17 (rd_T32 l0 x).f18 (rd_T32 l0 x).f19 (rd_T32 l0 x).f20 (rd_T32 l0 x).f21 (rd_T32 l0 x).f22 (rd_T32 l0 x).f23 (rd_T32 l0 x).f24).bind fun r => (if r.2.2 = 0 then (if xs.length + r.1.size < 140737488355328 then (if ((xs ++ bytesOf r.1).length : Int) > 65531 then some (⟨#[]⟩, x, 10) else outlet_Encode.lb k l0 (wrap64 (x + 1)) (xs ++ bytesOf r.1) r.2.1.1 r.2.1.2.1 r.2.1.2.2.1 r.2.1.2.2.2.1 r.2.1.2.2.2.2.1 r.2.1.2.2.2.2.2.1 r.2.1.2.2.2.2.2.2) else none) else some (⟨#[]⟩, x, r.2.2)) else none) else (frame_Wrap.f k (strOfNums xs)).bind fun t => some (t.1, 0, 0)
def outlet_Encode.la : Nat → List S32 → Int → Option (ByteArray × Int × Int)
 | 0, _, _ => none
 | k + 1, l0, x => if x < (l0.length : Int) then (if 0 ≤ x then (lean_Right.f k (rd_T32 l0 x).f0 (rd_T32 l0 x).f1 (rd_T32 l0 x).f2 (rd_T32 l0 x).f3 (rd_T32 l0 x).f4 (rd_T32 l0 x).f5 (rd_T32 l0 x).f6 (rd_T32 l0 x).f7 (rd_T32 l0 x).f8 (rd_T32 l0 x).f9 (rd_T32 l0 x).f10 (rd_T32 l0 x).f11 (rd_T32 l0 x).f12 (rd_T32 l0 x).f13 (rd_T32 l0 x).f14 (rd_T32 l0 x).f15 (rd_T32 l0 x).f16 (rd_T32 l0 x).f17 (rd_T32 l0 x).f18 (rd_T32 l0 x).f19 (rd_T32 l0 x).f20 (rd_T32 l0 x).f21 (rd_T32 l0 x).f22 (rd_T32 l0 x).f23 (rd_T32 l0 x).f24).bind fun t => (if t = true then outlet_Encode.la k l0 (wrap64 (x + 1)) else some (⟨#[]⟩, x, 1)) else none) else outlet_Encode.lb k l0 0 [] ⟨#[]⟩ ⟨#[]⟩ ⟨#[]⟩ ⟨#[]⟩ ⟨#[]⟩ ⟨#[]⟩ ⟨#[]⟩
def outlet_Encode.f (k : Nat) (l0 : List S32) : Option (ByteArray × Int × Int) := outlet_Encode.la k l0 0
theorem outlet_Encode.mono_b : ∀ k, (∀ y0 y1 y2 y3 y4 y5 y6 y7 y8 y9, LeO (outlet_Encode.lb k y0 y1 y2 y3 y4 y5 y6 y7 y8 y9) (outlet_Encode.lb (k + 1) y0 y1 y2 y3 y4 y5 y6 y7 y8 y9))
 | 0 => Sq.mz
 | k + 1 => by
  have ih0 := outlet_Encode.mono_b k
  have m0 := lean_Put.mono
  have m1 := frame_Wrap.mono
  intros
  unfold outlet_Encode.lb
  exact Sq.mo
theorem outlet_Encode.mono_a : ∀ k, (∀ y0 y1, LeO (outlet_Encode.la k y0 y1) (outlet_Encode.la (k + 1) y0 y1))
 | 0 => Sq.mz
 | k + 1 => by
  have ih0 := outlet_Encode.mono_a k
  have ih1 := outlet_Encode.mono_b k
  have m0 := lean_Right.mono
  intros
  unfold outlet_Encode.la
  exact Sq.mo
theorem outlet_Encode.mono : ∀ a0 k, LeO (outlet_Encode.f k a0) (outlet_Encode.f (k + 1) a0) := fun a0 k => outlet_Encode.mono_a k a0 0
def outlet_Encode.T15 : Bool × List (List Nat × List Nat) := (true, [([], []), ([], []), ([0, 1], [0, 1]), ([], []), ([2, 2, 0, 1, 2], [0, 2]), ([3, 4, 0, 1, 2, 3, 4], [3])])
def outlet_Encode.B15 : List Nat := [0, 0, 3, 0, 7, 31]
theorem outlet_Encode.tab15 : rtab .any (opsOf Tryz.f15 15) = outlet_Encode.T15 := by kernel_rfl
theorem outlet_Encode.bits15 : waitsOk outlet_Encode.T15.2 outlet_Encode.B15 = true := by kernel_rfl
set_option maxHeartbeats 8000000 in
set_option maxRecDepth 100000 in
theorem outlet_Encode.calls (k : Nat) (A0 : Option Addr) (c0 : Nat) (l0 : List S32) (r1 : ByteArray) (r2 : Int) (r3 : Int) (w : World) (du : Kd.C k32 w A0 l0.length l0) (cO : l0.length ≤ c0) (h : outlet_Encode.f k l0 = some (r1, r2, r3)) :
  Calls Tryz.prog 15 #[.slice A0 l0.length c0] w fun e w' => e = .returned (.tuple #[.string r1, .int .i64 r2, .int .i64 r3]) ∧ Below w.heap.size w w' := by
 have hu := Tryz.underlying32
 have ic := Tryz.underlying46
 have dv := Aside0.mk du
 have HB := Aside0.mk (Below.refl w.heap.size w)
 have HL := Aside0.mk (show outlet_Encode.la k l0 0 = some (r1, r2, r3) from h)
 clear du cO h
 go_enter Tryz.func15, Tryz.ntmps15
 go_wp2
 go_loopg [18] k (fun kq fl w' => ∃ (x : Int), fl = .int .i64 x ∧ Aside0 (outlet_Encode.la kq l0 x = some (r1, r2, r3)) ∧ Aside0 (kq ≤ k) ∧ Aside0 (Below w.heap.size w w'))
 case atStart => exact ⟨0, rfl, HL, ⟨Nat.le_refl _⟩, HB⟩
 case round =>
  clear HL HB
  obtain ⟨x, rfl, HA, HK1, HB⟩ := hrel
  cases gk with
  | zero => exact absurd HA.out (by simp [outlet_Encode.la])
  | succ k1 =>
   have H := HA.out
   clear HA
   simp only [outlet_Encode.la] at H
   by_cases c1 : x < (l0.length : Int)
   ·rw [if_pos c1] at H
    have f1 : decide (x < (l0.length : Int)) = true := decide_eq_true c1
    by_cases c2 : 0 ≤ x
    rotate_left
    ·rw [if_neg c2] at H; exact absurd H Z27
    rw [if_pos c2] at H
    have f2 : decide (0 ≤ x) = true := decide_eq_true c2
    have p : 0 ≤ (x : Int) := c2
    have q : x < (l0.length : Int) := c1
    clear c1 c2
    obtain ⟨ad, aJ, aK, aH, aI, ea, hx0, hx1, hx2, hx3, hx4, hx5, hx6, hx7, hx8, hx9, hx10, hx11, hx12, hx13, hx14, hx15, hx16, hx17, hx18, hx19, hx20, hx21, hx22, hx23, hx24, hl21, hi21, hl24, hi24⟩ := at_T32 dv.out x p q
    cases ea
    have HX := Aside0.mk (show ∀ j v, ([.int .i64 (rd_T32 l0 x).f0, .int .i64 (rd_T32 l0 x).f1, .int .i64 (rd_T32 l0 x).f2, .string (rd_T32 l0 x).f3, .int .i64 (rd_T32 l0 x).f4, .int .i64 (rd_T32 l0 x).f5, .string (rd_T32 l0 x).f6, .int .i64 (rd_T32 l0 x).f7, .int .i64 (rd_T32 l0 x).f8, .string (rd_T32 l0 x).f9, .int .i64 (rd_T32 l0 x).f10, .string (rd_T32 l0 x).f11, .int .i64 (rd_T32 l0 x).f12, .int .i64 (rd_T32 l0 x).f13, .int .i64 (rd_T32 l0 x).f14, .int .i64 (rd_T32 l0 x).f15, .int .i64 (rd_T32 l0 x).f16, .int .i64 (rd_T32 l0 x).f17, .int .i64 (rd_T32 l0 x).f18, .string (rd_T32 l0 x).f19, .string (rd_T32 l0 x).f20, .slice aJ (rd_T32 l0 x).f21.length aK, .int .i64 (rd_T32 l0 x).f22, .string (rd_T32 l0 x).f23, .slice aH (rd_T32 l0 x).f24.length aI] : List Value)[j]? = some v → w.cell? ((ad.add (x.toNat * 25)).add j) = some v from Pre.range25)
    clear hx0 hx1 hx2 hx3 hx4 hx5 hx6 hx7 hx8 hx9 hx10 hx11 hx12 hx13 hx14 hx15 hx16 hx17 hx18 hx19 hx20 hx21 hx22 hx23 hx24
    generalize rd_T32 l0 x = M at H HX hl21 hi21 hl24 hi24
    obtain ⟨ar, aC, az, ay, aA, au, aw, av, aD, ax, am, ag, ac, aq, ab, ao, ak, ai, ae, ah, ap, aa, aj, al, af⟩ := M
    dsimp only at H HX hl21 hi21 hl24 hi24
    have eA := Aside0.mk hi21
    have eB := Aside0.mk hl21
    have dZ := Aside0.mk hi24
    have cX := Aside0.mk hl24
    clear hi21 hl21 hi24 hl24
    replace p := eq_true p
    replace q := eq_true q
    obtain ⟨t, g1, H1⟩ := Option.bind_eq_some_iff.mp H
    have A1 := Aside0.mk g1
    clear H g1
    cases t
    ·rw [if_neg Bool.false_ne_true] at H1
     simp only [Option.some.injEq, Prod.mk.injEq] at H1
     obtain ⟨rfl, rfl, rfl⟩ := H1
     go_wp2_with (first | ((with_reducible refine Pre.gate_load 32 rfl ?_); refine Pre.load_event_a rfl rfl rfl Z16 (fun j v e => (HB.out.cell (World.block_lt_of_cell? w _ (HX.out j v e))).trans (HX.out j v e)) Tryz.underlying32 rfl Z12 ?_) | ((with_reducible refine gate_dst (N := 6) rfl ?_); refine Sq.box 6 #[.int .i64 0, .int .i64 0, .int .i64 0, .string ⟨#[]⟩, .int .i64 0, .int .i64 0, .string ⟨#[]⟩, .int .i64 0, .int .i64 0, .string ⟨#[]⟩, .int .i64 0, .string ⟨#[]⟩, .int .i64 0, .int .i64 0, .int .i64 0, .int .i64 0, .int .i64 0, .int .i64 0, .int .i64 0, .string ⟨#[]⟩, .string ⟨#[]⟩, .slice none 0 0, .int .i64 0, .string ⟨#[]⟩, .slice none 0 0] 32 ?_; intro gm hg w1 hbox hb; have aY := Aside0.mk hbox; have GE1 := Aside0.mk (Sq.ge hg HB.out); replace HB := Aside0.mk (below_step HB.out hb); clear hb hbox hg) | ((with_reducible refine Pre.gate_store 32 rfl ?_); refine Pre.store_abs rfl rfl rfl Z16 Z16 aY.out Z12 Z16 Z16 ?_; intro wS hbS sS; replace HB := Aside0.mk (sS.below HB.out GE1.out); replace aY := Aside0.mk hbS; clear hbS sS) | ((with_reducible refine Pre.gate_load 32 rfl ?_); refine Pre.load_event rfl rfl rfl Z16 aY.out Tryz.underlying32 rfl Z12 ?_) | ((with_reducible refine gate_callee (f := 29) rfl ?_); refine goesL_ (some 24) rfl rfl Tryz.func29 Z12 rfl #[.agg #[.int .i64 ar, .int .i64 aC, .int .i64 az, .string ay, .int .i64 aA, .int .i64 au, .string aw, .int .i64 av, .int .i64 aD, .string ax, .int .i64 am, .string ag, .int .i64 ac, .int .i64 aq, .int .i64 ab, .int .i64 ao, .int .i64 ak, .int .i64 ai, .int .i64 ae, .string ah, .string ap, .slice aJ aa.length aK, .int .i64 aj, .string al, .slice aH af.length aI]] rfl Z3 ?_; (with_reducible refine (lean_Right.calls k1 ar aC az ay aA au aw av aD ax am ag ac aq ab ao ak ai ae ah ap _ _ aa aj al _ _ af false _ ?side1 ?side2 ?side3 ?side4 A1.out).mono ?_); (case side1 => exact (Kd.C_below eA.out HB.out)); (case side2 => exact eB.out); (case side3 => exact (Kd.C_below dZ.out HB.out)); (case side4 => exact cX.out); rintro e w6 ⟨rfl, hb⟩; refine ⟨_, rfl, ?_⟩; replace HB := Aside0.mk (below_step HB.out hb); clear hb))
     go_ret3
     exact ⟨rfl, HB.out⟩
    ·rw [if_pos rfl] at H1
     have H' := Aside0.mk H1
     clear H1
     go_wp2_with (first | ((with_reducible refine Pre.gate_load 32 rfl ?_); refine Pre.load_event_a rfl rfl rfl Z16 (fun j v e => (HB.out.cell (World.block_lt_of_cell? w _ (HX.out j v e))).trans (HX.out j v e)) Tryz.underlying32 rfl Z12 ?_) | ((with_reducible refine gate_dst (N := 6) rfl ?_); refine Sq.box 6 #[.int .i64 0, .int .i64 0, .int .i64 0, .string ⟨#[]⟩, .int .i64 0, .int .i64 0, .string ⟨#[]⟩, .int .i64 0, .int .i64 0, .string ⟨#[]⟩, .int .i64 0, .string ⟨#[]⟩, .int .i64 0, .int .i64 0, .int .i64 0, .int .i64 0, .int .i64 0, .int .i64 0, .int .i64 0, .string ⟨#[]⟩, .string ⟨#[]⟩, .slice none 0 0, .int .i64 0, .string ⟨#[]⟩, .slice none 0 0] 32 ?_; intro gm hg w1 hbox hb; have aY := Aside0.mk hbox; have GE1 := Aside0.mk (Sq.ge hg HB.out); replace HB := Aside0.mk (below_step HB.out hb); clear hb hbox hg) | ((with_reducible refine Pre.gate_store 32 rfl ?_); refine Pre.store_abs rfl rfl rfl Z16 Z16 aY.out Z12 Z16 Z16 ?_; intro wS hbS sS; replace HB := Aside0.mk (sS.below HB.out GE1.out); replace aY := Aside0.mk hbS; clear hbS sS) | ((with_reducible refine Pre.gate_load 32 rfl ?_); refine Pre.load_event rfl rfl rfl Z16 aY.out Tryz.underlying32 rfl Z12 ?_) | ((with_reducible refine gate_callee (f := 29) rfl ?_); refine goesL_ (some 24) rfl rfl Tryz.func29 Z12 rfl #[.agg #[.int .i64 ar, .int .i64 aC, .int .i64 az, .string ay, .int .i64 aA, .int .i64 au, .string aw, .int .i64 av, .int .i64 aD, .string ax, .int .i64 am, .string ag, .int .i64 ac, .int .i64 aq, .int .i64 ab, .int .i64 ao, .int .i64 ak, .int .i64 ai, .int .i64 ae, .string ah, .string ap, .slice aJ aa.length aK, .int .i64 aj, .string al, .slice aH af.length aI]] rfl Z3 ?_; (with_reducible refine (lean_Right.calls k1 ar aC az ay aA au aw av aD ax am ag ac aq ab ao ak ai ae ah ap _ _ aa aj al _ _ af true _ ?side1 ?side2 ?side3 ?side4 A1.out).mono ?_); (case side1 => exact (Kd.C_below eA.out HB.out)); (case side2 => exact eB.out); (case side3 => exact (Kd.C_below dZ.out HB.out)); (case side4 => exact cX.out); rintro e w6 ⟨rfl, hb⟩; refine ⟨_, rfl, ?_⟩; replace HB := Aside0.mk (below_step HB.out hb); clear hb))
     go_roundg k1
     case measure => have := HK1.out; omega
     case rel => exact ⟨wrap64 (x + 1), rfl, H', ⟨Z35⟩, HB⟩
   rw [if_neg c1] at H
   have f1 : decide (x < (l0.length : Int)) = false := decide_eq_false c1
   have HL := Aside0.mk H
   clear c1 H
   go_wp2_with (first | ((with_reducible refine gate_dst (N := 8) rfl ?_); refine Sq.box 8 #[.string ⟨#[]⟩, .string ⟨#[]⟩, .string ⟨#[]⟩, .string ⟨#[]⟩, .string ⟨#[]⟩, .string ⟨#[]⟩, .string ⟨#[]⟩] 46 ?_; intro gz hg w1 hbox hb; have BKn := Aside0.mk hbox; have GEk := Aside0.mk (Sq.ge hg HB.out); replace HB := Aside0.mk (below_step HB.out hb); clear hb hbox hg))
   go_loopg [7, 30] k1 (fun kq v7 v30 w' => ∃ (x : Int) (Ab : Option Addr) (cb : Nat) (xs : List Int) (p0 p1 p2 p3 h0 h1 id : ByteArray), v30 = .int .i64 x ∧ v7 = .slice Ab xs.length cb ∧ Aside0 (outlet_Encode.lb kq l0 x xs p0 p1 p2 p3 h0 h1 id = some (r1, r2, r3)) ∧ Aside0 (kq ≤ k1) ∧ Aside0 (Kd.R (Kd.int .u8) 5 w' w.heap.size (fun _ => True) (.slice Ab xs.length cb) xs) ∧ Aside0 (w'.heap[gz]? = some (.cells #[.string p0, .string p1, .string p2, .string p3, .string h0, .string h1, .string id] 46 (0, 0))) ∧ Aside0 (Below w.heap.size w w'))
   case atStart => exact ⟨0, _, _, _, _, _, _, _, _, _, _, rfl, rfl, HL, ⟨Nat.le_refl _⟩, ⟨Kd.R_nil _ _ _ _ _⟩, BKn, HB⟩
   case round =>
    clear HL HB BKn
    obtain ⟨x, Ab, cb, xs, p0, p1, p2, p3, h0, h1, id, rfl, rfl, HA, HK2, HO, BKn, HB⟩ := hrel
    cases gk with
    | zero => exact absurd HA.out (by simp [outlet_Encode.lb])
    | succ k2 =>
     have H := HA.out
     clear HA
     simp only [outlet_Encode.lb] at H
     by_cases c1 : x < (l0.length : Int)
     ·rw [if_pos c1] at H
      have f1 : decide (x < (l0.length : Int)) = true := decide_eq_true c1
      by_cases c2 : 0 ≤ x
      rotate_left
      ·rw [if_neg c2] at H; exact absurd H Z27
      rw [if_pos c2] at H
      have f2 : decide (0 ≤ x) = true := decide_eq_true c2
      have p : 0 ≤ (x : Int) := c2
      have q : x < (l0.length : Int) := c1
      clear c1 c2
      obtain ⟨ad, aJ, aK, aH, aI, ea, hx0, hx1, hx2, hx3, hx4, hx5, hx6, hx7, hx8, hx9, hx10, hx11, hx12, hx13, hx14, hx15, hx16, hx17, hx18, hx19, hx20, hx21, hx22, hx23, hx24, hl21, hi21, hl24, hi24⟩ := at_T32 dv.out x p q
      cases ea
      have HX := Aside0.mk (show ∀ j v, ([.int .i64 (rd_T32 l0 x).f0, .int .i64 (rd_T32 l0 x).f1, .int .i64 (rd_T32 l0 x).f2, .string (rd_T32 l0 x).f3, .int .i64 (rd_T32 l0 x).f4, .int .i64 (rd_T32 l0 x).f5, .string (rd_T32 l0 x).f6, .int .i64 (rd_T32 l0 x).f7, .int .i64 (rd_T32 l0 x).f8, .string (rd_T32 l0 x).f9, .int .i64 (rd_T32 l0 x).f10, .string (rd_T32 l0 x).f11, .int .i64 (rd_T32 l0 x).f12, .int .i64 (rd_T32 l0 x).f13, .int .i64 (rd_T32 l0 x).f14, .int .i64 (rd_T32 l0 x).f15, .int .i64 (rd_T32 l0 x).f16, .int .i64 (rd_T32 l0 x).f17, .int .i64 (rd_T32 l0 x).f18, .string (rd_T32 l0 x).f19, .string (rd_T32 l0 x).f20, .slice aJ (rd_T32 l0 x).f21.length aK, .int .i64 (rd_T32 l0 x).f22, .string (rd_T32 l0 x).f23, .slice aH (rd_T32 l0 x).f24.length aI] : List Value)[j]? = some v → w.cell? ((ad.add (x.toNat * 25)).add j) = some v from Pre.range25)
      clear hx0 hx1 hx2 hx3 hx4 hx5 hx6 hx7 hx8 hx9 hx10 hx11 hx12 hx13 hx14 hx15 hx16 hx17 hx18 hx19 hx20 hx21 hx22 hx23 hx24
      generalize rd_T32 l0 x = M at H HX hl21 hi21 hl24 hi24
      obtain ⟨ar, aC, az, ay, aA, au, aw, av, aD, ax, am, ag, ac, aq, ab, ao, ak, ai, ae, ah, ap, aa, aj, al, af⟩ := M
      dsimp only at H HX hl21 hi21 hl24 hi24
      have eA := Aside0.mk hi21
      have eB := Aside0.mk hl21
      have dZ := Aside0.mk hi24
      have cX := Aside0.mk hl24
      clear hi21 hl21 hi24 hl24
      replace p := eq_true p
      replace q := eq_true q
      obtain ⟨⟨s1, ⟨q0, q1, q2, q3, q4, q5, q6⟩, e1⟩, g1, H1⟩ := Option.bind_eq_some_iff.mp H
      dsimp only at H1
      have A1 := Aside0.mk g1
      clear H g1
      by_cases c3 : e1 = 0
      rotate_left
      ·rw [if_neg c3] at H1
       simp only [Option.some.injEq, Prod.mk.injEq] at H1
       obtain ⟨rfl, rfl, rfl⟩ := H1
       have e3 : (e1 == 0) = false := beq_eq_false_iff_ne.mpr c3
       clear c3
       go_wp2_with (first | ((with_reducible refine Pre.gate_load 32 rfl ?_); refine Pre.load_event_a rfl rfl rfl Z16 (fun j v e => (HB.out.cell (World.block_lt_of_cell? w _ (HX.out j v e))).trans (HX.out j v e)) Tryz.underlying32 rfl Z12 ?_) | ((with_reducible refine gate_dst (N := 10) rfl ?_); refine Sq.box 10 #[.int .i64 0, .int .i64 0, .int .i64 0, .string ⟨#[]⟩, .int .i64 0, .int .i64 0, .string ⟨#[]⟩, .int .i64 0, .int .i64 0, .string ⟨#[]⟩, .int .i64 0, .string ⟨#[]⟩, .int .i64 0, .int .i64 0, .int .i64 0, .int .i64 0, .int .i64 0, .int .i64 0, .int .i64 0, .string ⟨#[]⟩, .string ⟨#[]⟩, .slice none 0 0, .int .i64 0, .string ⟨#[]⟩, .slice none 0 0] 32 ?_; intro gm hg w1 hbox hb; have aY := Aside0.mk hbox; have GE1 := Aside0.mk (Sq.ge hg HB.out); have NK := Aside0.mk (show gz ≠ gm from by rw [hg]; exact Nat.ne_of_lt (blk_lt BKn.out)); replace BKn := Aside0.mk (blk_below (g := gz) BKn.out hb); replace HO := Aside0.mk (Kd.R_below HO.out hb); replace HB := Aside0.mk (below_step HB.out hb); clear hb hbox hg) | ((with_reducible refine Pre.gate_store 32 rfl ?_); refine Pre.store_abs rfl rfl rfl Z16 Z16 aY.out Z12 Z16 Z16 ?_; intro wS hbS sS; replace HB := Aside0.mk (sS.below HB.out GE1.out); replace BKn := Aside0.mk (sS.blk BKn.out NK.out); replace HO := Aside0.mk (show Kd.R (Kd.int .u8) 5 _ w.heap.size (fun _ => True) (.slice Ab xs.length cb) xs from Kd.R_mono (Pre.R_sets (ok := fun k => True ∧ k ≠ gm) sS (Kd.R_types HO.out aY.out Z34) (fun _ hk => hk.2)) (fun _ _ => trivial)); replace aY := Aside0.mk hbS; clear hbS sS) | ((with_reducible refine Pre.gate_load 32 rfl ?_); refine Pre.load_event rfl rfl rfl Z16 aY.out Tryz.underlying32 rfl Z12 ?_) | ((with_reducible refine Pre.gate_load 46 rfl ?_); refine Pre.load_event rfl rfl rfl Z16 BKn.out Tryz.underlying46 rfl Z12 ?_) | ((with_reducible refine gate_callee (f := 30) rfl ?_); refine goesL_ (some 38) rfl rfl Tryz.func30 Z12 rfl #[.agg #[.string p0, .string p1, .string p2, .string p3, .string h0, .string h1, .string id], .agg #[.int .i64 ar, .int .i64 aC, .int .i64 az, .string ay, .int .i64 aA, .int .i64 au, .string aw, .int .i64 av, .int .i64 aD, .string ax, .int .i64 am, .string ag, .int .i64 ac, .int .i64 aq, .int .i64 ab, .int .i64 ao, .int .i64 ak, .int .i64 ai, .int .i64 ae, .string ah, .string ap, .slice aJ aa.length aK, .int .i64 aj, .string al, .slice aH af.length aI]] rfl Z3 ?_; (with_reducible refine (lean_Put.calls k2 p0 p1 p2 p3 h0 h1 id ar aC az ay aA au aw av aD ax am ag ac aq ab ao ak ai ae ah ap _ _ aa aj al _ _ af s1 q0 q1 q2 q3 q4 q5 q6 e1 _ ?side1 ?side2 ?side3 ?side4 A1.out).mono ?_); (case side1 => exact (Kd.C_below eA.out HB.out)); (case side2 => exact eB.out); (case side3 => exact (Kd.C_below dZ.out HB.out)); (case side4 => exact cX.out); rintro e w6 ⟨rfl, hb⟩; refine ⟨_, rfl, ?_⟩; replace BKn := Aside0.mk (blk_below (g := gz) BKn.out hb); replace HO := Aside0.mk (Kd.R_below HO.out hb); replace HB := Aside0.mk (below_step HB.out hb); clear hb) | ((with_reducible refine gate_dst (N := 12) rfl ?_); refine Sq.box 12 #[.string ⟨#[]⟩, .string ⟨#[]⟩, .string ⟨#[]⟩, .string ⟨#[]⟩, .string ⟨#[]⟩, .string ⟨#[]⟩, .string ⟨#[]⟩] 46 ?_; intro gq hg w1 hbox hb; have BQ := Aside0.mk hbox; have GEq := Aside0.mk (Sq.ge hg HB.out); have NQ := Aside0.mk (show gz ≠ gq from by rw [hg]; exact Nat.ne_of_lt (blk_lt BKn.out)); replace BKn := Aside0.mk (blk_below (g := gz) BKn.out hb); replace HO := Aside0.mk (Kd.R_below HO.out hb); replace HB := Aside0.mk (below_step HB.out hb); clear hb hbox hg) | ((with_reducible refine Pre.gate_store 46 rfl ?_); refine Pre.store_abs rfl rfl rfl Z16 Z16 BQ.out Z12 Z16 Z16 ?_; intro wS hbS sS; replace HB := Aside0.mk (sS.below HB.out GEq.out); replace BKn := Aside0.mk (sS.blk BKn.out NQ.out); replace HO := Aside0.mk (show Kd.R (Kd.int .u8) 5 _ w.heap.size (fun _ => True) (.slice Ab xs.length cb) xs from Kd.R_mono (Pre.R_sets (ok := fun k => True ∧ k ≠ gq) sS (Kd.R_types HO.out BQ.out Z34) (fun _ hk => hk.2)) (fun _ _ => trivial)); replace BQ := Aside0.mk hbS; clear hbS sS))
       go_ret3
       exact ⟨rfl, HB.out⟩
      rw [if_pos c3] at H1
      have e3 : (e1 == 0) = true := beq_iff_eq.mpr c3
      clear c3
      by_cases c4 : xs.length + s1.size < 140737488355328
      rotate_left
      ·rw [if_neg c4] at H1; exact absurd H1 Z27
      rw [if_pos c4] at H1
      obtain ⟨ys, hys⟩ : ∃ ys, ys = xs ++ bytesOf s1 := ⟨_, rfl⟩
      rw [← hys] at H1
      have Ny := Aside0.mk hys
      have LM := Aside0.mk c4
      have H' := Aside0.mk H1
      clear hys c4 H1
      go_upto_region 15 with (first | ((with_reducible refine Pre.gate_load 32 rfl ?_); refine Pre.load_event_a rfl rfl rfl Z16 (fun j v e => (HB.out.cell (World.block_lt_of_cell? w _ (HX.out j v e))).trans (HX.out j v e)) Tryz.underlying32 rfl Z12 ?_) | ((with_reducible refine gate_dst (N := 10) rfl ?_); refine Sq.box 10 #[.int .i64 0, .int .i64 0, .int .i64 0, .string ⟨#[]⟩, .int .i64 0, .int .i64 0, .string ⟨#[]⟩, .int .i64 0, .int .i64 0, .string ⟨#[]⟩, .int .i64 0, .string ⟨#[]⟩, .int .i64 0, .int .i64 0, .int .i64 0, .int .i64 0, .int .i64 0, .int .i64 0, .int .i64 0, .string ⟨#[]⟩, .string ⟨#[]⟩, .slice none 0 0, .int .i64 0, .string ⟨#[]⟩, .slice none 0 0] 32 ?_; intro gm hg w1 hbox hb; have aY := Aside0.mk hbox; have GE1 := Aside0.mk (Sq.ge hg HB.out); have NK := Aside0.mk (show gz ≠ gm from by rw [hg]; exact Nat.ne_of_lt (blk_lt BKn.out)); replace BKn := Aside0.mk (blk_below (g := gz) BKn.out hb); replace HO := Aside0.mk (Kd.R_below HO.out hb); replace HB := Aside0.mk (below_step HB.out hb); clear hb hbox hg) | ((with_reducible refine Pre.gate_store 32 rfl ?_); refine Pre.store_abs rfl rfl rfl Z16 Z16 aY.out Z12 Z16 Z16 ?_; intro wS hbS sS; replace HB := Aside0.mk (sS.below HB.out GE1.out); replace BKn := Aside0.mk (sS.blk BKn.out NK.out); replace HO := Aside0.mk (show Kd.R (Kd.int .u8) 5 _ w.heap.size (fun _ => True) (.slice Ab xs.length cb) xs from Kd.R_mono (Pre.R_sets (ok := fun k => True ∧ k ≠ gm) sS (Kd.R_types HO.out aY.out Z34) (fun _ hk => hk.2)) (fun _ _ => trivial)); replace aY := Aside0.mk hbS; clear hbS sS) | ((with_reducible refine Pre.gate_load 32 rfl ?_); refine Pre.load_event rfl rfl rfl Z16 aY.out Tryz.underlying32 rfl Z12 ?_) | ((with_reducible refine Pre.gate_load 46 rfl ?_); refine Pre.load_event rfl rfl rfl Z16 BKn.out Tryz.underlying46 rfl Z12 ?_) | ((with_reducible refine gate_callee (f := 30) rfl ?_); refine goesL_ (some 38) rfl rfl Tryz.func30 Z12 rfl #[.agg #[.string p0, .string p1, .string p2, .string p3, .string h0, .string h1, .string id], .agg #[.int .i64 ar, .int .i64 aC, .int .i64 az, .string ay, .int .i64 aA, .int .i64 au, .string aw, .int .i64 av, .int .i64 aD, .string ax, .int .i64 am, .string ag, .int .i64 ac, .int .i64 aq, .int .i64 ab, .int .i64 ao, .int .i64 ak, .int .i64 ai, .int .i64 ae, .string ah, .string ap, .slice aJ aa.length aK, .int .i64 aj, .string al, .slice aH af.length aI]] rfl Z3 ?_; (with_reducible refine (lean_Put.calls k2 p0 p1 p2 p3 h0 h1 id ar aC az ay aA au aw av aD ax am ag ac aq ab ao ak ai ae ah ap _ _ aa aj al _ _ af s1 q0 q1 q2 q3 q4 q5 q6 e1 _ ?side1 ?side2 ?side3 ?side4 A1.out).mono ?_); (case side1 => exact (Kd.C_below eA.out HB.out)); (case side2 => exact eB.out); (case side3 => exact (Kd.C_below dZ.out HB.out)); (case side4 => exact cX.out); rintro e w6 ⟨rfl, hb⟩; refine ⟨_, rfl, ?_⟩; replace BKn := Aside0.mk (blk_below (g := gz) BKn.out hb); replace HO := Aside0.mk (Kd.R_below HO.out hb); replace HB := Aside0.mk (below_step HB.out hb); clear hb) | ((with_reducible refine gate_dst (N := 12) rfl ?_); refine Sq.box 12 #[.string ⟨#[]⟩, .string ⟨#[]⟩, .string ⟨#[]⟩, .string ⟨#[]⟩, .string ⟨#[]⟩, .string ⟨#[]⟩, .string ⟨#[]⟩] 46 ?_; intro gq hg w1 hbox hb; have BQ := Aside0.mk hbox; have GEq := Aside0.mk (Sq.ge hg HB.out); have NQ := Aside0.mk (show gz ≠ gq from by rw [hg]; exact Nat.ne_of_lt (blk_lt BKn.out)); replace BKn := Aside0.mk (blk_below (g := gz) BKn.out hb); replace HO := Aside0.mk (Kd.R_below HO.out hb); replace HB := Aside0.mk (below_step HB.out hb); clear hb hbox hg) | ((with_reducible refine Pre.gate_store 46 rfl ?_); refine Pre.store_abs rfl rfl rfl Z16 Z16 BQ.out Z12 Z16 Z16 ?_; intro wS hbS sS; replace HB := Aside0.mk (sS.below HB.out GEq.out); replace BKn := Aside0.mk (sS.blk BKn.out NQ.out); replace HO := Aside0.mk (show Kd.R (Kd.int .u8) 5 _ w.heap.size (fun _ => True) (.slice Ab xs.length cb) xs from Kd.R_mono (Pre.R_sets (ok := fun k => True ∧ k ≠ gq) sS (Kd.R_types HO.out BQ.out Z34) (fun _ hk => hk.2)) (fun _ _ => trivial)); replace BQ := Aside0.mk hbS; clear hbS sS))
      replace HO := Aside0.mk (Kd.R_drew HO.out)
      replace BKn := Aside0.mk (blk_drew BKn.out)
      replace BQ := Aside0.mk (blk_drew BQ.out)
      replace HB := Aside0.mk (below_drew1 HB.out)
      refine start_ (n := 6) (S := fun w' => w'.heap[gq]? = some (.cells #[.string q0, .string q1, .string q2, .string q3, .string q4, .string q5, .string q6] 46 (0, 0))) (ds := [5]) (Sq.b 6 0) Z12 rfl rfl BQ.out (fun hHeld => ?_)
      refine with_tabW outlet_Encode.tab15 outlet_Encode.bits15 (fun HT_ HW_ => ?_)
      generalize World.drew _ = w9 at BKn BQ HB HO hHeld ⊢
      refine Sq.pur 0 (some 46) (Sq.b 6 1) HT_.out ?_
      refine Sq.pur 1 (some 47) (Sq.b 6 3) HT_.out ?_
      refine Sq.tak 3 (some 49) (Sq.b 6 11) HT_.out HW_.out hHeld (v := ?_) (a' := ?_) ?_ ?_ ?_
      rotate_left
      ·rintro w' s0
       (refine Eq.trans (Pre.load_run (ty := 46) rfl Z16 (by with_reducible assumption) Tryz.underlying46 rfl Z12) ?_; with_reducible rfl)
      rotate_left
      ·simp only [Act.put, Sq.s1, Sq.s2, Sq.s3, i64_w, i32_w]
       rfl
      refine one_ (i := 2) (N := some 48) (Sq.b 6 15) rfl rfl (one_of HT_.out Z12) Z34 (fun K hK => ?_)
      refine Pre.append_str_step (w0 := w) w.heap.size Z16 (.tmp 46) (.tmp 47) 64 9 5 rfl Tryz.underlying64 Tryz.underlying9 info5 (.slice Ab xs.length cb) xs s1 rfl rfl (Kd.own_of_R HO.out) HB.out (below_size HB.out) (by have := LM.out; omega) (fun v2 ep ho0 hb hg => ?_)
      have ho := Kd.R_of_own (h1 := fun _ => rfl) (ok := fun _ => True) ho0 (fun _ _ => trivial)
      clear ho0
      rw [← Ny.out] at ho
      replace BKn := Aside0.mk (blk_grown (g := gz) BKn.out hg (Kd.R_ne HO.out BKn.out Z34))
      replace BQ := Aside0.mk (blk_grown (g := gq) BQ.out hg (Kd.R_ne HO.out BQ.out Z34))
      replace HO := Aside0.mk (show Kd.R (Kd.int .u8) 5 ep w.heap.size (fun _ => True) v2 ys from ho)
      replace HB := Aside0.mk hb
      clear ho hb hg
      obtain ⟨Ab2, cb2, eo⟩ := Kd.R_slice HO.out
      subst eo
      refine hK.out _ _ BQ.out (fun hHeld => ?_)
      clear hK K
      refine norm_ (a' := ?_) ?_ ?_
      rotate_left
      ·show Act.put _ (some 48) _ = _
       simp only [Act.put, Sq.s1, Sq.s2, Sq.s3, i64_w, i32_w]
       rfl
      refine Sq.pur 4 (some 7) (Sq.b 6 31) HT_.out ?_
      refine last_ (i := 5) (N := none) (Sq.b 6 63) rfl rfl (one_of HT_.out Z12) Z34 (fun K hK => ?_)
      refine lean_Put.store_step Z16 rfl rfl Z16 Z16 BKn.out Z12 Z16 Z16 (fun w7 hr7 hs7 => ?_)
      refine hK.out _ _ ?_
      clear hK K
      replace HO := Aside0.mk (show Kd.R (Kd.int .u8) 5 _ w.heap.size (fun _ => True) (.slice Ab2 ys.length cb2) ys from Kd.R_mono (Pre.R_sets (ok := fun k => True ∧ k ≠ gz) hs7 (Kd.R_types HO.out BKn.out Z34) (fun _ hk => hk.2)) (fun _ _ => trivial))
      replace BKn := Aside0.mk hr7
      replace HB := Aside0.mk (hs7.below HB.out GEk.out)
      clear hr7 hs7
      refine done_ (done_of HT_.out Z12) ?_
      have h := H'.out
      clear H'
      by_cases c5 : (ys.length : Int) > 65531
      ·rw [if_pos c5] at h
       have d3 : decide ((ys.length : Int) > 65531) = true := decide_eq_true c5
       have d4 : decide (65531 < (ys.length : Int)) = true := decide_eq_true c5
       clear c5
       simp only [Option.some.injEq, Prod.mk.injEq] at h
       obtain ⟨rfl, rfl, rfl⟩ := h
       go_wp2
       go_ret3
       exact ⟨rfl, HB.out⟩
      ·rw [if_neg c5] at h
       have d3 : decide ((ys.length : Int) > 65531) = false := decide_eq_false c5
       have d4 : decide (65531 < (ys.length : Int)) = false := decide_eq_false c5
       clear c5
       have H' := Aside0.mk h
       clear h
       go_wp2
       go_roundg k2
       case measure => have := HK2.out; omega
       case rel => exact ⟨wrap64 (x + 1), _, _, ys, _, _, _, _, _, _, _, rfl, rfl, H', ⟨by have := HK2.out; omega⟩, HO, BKn, HB⟩
     rw [if_neg c1] at H
     have f1 : decide (x < (l0.length : Int)) = false := decide_eq_false c1
     obtain ⟨⟨t1, t2⟩, g1, H1⟩ := Option.bind_eq_some_iff.mp H
     simp only [Option.some.injEq, Prod.mk.injEq] at H1
     obtain ⟨rfl, rfl, rfl⟩ := H1
     have A1 := Aside0.mk g1
     have hcv := own_string (P := Tryz.prog) Tryz.underlying64 Tryz.underlying5 Tryz.underlying9 (Kd.own_of_R HO.out)
     clear c1 H g1
     go_wp2_with (first | ((with_reducible refine gate_callee (f := 31) rfl ?_); refine goesL_ (some 58) rfl rfl Tryz.func31 Z12 rfl #[.string (strOfNums xs)] rfl Z3 ?_; (with_reducible refine (frame_Wrap.calls k2 (strOfNums xs) t1 t2 _ A1.out).mono ?_); rintro e dL ⟨rfl, hb⟩; refine ⟨_, rfl, ?_⟩; replace HB := Aside0.mk (below_step HB.out hb); clear hb hcv))
     go_ret3
     exact ⟨rfl, HB.out⟩

end Go.Proofs.YtnllanjoebjeiaaGreat.PV
