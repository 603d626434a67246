-- Written by mp.py, a program of this work (wip/tools), out of the translation; Lean checks it.
import Derived.Test.YtnllanjoebjeiaaGreatPVxZ
import Derived.Test.YtnllanjoebjeiaaGreatPVxaddr
import Derived.Test.YtnllanjoebjeiaaGreatPVxbits
namespace Go.Proofs.YtnllanjoebjeiaaGreat.PV
open Go.RowKit Go.Proofs.YtnllanjoebjeiaaGreatW.PrintWords Go.Proofs.YtnllanjoebjeiaaGreatW.PrintLast Go.Proofs.YtnllanjoebjeiaaGreatW.PrintMore
attribute [local go_sem] max2_int min2_int max_two min_two max_three min_three max_four min_four   -- for this text's walks alone
set_option linter.unusedVariables false
set_option linter.unusedSimpArgs false

/-! ### route_In: function 124 -/
/-- What is known of the encodings: an address's size, its bytes never written, the least and the greatest length. -/
def route_shapes.v : Value := .agg #[.int .i64 0, .int .i64 0, .int .i64 0, .int .i64 0, .int .i64 4, .int .i64 0, .int .i64 0, .int .i64 32, .int .i64 16, .int .i64 0, .int .i64 0, .int .i64 128, .int .i64 16, .int .i64 8, .int .i64 64, .int .i64 128]
theorem route_shapes.at0 (w : World) : (Instr.index 167 (.agg #[.int .i64 0, .int .i64 0, .int .i64 0, .int .i64 0, .int .i64 4, .int .i64 0, .int .i64 0, .int .i64 32, .int .i64 16, .int .i64 0, .int .i64 0, .int .i64 128, .int .i64 16, .int .i64 8, .int .i64 64, .int .i64 128]) (.int .i64 0)).run Tryz.prog w = .ok (.agg #[.int .i64 0, .int .i64 0, .int .i64 0, .int .i64 0]) w := by kernel_rfl
theorem route_shapes.at1 (w : World) : (Instr.index 167 (.agg #[.int .i64 0, .int .i64 0, .int .i64 0, .int .i64 0, .int .i64 4, .int .i64 0, .int .i64 0, .int .i64 32, .int .i64 16, .int .i64 0, .int .i64 0, .int .i64 128, .int .i64 16, .int .i64 8, .int .i64 64, .int .i64 128]) (.int .i64 1)).run Tryz.prog w = .ok (.agg #[.int .i64 4, .int .i64 0, .int .i64 0, .int .i64 32]) w := by kernel_rfl
theorem route_shapes.at2 (w : World) : (Instr.index 167 (.agg #[.int .i64 0, .int .i64 0, .int .i64 0, .int .i64 0, .int .i64 4, .int .i64 0, .int .i64 0, .int .i64 32, .int .i64 16, .int .i64 0, .int .i64 0, .int .i64 128, .int .i64 16, .int .i64 8, .int .i64 64, .int .i64 128]) (.int .i64 2)).run Tryz.prog w = .ok (.agg #[.int .i64 16, .int .i64 0, .int .i64 0, .int .i64 128]) w := by kernel_rfl
theorem route_shapes.at3 (w : World) : (Instr.index 167 (.agg #[.int .i64 0, .int .i64 0, .int .i64 0, .int .i64 0, .int .i64 4, .int .i64 0, .int .i64 0, .int .i64 32, .int .i64 16, .int .i64 0, .int .i64 0, .int .i64 128, .int .i64 16, .int .i64 8, .int .i64 64, .int .i64 128]) (.int .i64 3)).run Tryz.prog w = .ok (.agg #[.int .i64 16, .int .i64 8, .int .i64 64, .int .i64 128]) w := by kernel_rfl
theorem route_shapes.calls (w : World) : Calls Tryz.prog 168 #[] w fun e w' => e = .returned route_shapes.v ∧ Below w.heap.size w w' := by
 have HB := Below.refl w.heap.size w
 go_enter Tryz.func168, Tryz.ntmps168
 go_wp2
 exact bodyPost_ret (results_cell_row rfl _ _ w.heap.size 167 _ (0, 0) _ rfl (heap_alloc_new w _) Tryz.underlying167 rfl Z12) rfl ⟨rfl, below_alloc HB _⟩
def route_In.c (sz lo hi a0 : Int) (a1 : ByteArray) (a2 : Int) : Option Bool := if (a1.size : Int) = sz then (if a2 ≥ lo then (if a2 ≤ hi then (bits_Clean.f a1 a2).bind fun c => (if c = true then (if a0 = 3 then (addr_Link.f a1).bind fun l => some l else some true) else some false) else some false) else some false) else some false
def route_In.f (a0 : Int) (a1 : ByteArray) (a2 : Int) : Option Bool := if a0 < 0 then some false else if a0 > 3 then some false else if a0 = 0 then route_In.c 0 0 0 a0 a1 a2 else if a0 = 1 then route_In.c 4 0 32 a0 a1 a2 else if a0 = 2 then route_In.c 16 0 128 a0 a1 a2 else route_In.c 16 64 128 a0 a1 a2
set_option maxHeartbeats 8000000 in
set_option maxRecDepth 100000 in
theorem route_In.calls (a0 : Int) (a1 : ByteArray) (a2 : Int) (r : Bool) (w : World) (h : route_In.f a0 a1 a2 = some r) :
  Calls Tryz.prog 124 #[.int .i64 a0, .string a1, .int .i64 a2] w fun e w' => e = .returned (.bool r) ∧ Below w.heap.size w w' := by
 have HB := Aside0.mk (Below.refl w.heap.size w)
 unfold route_In.f at h
 by_cases c0 : a0 < 0
 ·rw [if_pos c0] at h
  obtain rfl := Option.some.inj h
  have f0 : decide (a0 < 0) = true := decide_eq_true c0
  clear c0 h
  go_enter Tryz.func124, Tryz.ntmps124
  go_wp2
  go_ret
  exact ⟨rfl, HB.out⟩
 rw [if_neg c0] at h
 have f0 : decide (a0 < 0) = false := decide_eq_false c0
 by_cases c1 : a0 > 3
 ·rw [if_pos c1] at h
  obtain rfl := Option.some.inj h
  have f1 : decide (3 < a0) = true := decide_eq_true c1
  clear c0 c1 h
  go_enter Tryz.func124, Tryz.ntmps124
  go_wp2
  go_ret
  exact ⟨rfl, HB.out⟩
 rw [if_neg c1] at h
 have f1 : decide (3 < a0) = false := decide_eq_false c1
 have HL := Aside0.mk h
 have HC := Aside0.mk (And.intro c0 c1)
 clear h c0 c1
 go_enter Tryz.func124, Tryz.ntmps124
 go_upto_region 3 with (first | (fail))
 go_cut [7] (fun v7 wc => ∃ (g : Nat) (sz ba lo hi : Int), v7 = .pointer (some ⟨g, 0, none⟩) ∧ Aside0 (wc.heap[g]? = some (.cells #[.int .i64 sz, .int .i64 ba, .int .i64 lo, .int .i64 hi] 166 (0, 0))) ∧ Aside0 (route_In.c sz lo hi a0 a1 a2 = some r) ∧ Aside0 (Below w.heap.size w wc))
 case first =>
  have h := HL.out
  have c := HC.out
  clear HL HC f0 f1
  have d : a0 = 0 ∨ a0 = 1 ∨ a0 = 2 ∨ a0 = 3 := by omega
  clear c
  rcases d with rfl | rfl | rfl | rfl
  ·have HA := Aside0.mk (show route_In.c 0 0 0 0 a1 a2 = some r from h)
   clear h
   have ix := route_shapes.at0
   go_wp2_with (first | ((with_reducible refine gate_callee (f := 168) rfl ?_); refine goesL_ (some 14) rfl rfl Tryz.func168 Z12 rfl #[] rfl Z3 ?_; (with_reducible refine (route_shapes.calls _).mono ?_); rintro e w6 ⟨rfl, hb⟩; refine ⟨_, rfl, ?_⟩; unfold route_shapes.v; replace HB := Aside0.mk (below_step HB.out hb); clear hb))
   go_meet
   case rel => exact ⟨_, 0, 0, 0, 0, rfl, ⟨heap_alloc_new _ _⟩, HA, ⟨Z13⟩⟩
  ·have HA := Aside0.mk (show route_In.c 4 0 32 1 a1 a2 = some r from h)
   clear h
   have ix := route_shapes.at1
   go_wp2_with (first | ((with_reducible refine gate_callee (f := 168) rfl ?_); refine goesL_ (some 14) rfl rfl Tryz.func168 Z12 rfl #[] rfl Z3 ?_; (with_reducible refine (route_shapes.calls _).mono ?_); rintro e w6 ⟨rfl, hb⟩; refine ⟨_, rfl, ?_⟩; unfold route_shapes.v; replace HB := Aside0.mk (below_step HB.out hb); clear hb))
   go_meet
   case rel => exact ⟨_, 4, 0, 0, 32, rfl, ⟨heap_alloc_new _ _⟩, HA, ⟨Z13⟩⟩
  ·have HA := Aside0.mk (show route_In.c 16 0 128 2 a1 a2 = some r from h)
   clear h
   have ix := route_shapes.at2
   go_wp2_with (first | ((with_reducible refine gate_callee (f := 168) rfl ?_); refine goesL_ (some 14) rfl rfl Tryz.func168 Z12 rfl #[] rfl Z3 ?_; (with_reducible refine (route_shapes.calls _).mono ?_); rintro e w6 ⟨rfl, hb⟩; refine ⟨_, rfl, ?_⟩; unfold route_shapes.v; replace HB := Aside0.mk (below_step HB.out hb); clear hb))
   go_meet
   case rel => exact ⟨_, 16, 0, 0, 128, rfl, ⟨heap_alloc_new _ _⟩, HA, ⟨Z13⟩⟩
  ·have HA := Aside0.mk (show route_In.c 16 64 128 3 a1 a2 = some r from h)
   clear h
   have ix := route_shapes.at3
   go_wp2_with (first | ((with_reducible refine gate_callee (f := 168) rfl ?_); refine goesL_ (some 14) rfl rfl Tryz.func168 Z12 rfl #[] rfl Z3 ?_; (with_reducible refine (route_shapes.calls _).mono ?_); rintro e w6 ⟨rfl, hb⟩; refine ⟨_, rfl, ?_⟩; unfold route_shapes.v; replace HB := Aside0.mk (below_step HB.out hb); clear hb))
   go_meet
   case rel => exact ⟨_, 16, 8, 64, 128, rfl, ⟨heap_alloc_new _ _⟩, HA, ⟨Z13⟩⟩
 case rest =>
  clear HL HC HB
  obtain ⟨g, sz, ba, lo, hi, rfl, BK, HA, HB⟩ := hcut
  have k0 := (blk_cell BK.out 0).trans rfl
  have k2 := (blk_cell BK.out 2).trans rfl
  have k3 := (blk_cell BK.out 3).trans rfl
  have h := HA.out
  clear HA BK
  unfold route_In.c at h
  by_cases c : (a1.size : Int) = sz
  rotate_left
  ·rw [if_neg c] at h
   obtain rfl := Option.some.inj h
   have e1 : ((a1.size : Int) == sz) = false := beq_eq_false_iff_ne.mpr c
   clear c h
   go_wp2
   go_ret
   exact ⟨rfl, Z13⟩
  rw [if_pos c] at h
  have e1 : ((a1.size : Int) == sz) = true := beq_iff_eq.mpr c
  clear c
  by_cases c : a2 ≥ lo
  rotate_left
  ·rw [if_neg c] at h
   obtain rfl := Option.some.inj h
   have e2 : decide (lo ≤ a2) = false := decide_eq_false c
   clear c h
   go_wp2
   go_ret
   exact ⟨rfl, Z13⟩
  rw [if_pos c] at h
  have e2 : decide (lo ≤ a2) = true := decide_eq_true c
  clear c
  by_cases c : a2 ≤ hi
  rotate_left
  ·rw [if_neg c] at h
   obtain rfl := Option.some.inj h
   have e3 : decide (a2 ≤ hi) = false := decide_eq_false c
   clear c h
   go_wp2
   go_ret
   exact ⟨rfl, Z13⟩
  rw [if_pos c] at h
  have e3 : decide (a2 ≤ hi) = true := decide_eq_true c
  clear c
  obtain ⟨t, g1, h⟩ := Option.bind_eq_some_iff.mp h
  have A1 := Aside0.mk g1
  clear g1
  cases t
  ·replace h := (if_neg Bool.false_ne_true).symm.trans h
   obtain rfl := Option.some.inj h
   clear h
   go_wp2_with (first | ((with_reducible refine gate_callee (f := 149) rfl ?_); (try (refine gate_guard Z16 ?_; dsimp only)); refine goesL_ (some 37) rfl rfl Tryz.func149 Z12 rfl #[.string a1, .int .i64 a2] rfl Z3 ?_; (with_reducible refine (bits_Clean.calls a1 a2 false _ A1.out).mono ?_); rintro e w6 ⟨rfl, hb⟩; refine ⟨_, rfl, ?_⟩; replace HB := Aside0.mk (below_step HB.out hb); clear hb))
   go_ret
   exact ⟨rfl, Z13⟩
  replace h := (if_pos rfl).symm.trans h
  by_cases c : a0 = 3
  ·rw [if_pos c] at h
   have e5 : (a0 == 3) = true := beq_iff_eq.mpr c
   have e6 : (a0 != 3) = false := bne_eq_false_iff_eq.mpr c
   clear c
   obtain ⟨l, g1, h⟩ := Option.bind_eq_some_iff.mp h
   have A2 := Aside0.mk g1
   clear g1
   obtain rfl := Option.some.inj h
   clear h
   go_wp2_with (first | ((with_reducible refine gate_callee (f := 149) rfl ?_); (try (refine gate_guard Z16 ?_; dsimp only)); refine goesL_ (some 37) rfl rfl Tryz.func149 Z12 rfl #[.string a1, .int .i64 a2] rfl Z3 ?_; (with_reducible refine (bits_Clean.calls a1 a2 true _ A1.out).mono ?_); rintro e w6 ⟨rfl, hb⟩; refine ⟨_, rfl, ?_⟩; replace HB := Aside0.mk (below_step HB.out hb); clear hb) | (go_at_call 100; (with_reducible refine (addr_Link.calls a1 l _ A2.out).mono ?_); rintro e w' ⟨rfl, ⟨nd, rfl⟩⟩))
   go_ret
   exact ⟨rfl, Z13⟩
  ·rw [if_neg c] at h
   have e5 : (a0 == 3) = false := beq_eq_false_iff_ne.mpr c
   have e6 : (a0 != 3) = true := bne_iff_ne.mpr c
   clear c
   obtain rfl := Option.some.inj h
   clear h
   go_wp2_with (first | ((with_reducible refine gate_callee (f := 149) rfl ?_); (try (refine gate_guard Z16 ?_; dsimp only)); refine goesL_ (some 37) rfl rfl Tryz.func149 Z12 rfl #[.string a1, .int .i64 a2] rfl Z3 ?_; (with_reducible refine (bits_Clean.calls a1 a2 true _ A1.out).mono ?_); rintro e w6 ⟨rfl, hb⟩; refine ⟨_, rfl, ?_⟩; replace HB := Aside0.mk (below_step HB.out hb); clear hb))
   go_ret
   exact ⟨rfl, Z13⟩

end Go.Proofs.YtnllanjoebjeiaaGreat.PV
