-- Written by mp.py, a program of this work (wip/tools), out of the translation; Lean checks it.
import Derived.Test.YtelcciekdoccfaaPMxZ
import Derived.Test.YtelcciekdoccfaaPMxapiMsg
namespace Go.Proofs.Ytelcciekdoccfaa.PM
open Go.RowKit Go.Proofs.YtelcciekdoccfaaW.PrintWords Go.Proofs.YtelcciekdoccfaaW.PrintLast Go.Proofs.YtelcciekdoccfaaW.PrintMore
attribute [local go_sem] max2_int min2_int max_two min_two max_three min_three max_four min_four   -- for this text's walks alone
set_option linter.unusedVariables false
set_option linter.unusedSimpArgs false

/-! ### msg_SameAll: function 64 -/
def msg_SameAll.f (k : Nat) (l0 : List (S58)) (l1 : List (S58)) : Option (Bool) := (api_Msg.f k l0 l1 true).bind fun fo => (some fo)
theorem msg_SameAll.mono : ∀ a0 a1 k, LeO (msg_SameAll.f k a0 a1) (msg_SameAll.f (k + 1) a0 a1) := by
 intro a0 a1 k
 unfold msg_SameAll.f
 repeat' first
   | (with_reducible exact api_Msg.mono _ _ _ _)
   | (with_reducible exact LeO.refl _)
   | (with_reducible exact LeO.none _)
   | (with_reducible refine LeO.ite ?_ ?_)
   | (with_reducible refine LeO.bind ?_ (fun _ => ?_))
   | exact api_Msg.mono _ _ _ _
   | exact LeO.none _
   | refine LeO.ite ?_ ?_
   | refine LeO.bind ?_ (fun _ => ?_)
set_option maxHeartbeats 8000000 in
set_option maxRecDepth 100000 in
theorem msg_SameAll.calls (k : Nat) (A0 : Option Addr) (c0 : Nat) (l0 : List (S58)) (A1 : Option Addr) (c1 : Nat) (l1 : List (S58)) (r : Bool) (w : World) (dm : Kd.C k58 w A0 l0.length l0) (cU : l0.length ≤ c0) (fh : Kd.C k58 w A1 l1.length l1) (fi : l1.length ≤ c1) (h : msg_SameAll.f k l0 l1 = some r) :
  Calls Try.prog 64 #[.slice A0 l0.length c0, .slice A1 l1.length c1] w fun e w' => e = .returned (.bool r) ∧ Below w.heap.size w w' := by
 have df := Aside0.mk dm
 have fP := Aside0.mk cU
 clear dm cU
 have fj := Aside0.mk fh
 have ig := Aside0.mk fi
 clear fh fi
 have HB := Aside0.mk (Below.refl w.heap.size w)
 have H : ((api_Msg.f k l0 l1 true).bind fun fo => (some fo)) = some r := h
 clear h
 replace H := Option.bind_eq_some_iff.mp H
 obtain ⟨fo, hC, H⟩ := H
 replace H : (some fo) = some r := H
 have A3 := Aside0.mk hC
 clear hC
 obtain rfl := Option.some.inj H
 go_enter Try.func64, Try.ntmps64
 go_wp2_with (first | ((with_reducible refine gate_callee (f := 80) rfl ?_); refine goesL_ (some 7) rfl rfl Try.func80 Z5 rfl #[.slice A0 l0.length c0, .slice A1 l1.length c1, .func (.func 50) #[] #[]] rfl Z9 ?_; (with_reducible refine (api_Msg.calls k _ _ l0 _ _ l1 true fo _ ?side1 ?side2 ?side3 ?side4 A3.out).mono ?_); (case side1 => exact (by repeat (first | exact df.out | (with_reducible refine Kd.C_alloc ?_ _) | (with_reducible refine Kd.C_drewN ?_ _) | (with_reducible refine Kd.C_drew ?_)))); (case side2 => exact fP.out); (case side3 => exact (by repeat (first | exact fj.out | (with_reducible refine Kd.C_alloc ?_ _) | (with_reducible refine Kd.C_drewN ?_ _) | (with_reducible refine Kd.C_drew ?_)))); (case side4 => exact ig.out); rintro e w4 ⟨rfl, hb⟩; refine ⟨_, rfl, ?_⟩; have aH := Aside0.mk (below_step Z0 hb); replace HB := aH; clear aH; (try clear hb); (try clear hb2); (try clear hk); (try clear hi)))
 go_ret
 exact ⟨Z8, Z0⟩

end Go.Proofs.Ytelcciekdoccfaa.PM
