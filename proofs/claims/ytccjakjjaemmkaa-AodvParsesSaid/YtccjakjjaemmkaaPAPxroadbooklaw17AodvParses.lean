-- Written by mp.py, a program of this work (wip/tools), out of the translation; Lean checks it.
import Derived.Test.YtccjakjjaemmkaaPAPxZ
import Derived.Test.YtccjakjjaemmkaaPAPxaodv
import Derived.Test.YtccjakjjaemmkaaPAPxroadbooklaw17
import Derived.Test.YtccjakjjaemmkaaPAPxroadbookref07SameAll
import Derived.Test.YtccjakjjaemmkaaPAPxroadbookref17
namespace Go.Proofs.Ytccjakjjaemmkaa.PAP
open Go.RowKit Go.Proofs.YtccjakjjaemmkaaW.PrintWords Go.Proofs.YtccjakjjaemmkaaW.PrintLast Go.Proofs.YtccjakjjaemmkaaW.PrintMore
attribute [local go_sem] max2_int min2_int max_two min_two max_three min_three max_four min_four   -- for this text's walks alone
set_option linter.unusedVariables false
set_option linter.unusedSimpArgs false

/-! ### roadbooklaw17_AodvParses: function 13 -/
def roadbooklaw17_AodvParses.f (k : Nat) (a0 : ByteArray) : Option (Bool) := if (a0.size : Int) > 3000 then ((roadbooklaw17_awake.f k).bind fun bB => (some bB)) else ((aodv_Parse.f k a0).bind fun aE => ((roadbookref17_Parse.f k a0).bind fun bu => ((roadbooklaw17_awake.f k).bind fun cj => (if cj = true then ((roadbookref07_SameAll.f k aE.1 bu.1).bind fun bL => (if bL = true then (if aE.2.1 = bu.2.1 then (some (aE.2.2 == bu.2.2)) else (some false)) else (some false))) else (some false)))))
theorem roadbooklaw17_AodvParses.mono : ∀ a0 k, LeO (roadbooklaw17_AodvParses.f k a0) (roadbooklaw17_AodvParses.f (k + 1) a0) := by
 intro a0 k
 unfold roadbooklaw17_AodvParses.f
 repeat' first
   | (with_reducible exact aodv_Parse.mono _ _)
   | (with_reducible exact roadbooklaw17_awake.mono _)
   | (with_reducible exact roadbookref07_SameAll.mono _ _ _)
   | (with_reducible exact roadbookref17_Parse.mono _ _)
   | (with_reducible exact LeO.refl _)
   | (with_reducible exact LeO.none _)
   | (with_reducible refine LeO.ite ?_ ?_)
   | (with_reducible refine LeO.bind ?_ (fun _ => ?_))
   | exact aodv_Parse.mono _ _
   | exact roadbooklaw17_awake.mono _
   | exact roadbookref07_SameAll.mono _ _ _
   | exact roadbookref17_Parse.mono _ _
   | exact LeO.none _
   | refine LeO.ite ?_ ?_
   | refine LeO.bind ?_ (fun _ => ?_)
set_option maxHeartbeats 8000000 in
set_option maxRecDepth 100000 in
theorem roadbooklaw17_AodvParses.calls (k : Nat) (a0 : ByteArray) (r : Bool) (w : World) (hr_ : Aside0 (r = true)) (h : roadbooklaw17_AodvParses.f k a0 = some r) :
  Calls Try.prog 13 #[.string a0] w fun e w' => e = .returned (.bool r) ∧ Below w.heap.size w w' := by
 have HB := Aside0.mk (Below.refl w.heap.size w)
 have H : (if (a0.size : Int) > 3000 then ((roadbooklaw17_awake.f k).bind fun bB => (some bB)) else ((aodv_Parse.f k a0).bind fun aE => ((roadbookref17_Parse.f k a0).bind fun bu => ((roadbooklaw17_awake.f k).bind fun cj => (if cj = true then ((roadbookref07_SameAll.f k aE.1 bu.1).bind fun bL => (if bL = true then (if aE.2.1 = bu.2.1 then (some (aE.2.2 == bu.2.2)) else (some false)) else (some false))) else (some false)))))) = some r := h
 clear h
 by_cases c2 : (a0.size : Int) > 3000
 ·rw [if_pos c2] at H
  have eE : decide (3000 < (a0.size : Int)) = true := decide_eq_true c2
  have fo : decide (3000 < a0.size) = true := decide_eq_true Z34
  clear c2
  replace H := Option.bind_eq_some_iff.mp H
  obtain ⟨bB, kX, H⟩ := H
  replace H : (some bB) = some r := H
  have A3 := Aside0.mk kX
  clear kX
  obtain rfl := Option.some.inj H
  go_enter Try.func13, Try.ntmps13
  go_wp2_with (first | ((with_reducible refine gate_callee (f := 40) rfl ?_); refine goesL_ (some 12) rfl rfl Try.func40 Z14 rfl #[] rfl Z4 ?_; (with_reducible refine (roadbooklaw17_awake.calls k  bB _ (Aside0.mk (by first | rfl | exact hr_.out)) A3.out).mono ?_); rintro e w4 ⟨rfl, hb⟩; refine ⟨_, rfl, ?_⟩; replace HB := Aside0.mk (below_step Z1 hb); clear hb))
  go_ret
  exact ⟨Z5, Z1⟩
 ·rw [if_neg c2] at H
  have eE : decide (3000 < (a0.size : Int)) = false := decide_eq_false c2
  have fo : decide (3000 < a0.size) = false := decide_eq_false Z34
  clear c2
  replace H := Option.bind_eq_some_iff.mp H
  obtain ⟨⟨aM, bi, aU⟩, jt, H⟩ := H
  replace H : ((roadbookref17_Parse.f k a0).bind fun bu => ((roadbooklaw17_awake.f k).bind fun cj => (if cj = true then ((roadbookref07_SameAll.f k aM bu.1).bind fun bL => (if bL = true then (if bi = bu.2.1 then (some (aU == bu.2.2)) else (some false)) else (some false))) else (some false)))) = some r := H
  have A5 := Aside0.mk jt
  clear jt
  replace H := Option.bind_eq_some_iff.mp H
  obtain ⟨⟨bp, bk, bK⟩, oR, H⟩ := H
  replace H : ((roadbooklaw17_awake.f k).bind fun cj => (if cj = true then ((roadbookref07_SameAll.f k aM bp).bind fun bL => (if bL = true then (if bi = bk then (some (aU == bK)) else (some false)) else (some false))) else (some false))) = some r := H
  have A6 := Aside0.mk oR
  clear oR
  replace H := Option.bind_eq_some_iff.mp H
  obtain ⟨cj, oK, H⟩ := H
  replace H : (if cj = true then ((roadbookref07_SameAll.f k aM bp).bind fun bL => (if bL = true then (if bi = bk then (some (aU == bK)) else (some false)) else (some false))) else (some false)) = some r := H
  have A7 := Aside0.mk oK
  clear oK
  by_cases c8 : cj = true
  ·subst c8
   replace H := Sq.itT H
   replace H := Option.bind_eq_some_iff.mp H
   obtain ⟨bL, rM, H⟩ := H
   replace H : (if bL = true then (if bi = bk then (some (aU == bK)) else (some false)) else (some false)) = some r := H
   have A9 := Aside0.mk rM
   clear rM
   by_cases en : bL = true
   ·subst en
    replace H := Sq.itT H
    by_cases dK : bi = bk
    ·rw [if_pos dK] at H
     have eB : (bi == bk) = true := beq_iff_eq.mpr dK
     have fp : (bi != bk) = false := bne_eq_false_iff_eq.mpr dK
     clear dK
     obtain rfl := Option.some.inj H
     go_enter Try.func13, Try.ntmps13
     go_wp2_with (first | ((with_reducible refine gate_callee (f := 41) rfl ?_); refine goesL_ (some 15) rfl rfl Try.func41 Z14 rfl #[.string a0] rfl Z4 ?_; (with_reducible refine (aodv_Parse.calls k a0 aM bi aU _ A5.out).mono ?_); rintro e po ⟨pD, rfl, ho0, hb⟩; refine ⟨_, rfl, ?_⟩; have ie := Aside0.mk (Kd.N_lower (Kd.N_mono (ok' := fun k_ => True) ho0 (fun k_ hk_ => trivial)) (below_size Z1)); replace HB := Aside0.mk (below_step Z1 hb); clear hb ho0) | ((with_reducible refine gate_callee (f := 42) rfl ?_); refine goesL_ (some 21) rfl rfl Try.func42 Z14 rfl #[.string a0] rfl Z4 ?_; (with_reducible refine (roadbookref17_Parse.calls k a0 bp bk bK _ A6.out).mono ?_); rintro e jP ⟨v108, rfl, ho0, hb⟩; refine ⟨_, rfl, ?_⟩; have jq := Aside0.mk (Kd.N_lower (Kd.N_mono (ok' := fun k_ => some k_ ≠ (pD : Value).ownBlock) ho0 (fun k_ hk_ => (Kd.fresh' (Kd.N_lt Z82) k_ hk_))) (below_size Z1)); replace ie := Aside0.mk (Kd.N_elder' Z82 (Kd.N_base ho0) hb); replace HB := Aside0.mk (below_step Z1 hb); clear hb ho0) | ((with_reducible refine gate_callee (f := 40) rfl ?_); refine goesL_ (some 25) rfl rfl Try.func40 Z14 rfl #[] rfl Z4 ?_; (with_reducible refine (roadbooklaw17_awake.calls k  true _ (Aside0.mk (by first | rfl | exact hr_.out)) A7.out).mono ?_); rintro e lM ⟨rfl, hb⟩; refine ⟨_, rfl, ?_⟩; replace ie := Aside0.mk (Kd.N_below Z82 hb); replace jq := Aside0.mk (Kd.N_below (by (with_reducible repeat (first | apply Kd.N_alloc | apply Kd.N_drewN | apply Kd.N_drew)); exact jq.out) hb); replace HB := Aside0.mk (below_step Z1 hb); clear hb; obtain ⟨iN, iO, eo15⟩ := Kd.N_slice ie.out; subst eo15; obtain ⟨iP, iQ, eo16⟩ := Kd.N_slice jq.out; subst eo16) | (go_at_call 43; (with_reducible refine (roadbookref07_SameAll.calls k _ _ aM _ _ bp true _ ?side1 ?side2 ?side3 ?side4 A9.out).mono ?_); (case side1 => exact (by repeat (first | exact (Kd.N_reads' ie.out).2.2 | (with_reducible refine Kd.C_alloc ?_ _) | (with_reducible refine Kd.C_drewN ?_ _) | (with_reducible refine Kd.C_drew ?_)))); (case side2 => exact (Kd.N_reads' ie.out).2.1); (case side3 => exact (by repeat (first | exact (Kd.N_reads' jq.out).2.2 | (with_reducible refine Kd.C_alloc ?_ _) | (with_reducible refine Kd.C_drewN ?_ _) | (with_reducible refine Kd.C_drew ?_)))); (case side4 => exact (Kd.N_reads' jq.out).2.1); rintro e iE ⟨rfl, hb⟩; replace ie := Aside0.mk (Kd.N_below Z82 hb); replace jq := Aside0.mk (Kd.N_below (by (with_reducible repeat (first | apply Kd.N_alloc | apply Kd.N_drewN | apply Kd.N_drew)); exact jq.out) hb); replace HB := Aside0.mk (below_step Z1 hb); clear hb))
     go_ret
     exact ⟨Z5, Z1⟩
    ·rw [if_neg dK] at H
     have eB : (bi == bk) = false := beq_eq_false_iff_ne.mpr dK
     have fp : (bi != bk) = true := bne_iff_ne.mpr dK
     exact absurd (Option.some.inj H) Z84
   ·replace en := Bool.eq_false_iff.mpr en
    subst en
    replace H := Sq.itF H
    exact absurd (Option.some.inj H) Z84
  ·replace c8 := Bool.eq_false_iff.mpr c8
   subst c8
   replace H := Sq.itF H
   exact absurd (Option.some.inj H) Z84

/-- THE ONE PURE STATEMENT of roadbooklaw17_AodvParses: yours. -/
def roadbooklaw17_AodvParses.Pure : Prop := ∀ (a0 : ByteArray), a0.size ≤ 140737488351232 → ∃ k, roadbooklaw17_AodvParses.f k a0 = some true
theorem roadbooklaw17_AodvParses.walk (P : roadbooklaw17_AodvParses.Pure) (a0 : ByteArray) (w : World) (w0 : a0.size ≤ 140737488351232) :
  Calls Try.prog 13 #[.string a0] w fun e w' => e = .returned (.bool true) ∧ Below w.heap.size w w' := by
 obtain ⟨k, h⟩ := P a0 w0
 refine (roadbooklaw17_AodvParses.calls k a0 true w (Aside0.mk rfl) h).mono ?_
 rintro e w' ⟨rfl, hd⟩
 exact ⟨rfl, hd⟩

end Go.Proofs.Ytccjakjjaemmkaa.PAP
