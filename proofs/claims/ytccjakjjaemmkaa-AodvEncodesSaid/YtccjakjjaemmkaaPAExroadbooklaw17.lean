-- Written by mp.py, a program of this work (wip/tools), out of the translation; Lean checks it.
import Derived.Test.YtccjakjjaemmkaaPAExZ
import Derived.Test.YtccjakjjaemmkaaPAExaodv
import Derived.Test.YtccjakjjaemmkaaPAExaodvEncode
import Derived.Test.YtccjakjjaemmkaaLoad
namespace Go.Proofs.Ytccjakjjaemmkaa.PAE
open Go.RowKit Go.Proofs.YtccjakjjaemmkaaW.PrintWords Go.Proofs.YtccjakjjaemmkaaW.PrintLast Go.Proofs.YtccjakjjaemmkaaW.PrintMore
attribute [local go_sem] max2_int min2_int max_two min_two max_three min_three max_four min_four   -- for this text's walks alone
set_option linter.unusedVariables false
set_option linter.unusedSimpArgs false

/-! ### roadbooklaw17_awake: function 40 -/
def roadbooklaw17_awake.f (k : Nat)  : Option (Bool) := (aodv_Parse.f k (⟨#[5, 0]⟩ : ByteArray)).bind fun bh => ((aodv_Parse.f k (⟨#[4, 0]⟩ : ByteArray)).bind fun bb => ((aodv_Encode.f k bb.1).bind fun fr => (if bh.2.2 = 4 then (if bh.2.1 = 0 then (if bb.2.2 = 0 then (if fr.2.2 = 0 then (if (bb.1.length : Int) = 1 then (if fr.1.toList = ([4, 0] : List UInt8) then (if 0 < (bb.1.length : Int) then ((aodv_Right.f k ((rd_T25 bb.1 0).f0) ((rd_T25 bb.1 0).f1) ((rd_T25 bb.1 0).f2) ((rd_T25 bb.1 0).f3) ((rd_T25 bb.1 0).f4) ((rd_T25 bb.1 0).f5) ((rd_T25 bb.1 0).f6) ((rd_T25 bb.1 0).f7) ((rd_T25 bb.1 0).f8) ((rd_T25 bb.1 0).f9) ((rd_T25 bb.1 0).f10) ((rd_T25 bb.1 0).f11) ((rd_T25 bb.1 0).f12) ((rd_T25 bb.1 0).f13) ((rd_T25 bb.1 0).f14) ((rd_T25 bb.1 0).f15) ((rd_T25 bb.1 0).f16) ((rd_T25 bb.1 0).f17) ((rd_T25 bb.1 0).f18) ((rd_T25 bb.1 0).f19) ((rd_T25 bb.1 0).f20) ((rd_T25 bb.1 0).f21) ((rd_T25 bb.1 0).f22) ((rd_T25 bb.1 0).f23) ((rd_T25 bb.1 0).f24)).bind fun dD => (some dD)) else (none)) else (some false)) else (some false)) else (some false)) else (some false)) else (some false)) else (some false))))
theorem roadbooklaw17_awake.mono : ∀ k, LeO (roadbooklaw17_awake.f k ) (roadbooklaw17_awake.f (k + 1) ) := by
 intro  k
 unfold roadbooklaw17_awake.f
 have m0 := aodv_Encode.mono
 have m1 := aodv_Parse.mono
 have m2 := aodv_Right.mono
 exact Sq.mo

set_option maxHeartbeats 8000000 in
set_option maxRecDepth 100000 in
theorem roadbooklaw17_awake.calls (k : Nat)  (r : Bool) (w : World) (hr_ : Aside0 (r = true)) (h : roadbooklaw17_awake.f k  = some r) :
  Calls Try.prog 40 #[] w fun e w' => e = .returned (.bool r) ∧ Below w.heap.size w w' := by
 have dM := Try.underlying25
 have HB := Aside0.mk (Below.refl w.heap.size w)
 have H : ((aodv_Parse.f k (⟨#[5, 0]⟩ : ByteArray)).bind fun bh => ((aodv_Parse.f k (⟨#[4, 0]⟩ : ByteArray)).bind fun bb => ((aodv_Encode.f k bb.1).bind fun fr => (if bh.2.2 = 4 then (if bh.2.1 = 0 then (if bb.2.2 = 0 then (if fr.2.2 = 0 then (if (bb.1.length : Int) = 1 then (if fr.1.toList = ([4, 0] : List UInt8) then (if 0 < (bb.1.length : Int) then ((aodv_Right.f k ((rd_T25 bb.1 0).f0) ((rd_T25 bb.1 0).f1) ((rd_T25 bb.1 0).f2) ((rd_T25 bb.1 0).f3) ((rd_T25 bb.1 0).f4) ((rd_T25 bb.1 0).f5) ((rd_T25 bb.1 0).f6) ((rd_T25 bb.1 0).f7) ((rd_T25 bb.1 0).f8) ((rd_T25 bb.1 0).f9) ((rd_T25 bb.1 0).f10) ((rd_T25 bb.1 0).f11) ((rd_T25 bb.1 0).f12) ((rd_T25 bb.1 0).f13) ((rd_T25 bb.1 0).f14) ((rd_T25 bb.1 0).f15) ((rd_T25 bb.1 0).f16) ((rd_T25 bb.1 0).f17) ((rd_T25 bb.1 0).f18) ((rd_T25 bb.1 0).f19) ((rd_T25 bb.1 0).f20) ((rd_T25 bb.1 0).f21) ((rd_T25 bb.1 0).f22) ((rd_T25 bb.1 0).f23) ((rd_T25 bb.1 0).f24)).bind fun dD => (some dD)) else (none)) else (some false)) else (some false)) else (some false)) else (some false)) else (some false)) else (some false))))) = some r := h
 clear h
 replace H := Option.bind_eq_some_iff.mp H
 obtain ⟨⟨bU, bg, bH⟩, nu, H⟩ := H
 replace H : ((aodv_Parse.f k (⟨#[4, 0]⟩ : ByteArray)).bind fun bb => ((aodv_Encode.f k bb.1).bind fun fr => (if bH = 4 then (if bg = 0 then (if bb.2.2 = 0 then (if fr.2.2 = 0 then (if (bb.1.length : Int) = 1 then (if fr.1.toList = ([4, 0] : List UInt8) then (if 0 < (bb.1.length : Int) then ((aodv_Right.f k ((rd_T25 bb.1 0).f0) ((rd_T25 bb.1 0).f1) ((rd_T25 bb.1 0).f2) ((rd_T25 bb.1 0).f3) ((rd_T25 bb.1 0).f4) ((rd_T25 bb.1 0).f5) ((rd_T25 bb.1 0).f6) ((rd_T25 bb.1 0).f7) ((rd_T25 bb.1 0).f8) ((rd_T25 bb.1 0).f9) ((rd_T25 bb.1 0).f10) ((rd_T25 bb.1 0).f11) ((rd_T25 bb.1 0).f12) ((rd_T25 bb.1 0).f13) ((rd_T25 bb.1 0).f14) ((rd_T25 bb.1 0).f15) ((rd_T25 bb.1 0).f16) ((rd_T25 bb.1 0).f17) ((rd_T25 bb.1 0).f18) ((rd_T25 bb.1 0).f19) ((rd_T25 bb.1 0).f20) ((rd_T25 bb.1 0).f21) ((rd_T25 bb.1 0).f22) ((rd_T25 bb.1 0).f23) ((rd_T25 bb.1 0).f24)).bind fun dD => (some dD)) else (none)) else (some false)) else (some false)) else (some false)) else (some false)) else (some false)) else (some false)))) = some r := H
 have A1 := Aside0.mk nu
 clear nu
 replace H := Option.bind_eq_some_iff.mp H
 obtain ⟨⟨aW, aQ, ba⟩, dL, H⟩ := H
 replace H : ((aodv_Encode.f k aW).bind fun fr => (if bH = 4 then (if bg = 0 then (if ba = 0 then (if fr.2.2 = 0 then (if (aW.length : Int) = 1 then (if fr.1.toList = ([4, 0] : List UInt8) then (if 0 < (aW.length : Int) then ((aodv_Right.f k ((rd_T25 aW 0).f0) ((rd_T25 aW 0).f1) ((rd_T25 aW 0).f2) ((rd_T25 aW 0).f3) ((rd_T25 aW 0).f4) ((rd_T25 aW 0).f5) ((rd_T25 aW 0).f6) ((rd_T25 aW 0).f7) ((rd_T25 aW 0).f8) ((rd_T25 aW 0).f9) ((rd_T25 aW 0).f10) ((rd_T25 aW 0).f11) ((rd_T25 aW 0).f12) ((rd_T25 aW 0).f13) ((rd_T25 aW 0).f14) ((rd_T25 aW 0).f15) ((rd_T25 aW 0).f16) ((rd_T25 aW 0).f17) ((rd_T25 aW 0).f18) ((rd_T25 aW 0).f19) ((rd_T25 aW 0).f20) ((rd_T25 aW 0).f21) ((rd_T25 aW 0).f22) ((rd_T25 aW 0).f23) ((rd_T25 aW 0).f24)).bind fun dD => (some dD)) else (none)) else (some false)) else (some false)) else (some false)) else (some false)) else (some false)) else (some false))) = some r := H
 have A2 := Aside0.mk dL
 clear dL
 replace H := Option.bind_eq_some_iff.mp H
 obtain ⟨⟨cP, dX, dg⟩, ic, H⟩ := H
 replace H : (if bH = 4 then (if bg = 0 then (if ba = 0 then (if dg = 0 then (if (aW.length : Int) = 1 then (if cP.toList = ([4, 0] : List UInt8) then (if 0 < (aW.length : Int) then ((aodv_Right.f k ((rd_T25 aW 0).f0) ((rd_T25 aW 0).f1) ((rd_T25 aW 0).f2) ((rd_T25 aW 0).f3) ((rd_T25 aW 0).f4) ((rd_T25 aW 0).f5) ((rd_T25 aW 0).f6) ((rd_T25 aW 0).f7) ((rd_T25 aW 0).f8) ((rd_T25 aW 0).f9) ((rd_T25 aW 0).f10) ((rd_T25 aW 0).f11) ((rd_T25 aW 0).f12) ((rd_T25 aW 0).f13) ((rd_T25 aW 0).f14) ((rd_T25 aW 0).f15) ((rd_T25 aW 0).f16) ((rd_T25 aW 0).f17) ((rd_T25 aW 0).f18) ((rd_T25 aW 0).f19) ((rd_T25 aW 0).f20) ((rd_T25 aW 0).f21) ((rd_T25 aW 0).f22) ((rd_T25 aW 0).f23) ((rd_T25 aW 0).f24)).bind fun dD => (some dD)) else (none)) else (some false)) else (some false)) else (some false)) else (some false)) else (some false)) else (some false)) = some r := H
 have A3 := Aside0.mk ic
 clear ic
 by_cases c4 : bH = 4
 ·rw [if_pos c4] at H
  have cf : (bH == 4) = true := beq_iff_eq.mpr c4
  have fd : (bH != 4) = false := bne_eq_false_iff_eq.mpr c4
  clear c4
  by_cases c5 : bg = 0
  ·rw [if_pos c5] at H
   have dx : (bg == 0) = true := beq_iff_eq.mpr c5
   have fJ : (bg != 0) = false := bne_eq_false_iff_eq.mpr c5
   clear c5
   by_cases c6 : ba = 0
   ·rw [if_pos c6] at H
    have dW : (ba == 0) = true := beq_iff_eq.mpr c6
    have ft : (ba != 0) = false := bne_eq_false_iff_eq.mpr c6
    clear c6
    by_cases c7 : dg = 0
    ·rw [if_pos c7] at H
     have dT : (dg == 0) = true := beq_iff_eq.mpr c7
     have hu : (dg != 0) = false := bne_eq_false_iff_eq.mpr c7
     clear c7
     by_cases c8 : (aW.length : Int) = 1
     ·rw [if_pos c8] at H
      have fS : ((aW.length : Int) == 1) = true := beq_iff_eq.mpr c8
      have gF : ((aW.length : Int) != 1) = false := bne_eq_false_iff_eq.mpr c8
      clear c8
      by_cases c9 : cP.toList = ([4, 0] : List UInt8)
      ·rw [if_pos c9] at H
       have ga : (cP.toList == ([4, 0] : List UInt8)) = true := beq_iff_eq.mpr c9
       have gG : (cP.toList != ([4, 0] : List UInt8)) = false := bne_eq_false_iff_eq.mpr c9
       clear c9
       by_cases dv : 0 < (aW.length : Int)
       ·rw [if_pos dv] at H
        have eS : decide (0 < (aW.length : Int)) = true := decide_eq_true dv
        have gn : decide (0 < aW.length) = true := decide_eq_true Z29
        clear dv
        replace H := Option.bind_eq_some_iff.mp H
        obtain ⟨dD, gh, H⟩ := H
        replace H : (some dD) = some r := H
        have iY := Aside0.mk gh
        clear gh
        obtain rfl := Option.some.inj H
        go_enter Try.func40, Try.ntmps40
        go_wp2_with (first | ((with_reducible refine Pre.gate_load 25 rfl ?_); (try (refine gate_guard Z14 ?_; dsimp only)); refine Pre.load_event_a rfl rfl rfl Z14 Pre.range25 Try.underlying25 rfl Z11 ?_) | ((with_reducible refine gate_callee (f := 41) rfl ?_); refine goesL_ (some 11) rfl rfl Try.func41 Z11 rfl #[.string (⟨#[5, 0]⟩ : ByteArray)] rfl Z4 ?_; (with_reducible refine (aodv_Parse.calls k (⟨#[5, 0]⟩ : ByteArray) bU bg bH _ A1.out).mono ?_); rintro e ky ⟨nY, rfl, ho0, hb⟩; refine ⟨_, rfl, ?_⟩; have iF := Aside0.mk (Kd.N_lower (Kd.N_mono (ok' := fun k_ => True) ho0 (fun k_ hk_ => trivial)) (below_size Z2)); replace HB := Aside0.mk (below_step Z2 hb); clear hb ho0) | ((with_reducible refine gate_callee (f := 41) rfl ?_); refine goesL_ (some 16) rfl rfl Try.func41 Z11 rfl #[.string (⟨#[4, 0]⟩ : ByteArray)] rfl Z4 ?_; (with_reducible refine (aodv_Parse.calls k (⟨#[4, 0]⟩ : ByteArray) aW aQ ba _ A2.out).mono ?_); rintro e hS ⟨v107, rfl, ho0, hb⟩; refine ⟨_, rfl, ?_⟩; have fB := Aside0.mk (Kd.N_lower (Kd.N_mono (ok' := fun k_ => some k_ ≠ (nY : Value).ownBlock) ho0 (fun k_ hk_ => (Kd.fresh' (Kd.N_lt Z50) k_ hk_))) (below_size Z2)); replace iF := Aside0.mk (Kd.N_elder' Z50 (Kd.N_base ho0) hb); replace HB := Aside0.mk (below_step Z2 hb); clear hb ho0; obtain ⟨nZ, oa, eo14⟩ := Kd.N_slice fB.out; subst eo14) | ((with_reducible refine gate_callee (f := 47) rfl ?_); refine goesL_ (some 22) rfl rfl Try.func47 Z11 rfl #[.slice nZ aW.length oa] rfl Z4 ?_; (with_reducible refine (aodv_Encode.calls k _ _ aW cP dX dg _ ?side1 ?side2 A3.out).mono ?_); (case side1 => exact (by repeat (first | exact (Kd.N_reads' fB.out).2.2 | (with_reducible refine Kd.C_alloc ?_ _) | (with_reducible refine Kd.C_drewN ?_ _) | (with_reducible refine Kd.C_drew ?_)))); (case side2 => exact (Kd.N_reads' fB.out).2.1); rintro e nE ⟨rfl, hb⟩; refine ⟨_, rfl, ?_⟩; replace iF := Aside0.mk (Kd.N_below Z50 hb); replace fB := Aside0.mk (Kd.N_below (by (with_reducible repeat (first | apply Kd.N_alloc | apply Kd.N_drewN | apply Kd.N_drew)); exact fB.out) hb); replace HB := Aside0.mk (below_step Z2 hb); clear hb; have p114 : 0 ≤ (0 : Int) := Z29; have q114 : 0 < (aW.length : Int) := of_decide_eq_true Z8; obtain ⟨ad114, A114_21, c114_21, A114_24, c114_24, e114, hx114_0, hx114_1, hx114_2, hx114_3, hx114_4, hx114_5, hx114_6, hx114_7, hx114_8, hx114_9, hx114_10, hx114_11, hx114_12, hx114_13, hx114_14, hx114_15, hx114_16, hx114_17, hx114_18, hx114_19, hx114_20, hx114_21, hx114_22, hx114_23, hx114_24, hl114_21, hi114_21, hl114_24, hi114_24⟩ := at_T25 (Kd.N_reads' fB.out).2.2 0 p114 q114; cases e114; obtain ⟨ce114, hce114, hMe114, hcc114⟩ := Kd.N_get fB.out z25 0 p114 (by first | exact q114 | exact of_decide_eq_true Z8 | (have e_ := (Kd.N_reads' fB.out).1; omega)); obtain ⟨ua114_21, uc114_21, ua114_24, uc114_24, rfl, ul114_21, ge114_21, ul114_24, ge114_24⟩ := k25_openF hMe114; have hv114_21 := hcc114 21 _ rfl; rw [add_field _ _ 21 Z29] at hv114_21; replace hv114_21 := Option.some.inj (hv114_21.symm.trans hx114_21); injection hv114_21 with hva_ hvn_ hvc_; rw [hva_] at ge114_21; rw [hvc_] at ul114_21; have HL114_21 := Aside0.mk (show Kd.V k46 46 _ w.heap.size _ _ ((rd_T25 aW 0).f21) from Kd.V_mk ul114_21 ge114_21); clear hva_ hvn_ hvc_ ge114_21 ul114_21; have hv114_24 := hcc114 24 _ rfl; rw [add_field _ _ 24 Z29] at hv114_24; replace hv114_24 := Option.some.inj (hv114_24.symm.trans hx114_24); injection hv114_24 with hva_ hvn_ hvc_; rw [hva_] at ge114_24; rw [hvc_] at ul114_24; have HL114_24 := Aside0.mk (show Kd.V k48 48 _ w.heap.size _ _ ((rd_T25 aW 0).f24) from Kd.V_mk ul114_24 ge114_24); clear hva_ hvn_ hvc_ ge114_24 ul114_24; clear hcc114 hce114; have qi114 : (0 < aW.length) = True := eq_true Z29; (try rw [show ((0 : Int)).toNat = 0 from rfl] at hx114_0); (try rw [show 0 * 25 = 0 from rfl] at hx114_0); (try rw [Addr.add_zero'] at hx114_0); (try rw [show ((0 : Int)).toNat = 0 from rfl] at hx114_1); (try rw [show 0 * 25 = 0 from rfl] at hx114_1); (try rw [Addr.add_zero'] at hx114_1); (try rw [show ((0 : Int)).toNat = 0 from rfl] at hx114_2); (try rw [show 0 * 25 = 0 from rfl] at hx114_2); (try rw [Addr.add_zero'] at hx114_2); (try rw [show ((0 : Int)).toNat = 0 from rfl] at hx114_3); (try rw [show 0 * 25 = 0 from rfl] at hx114_3); (try rw [Addr.add_zero'] at hx114_3); (try rw [show ((0 : Int)).toNat = 0 from rfl] at hx114_4); (try rw [show 0 * 25 = 0 from rfl] at hx114_4); (try rw [Addr.add_zero'] at hx114_4); (try rw [show ((0 : Int)).toNat = 0 from rfl] at hx114_5); (try rw [show 0 * 25 = 0 from rfl] at hx114_5); (try rw [Addr.add_zero'] at hx114_5); (try rw [show ((0 : Int)).toNat = 0 from rfl] at hx114_6); (try rw [show 0 * 25 = 0 from rfl] at hx114_6); (try rw [Addr.add_zero'] at hx114_6); (try rw [show ((0 : Int)).toNat = 0 from rfl] at hx114_7); (try rw [show 0 * 25 = 0 from rfl] at hx114_7); (try rw [Addr.add_zero'] at hx114_7); (try rw [show ((0 : Int)).toNat = 0 from rfl] at hx114_8); (try rw [show 0 * 25 = 0 from rfl] at hx114_8); (try rw [Addr.add_zero'] at hx114_8); (try rw [show ((0 : Int)).toNat = 0 from rfl] at hx114_9); (try rw [show 0 * 25 = 0 from rfl] at hx114_9); (try rw [Addr.add_zero'] at hx114_9); (try rw [show ((0 : Int)).toNat = 0 from rfl] at hx114_10); (try rw [show 0 * 25 = 0 from rfl] at hx114_10); (try rw [Addr.add_zero'] at hx114_10); (try rw [show ((0 : Int)).toNat = 0 from rfl] at hx114_11); (try rw [show 0 * 25 = 0 from rfl] at hx114_11); (try rw [Addr.add_zero'] at hx114_11); (try rw [show ((0 : Int)).toNat = 0 from rfl] at hx114_12); (try rw [show 0 * 25 = 0 from rfl] at hx114_12); (try rw [Addr.add_zero'] at hx114_12); (try rw [show ((0 : Int)).toNat = 0 from rfl] at hx114_13); (try rw [show 0 * 25 = 0 from rfl] at hx114_13); (try rw [Addr.add_zero'] at hx114_13); (try rw [show ((0 : Int)).toNat = 0 from rfl] at hx114_14); (try rw [show 0 * 25 = 0 from rfl] at hx114_14); (try rw [Addr.add_zero'] at hx114_14); (try rw [show ((0 : Int)).toNat = 0 from rfl] at hx114_15); (try rw [show 0 * 25 = 0 from rfl] at hx114_15); (try rw [Addr.add_zero'] at hx114_15); (try rw [show ((0 : Int)).toNat = 0 from rfl] at hx114_16); (try rw [show 0 * 25 = 0 from rfl] at hx114_16); (try rw [Addr.add_zero'] at hx114_16); (try rw [show ((0 : Int)).toNat = 0 from rfl] at hx114_17); (try rw [show 0 * 25 = 0 from rfl] at hx114_17); (try rw [Addr.add_zero'] at hx114_17); (try rw [show ((0 : Int)).toNat = 0 from rfl] at hx114_18); (try rw [show 0 * 25 = 0 from rfl] at hx114_18); (try rw [Addr.add_zero'] at hx114_18); (try rw [show ((0 : Int)).toNat = 0 from rfl] at hx114_19); (try rw [show 0 * 25 = 0 from rfl] at hx114_19); (try rw [Addr.add_zero'] at hx114_19); (try rw [show ((0 : Int)).toNat = 0 from rfl] at hx114_20); (try rw [show 0 * 25 = 0 from rfl] at hx114_20); (try rw [Addr.add_zero'] at hx114_20); (try rw [show ((0 : Int)).toNat = 0 from rfl] at hx114_21); (try rw [show 0 * 25 = 0 from rfl] at hx114_21); (try rw [Addr.add_zero'] at hx114_21); (try rw [show ((0 : Int)).toNat = 0 from rfl] at hx114_22); (try rw [show 0 * 25 = 0 from rfl] at hx114_22); (try rw [Addr.add_zero'] at hx114_22); (try rw [show ((0 : Int)).toNat = 0 from rfl] at hx114_23); (try rw [show 0 * 25 = 0 from rfl] at hx114_23); (try rw [Addr.add_zero'] at hx114_23); (try rw [show ((0 : Int)).toNat = 0 from rfl] at hx114_24); (try rw [show 0 * 25 = 0 from rfl] at hx114_24); (try rw [Addr.add_zero'] at hx114_24); have gD := Aside0.mk hi114_21; have jL := Aside0.mk hl114_21; clear hi114_21 hl114_21; have gE := Aside0.mk hi114_24; have jM := Aside0.mk hl114_24; clear hi114_24 hl114_24; replace p114 := eq_true p114; replace q114 := eq_true q114) | (go_at_call 45; (with_reducible refine (aodv_Right.calls k ((rd_T25 aW 0).f0) ((rd_T25 aW 0).f1) ((rd_T25 aW 0).f2) ((rd_T25 aW 0).f3) ((rd_T25 aW 0).f4) ((rd_T25 aW 0).f5) ((rd_T25 aW 0).f6) ((rd_T25 aW 0).f7) ((rd_T25 aW 0).f8) ((rd_T25 aW 0).f9) ((rd_T25 aW 0).f10) ((rd_T25 aW 0).f11) ((rd_T25 aW 0).f12) ((rd_T25 aW 0).f13) ((rd_T25 aW 0).f14) ((rd_T25 aW 0).f15) ((rd_T25 aW 0).f16) ((rd_T25 aW 0).f17) ((rd_T25 aW 0).f18) ((rd_T25 aW 0).f19) ((rd_T25 aW 0).f20) _ _ ((rd_T25 aW 0).f21) ((rd_T25 aW 0).f22) ((rd_T25 aW 0).f23) _ _ ((rd_T25 aW 0).f24) dD _ ?side1 ?side2 ?side3 ?side4 iY.out).mono ?_); (case side1 => exact (by repeat (first | exact Z56 | (with_reducible refine Kd.C_alloc ?_ _) | (with_reducible refine Kd.C_drewN ?_ _) | (with_reducible refine Kd.C_drew ?_)))); (case side2 => exact jL.out); (case side3 => exact (by repeat (first | exact Z55 | (with_reducible refine Kd.C_alloc ?_ _) | (with_reducible refine Kd.C_drewN ?_ _) | (with_reducible refine Kd.C_drew ?_)))); (case side4 => exact jM.out); rintro e kp ⟨rfl, hb⟩; replace iF := Aside0.mk (Kd.N_below Z50 hb); replace fB := Aside0.mk (Kd.N_below (by (with_reducible repeat (first | apply Kd.N_alloc | apply Kd.N_drewN | apply Kd.N_drew)); exact fB.out) hb); replace HL114_21 := Aside0.mk (Kd.V_below (by (with_reducible repeat (first | apply Kd.V_alloc | apply Kd.V_drewN | apply Kd.V_drew)); exact HL114_21.out) hb); replace HL114_24 := Aside0.mk (Kd.V_below (by (with_reducible repeat (first | apply Kd.V_alloc | apply Kd.V_drewN | apply Kd.V_drew)); exact HL114_24.out) hb); replace gD := Aside0.mk (Kd.C_below Z56 hb); replace gE := Aside0.mk (Kd.C_below Z55 hb); replace HB := Aside0.mk (below_step Z2 hb); clear hb))
        go_ret
        exact ⟨Z6, Z2⟩
       ·rw [if_neg dv] at H
        exact absurd H Z35
      ·rw [if_neg c9] at H
       have ga : (cP.toList == ([4, 0] : List UInt8)) = false := beq_eq_false_iff_ne.mpr c9
       have gG : (cP.toList != ([4, 0] : List UInt8)) = true := bne_iff_ne.mpr c9
       exact absurd (Option.some.inj H) Z45
     ·rw [if_neg c8] at H
      have fS : ((aW.length : Int) == 1) = false := beq_eq_false_iff_ne.mpr c8
      have gF : ((aW.length : Int) != 1) = true := bne_iff_ne.mpr c8
      exact absurd (Option.some.inj H) Z45
    ·rw [if_neg c7] at H
     have dT : (dg == 0) = false := beq_eq_false_iff_ne.mpr c7
     have hu : (dg != 0) = true := bne_iff_ne.mpr c7
     exact absurd (Option.some.inj H) Z45
   ·rw [if_neg c6] at H
    have dW : (ba == 0) = false := beq_eq_false_iff_ne.mpr c6
    have ft : (ba != 0) = true := bne_iff_ne.mpr c6
    exact absurd (Option.some.inj H) Z45
  ·rw [if_neg c5] at H
   have dx : (bg == 0) = false := beq_eq_false_iff_ne.mpr c5
   have fJ : (bg != 0) = true := bne_iff_ne.mpr c5
   exact absurd (Option.some.inj H) Z45
 ·rw [if_neg c4] at H
  have cf : (bH == 4) = false := beq_eq_false_iff_ne.mpr c4
  have fd : (bH != 4) = true := bne_iff_ne.mpr c4
  exact absurd (Option.some.inj H) Z45

end Go.Proofs.Ytccjakjjaemmkaa.PAE
