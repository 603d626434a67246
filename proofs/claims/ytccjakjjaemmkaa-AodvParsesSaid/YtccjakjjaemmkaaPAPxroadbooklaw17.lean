-- Written by mp.py, a program of this work (wip/tools), out of the translation; Lean checks it.
import Derived.Test.YtccjakjjaemmkaaPAPxZ
import Derived.Test.YtccjakjjaemmkaaPAPxaodv
import Derived.Test.YtccjakjjaemmkaaLoad
namespace Go.Proofs.Ytccjakjjaemmkaa.PAP
open Go.RowKit Go.Proofs.YtccjakjjaemmkaaW.PrintWords Go.Proofs.YtccjakjjaemmkaaW.PrintLast Go.Proofs.YtccjakjjaemmkaaW.PrintMore
attribute [local go_sem] max2_int min2_int max_two min_two max_three min_three max_four min_four   -- for this text's walks alone
set_option linter.unusedVariables false
set_option linter.unusedSimpArgs false

/-! ### roadbooklaw17_awake: function 40 -/
def roadbooklaw17_awake.f (k : Nat)  : Option (Bool) := (aodv_Parse.f k (⟨#[5, 0]⟩ : ByteArray)).bind fun aT => ((aodv_Parse.f k (⟨#[4, 0]⟩ : ByteArray)).bind fun bj => ((aodv_Encode.f k bj.1).bind fun gq => (if aT.2.2 = 4 then (if aT.2.1 = 0 then (if bj.2.2 = 0 then (if gq.2.2 = 0 then (if (bj.1.length : Int) = 1 then (if gq.1.toList = ([4, 0] : List UInt8) then (if 0 < (bj.1.length : Int) then ((aodv_Right.f k ((rd_T25 bj.1 0).f0) ((rd_T25 bj.1 0).f1) ((rd_T25 bj.1 0).f2) ((rd_T25 bj.1 0).f3) ((rd_T25 bj.1 0).f4) ((rd_T25 bj.1 0).f5) ((rd_T25 bj.1 0).f6) ((rd_T25 bj.1 0).f7) ((rd_T25 bj.1 0).f8) ((rd_T25 bj.1 0).f9) ((rd_T25 bj.1 0).f10) ((rd_T25 bj.1 0).f11) ((rd_T25 bj.1 0).f12) ((rd_T25 bj.1 0).f13) ((rd_T25 bj.1 0).f14) ((rd_T25 bj.1 0).f15) ((rd_T25 bj.1 0).f16) ((rd_T25 bj.1 0).f17) ((rd_T25 bj.1 0).f18) ((rd_T25 bj.1 0).f19) ((rd_T25 bj.1 0).f20) ((rd_T25 bj.1 0).f21) ((rd_T25 bj.1 0).f22) ((rd_T25 bj.1 0).f23) ((rd_T25 bj.1 0).f24)).bind fun bF => (some bF)) else (none)) else (some false)) else (some false)) else (some false)) else (some false)) else (some false)) else (some false))))
theorem roadbooklaw17_awake.mono : ∀ k, LeO (roadbooklaw17_awake.f k ) (roadbooklaw17_awake.f (k + 1) ) := by
 intro  k
 unfold roadbooklaw17_awake.f
 repeat' first
   | (with_reducible exact aodv_Encode.mono _ _)
   | (with_reducible exact aodv_Parse.mono _ _)
   | (with_reducible exact aodv_Right.mono _ _ _ _ _ _ _ _ _ _ _ _ _ _ _ _ _ _ _ _ _ _ _ _ _ _)
   | (with_reducible exact LeO.refl _)
   | (with_reducible exact LeO.none _)
   | (with_reducible refine LeO.ite ?_ ?_)
   | (with_reducible refine LeO.bind ?_ (fun _ => ?_))
   | exact aodv_Encode.mono _ _
   | exact aodv_Parse.mono _ _
   | exact aodv_Right.mono _ _ _ _ _ _ _ _ _ _ _ _ _ _ _ _ _ _ _ _ _ _ _ _ _ _
   | exact LeO.none _
   | refine LeO.ite ?_ ?_
   | refine LeO.bind ?_ (fun _ => ?_)

set_option maxHeartbeats 8000000 in
set_option maxRecDepth 100000 in
theorem roadbooklaw17_awake.calls (k : Nat)  (r : Bool) (w : World) (hr_ : Aside0 (r = true)) (h : roadbooklaw17_awake.f k  = some r) :
  Calls Try.prog 40 #[] w fun e w' => e = .returned (.bool r) ∧ Below w.heap.size w w' := by
 have fn := Try.underlying25
 have HB := Aside0.mk (Below.refl w.heap.size w)
 have H : ((aodv_Parse.f k (⟨#[5, 0]⟩ : ByteArray)).bind fun aT => ((aodv_Parse.f k (⟨#[4, 0]⟩ : ByteArray)).bind fun bj => ((aodv_Encode.f k bj.1).bind fun gq => (if aT.2.2 = 4 then (if aT.2.1 = 0 then (if bj.2.2 = 0 then (if gq.2.2 = 0 then (if (bj.1.length : Int) = 1 then (if gq.1.toList = ([4, 0] : List UInt8) then (if 0 < (bj.1.length : Int) then ((aodv_Right.f k ((rd_T25 bj.1 0).f0) ((rd_T25 bj.1 0).f1) ((rd_T25 bj.1 0).f2) ((rd_T25 bj.1 0).f3) ((rd_T25 bj.1 0).f4) ((rd_T25 bj.1 0).f5) ((rd_T25 bj.1 0).f6) ((rd_T25 bj.1 0).f7) ((rd_T25 bj.1 0).f8) ((rd_T25 bj.1 0).f9) ((rd_T25 bj.1 0).f10) ((rd_T25 bj.1 0).f11) ((rd_T25 bj.1 0).f12) ((rd_T25 bj.1 0).f13) ((rd_T25 bj.1 0).f14) ((rd_T25 bj.1 0).f15) ((rd_T25 bj.1 0).f16) ((rd_T25 bj.1 0).f17) ((rd_T25 bj.1 0).f18) ((rd_T25 bj.1 0).f19) ((rd_T25 bj.1 0).f20) ((rd_T25 bj.1 0).f21) ((rd_T25 bj.1 0).f22) ((rd_T25 bj.1 0).f23) ((rd_T25 bj.1 0).f24)).bind fun bF => (some bF)) else (none)) else (some false)) else (some false)) else (some false)) else (some false)) else (some false)) else (some false))))) = some r := h
 clear h
 replace H := Option.bind_eq_some_iff.mp H
 obtain ⟨⟨bB, aV, bi⟩, lA, H⟩ := H
 replace H : ((aodv_Parse.f k (⟨#[4, 0]⟩ : ByteArray)).bind fun bj => ((aodv_Encode.f k bj.1).bind fun gq => (if bi = 4 then (if aV = 0 then (if bj.2.2 = 0 then (if gq.2.2 = 0 then (if (bj.1.length : Int) = 1 then (if gq.1.toList = ([4, 0] : List UInt8) then (if 0 < (bj.1.length : Int) then ((aodv_Right.f k ((rd_T25 bj.1 0).f0) ((rd_T25 bj.1 0).f1) ((rd_T25 bj.1 0).f2) ((rd_T25 bj.1 0).f3) ((rd_T25 bj.1 0).f4) ((rd_T25 bj.1 0).f5) ((rd_T25 bj.1 0).f6) ((rd_T25 bj.1 0).f7) ((rd_T25 bj.1 0).f8) ((rd_T25 bj.1 0).f9) ((rd_T25 bj.1 0).f10) ((rd_T25 bj.1 0).f11) ((rd_T25 bj.1 0).f12) ((rd_T25 bj.1 0).f13) ((rd_T25 bj.1 0).f14) ((rd_T25 bj.1 0).f15) ((rd_T25 bj.1 0).f16) ((rd_T25 bj.1 0).f17) ((rd_T25 bj.1 0).f18) ((rd_T25 bj.1 0).f19) ((rd_T25 bj.1 0).f20) ((rd_T25 bj.1 0).f21) ((rd_T25 bj.1 0).f22) ((rd_T25 bj.1 0).f23) ((rd_T25 bj.1 0).f24)).bind fun bF => (some bF)) else (none)) else (some false)) else (some false)) else (some false)) else (some false)) else (some false)) else (some false)))) = some r := H
 have A1 := Aside0.mk lA
 clear lA
 replace H := Option.bind_eq_some_iff.mp H
 obtain ⟨⟨aU, ba, bk⟩, gr, H⟩ := H
 replace H : ((aodv_Encode.f k aU).bind fun gq => (if bi = 4 then (if aV = 0 then (if bk = 0 then (if gq.2.2 = 0 then (if (aU.length : Int) = 1 then (if gq.1.toList = ([4, 0] : List UInt8) then (if 0 < (aU.length : Int) then ((aodv_Right.f k ((rd_T25 aU 0).f0) ((rd_T25 aU 0).f1) ((rd_T25 aU 0).f2) ((rd_T25 aU 0).f3) ((rd_T25 aU 0).f4) ((rd_T25 aU 0).f5) ((rd_T25 aU 0).f6) ((rd_T25 aU 0).f7) ((rd_T25 aU 0).f8) ((rd_T25 aU 0).f9) ((rd_T25 aU 0).f10) ((rd_T25 aU 0).f11) ((rd_T25 aU 0).f12) ((rd_T25 aU 0).f13) ((rd_T25 aU 0).f14) ((rd_T25 aU 0).f15) ((rd_T25 aU 0).f16) ((rd_T25 aU 0).f17) ((rd_T25 aU 0).f18) ((rd_T25 aU 0).f19) ((rd_T25 aU 0).f20) ((rd_T25 aU 0).f21) ((rd_T25 aU 0).f22) ((rd_T25 aU 0).f23) ((rd_T25 aU 0).f24)).bind fun bF => (some bF)) else (none)) else (some false)) else (some false)) else (some false)) else (some false)) else (some false)) else (some false))) = some r := H
 have A2 := Aside0.mk gr
 clear gr
 replace H := Option.bind_eq_some_iff.mp H
 obtain ⟨⟨bK, cj, bL⟩, kX, H⟩ := H
 replace H : (if bi = 4 then (if aV = 0 then (if bk = 0 then (if bL = 0 then (if (aU.length : Int) = 1 then (if bK.toList = ([4, 0] : List UInt8) then (if 0 < (aU.length : Int) then ((aodv_Right.f k ((rd_T25 aU 0).f0) ((rd_T25 aU 0).f1) ((rd_T25 aU 0).f2) ((rd_T25 aU 0).f3) ((rd_T25 aU 0).f4) ((rd_T25 aU 0).f5) ((rd_T25 aU 0).f6) ((rd_T25 aU 0).f7) ((rd_T25 aU 0).f8) ((rd_T25 aU 0).f9) ((rd_T25 aU 0).f10) ((rd_T25 aU 0).f11) ((rd_T25 aU 0).f12) ((rd_T25 aU 0).f13) ((rd_T25 aU 0).f14) ((rd_T25 aU 0).f15) ((rd_T25 aU 0).f16) ((rd_T25 aU 0).f17) ((rd_T25 aU 0).f18) ((rd_T25 aU 0).f19) ((rd_T25 aU 0).f20) ((rd_T25 aU 0).f21) ((rd_T25 aU 0).f22) ((rd_T25 aU 0).f23) ((rd_T25 aU 0).f24)).bind fun bF => (some bF)) else (none)) else (some false)) else (some false)) else (some false)) else (some false)) else (some false)) else (some false)) = some r := H
 have A3 := Aside0.mk kX
 clear kX
 by_cases c4 : bi = 4
 ·rw [if_pos c4] at H
  have dL : (bi == 4) = true := beq_iff_eq.mpr c4
  have gh : (bi != 4) = false := bne_eq_false_iff_eq.mpr c4
  clear c4
  by_cases c5 : aV = 0
  ·rw [if_pos c5] at H
   have fg : (aV == 0) = true := beq_iff_eq.mpr c5
   have im : (aV != 0) = false := bne_eq_false_iff_eq.mpr c5
   clear c5
   by_cases c6 : bk = 0
   ·rw [if_pos c6] at H
    have ga : (bk == 0) = true := beq_iff_eq.mpr c6
    have ii : (bk != 0) = false := bne_eq_false_iff_eq.mpr c6
    clear c6
    by_cases c7 : bL = 0
    ·rw [if_pos c7] at H
     have fz : (bL == 0) = true := beq_iff_eq.mpr c7
     have kT : (bL != 0) = false := bne_eq_false_iff_eq.mpr c7
     clear c7
     by_cases c8 : (aU.length : Int) = 1
     ·rw [if_pos c8] at H
      have gf : ((aU.length : Int) == 1) = true := beq_iff_eq.mpr c8
      have iU : ((aU.length : Int) != 1) = false := bne_eq_false_iff_eq.mpr c8
      clear c8
      by_cases c9 : bK.toList = ([4, 0] : List UInt8)
      ·rw [if_pos c9] at H
       have ij : (bK.toList == ([4, 0] : List UInt8)) = true := beq_iff_eq.mpr c9
       have lL : (bK.toList != ([4, 0] : List UInt8)) = false := bne_eq_false_iff_eq.mpr c9
       clear c9
       by_cases en : 0 < (aU.length : Int)
       ·rw [if_pos en] at H
        have eP : decide (0 < (aU.length : Int)) = true := decide_eq_true en
        have fv : decide (0 < aU.length) = true := decide_eq_true Z34
        clear en
        replace H := Option.bind_eq_some_iff.mp H
        obtain ⟨bF, mh, H⟩ := H
        replace H : (some bF) = some r := H
        have sR := Aside0.mk mh
        clear mh
        obtain rfl := Option.some.inj H
        go_enter Try.func40, Try.ntmps40
        go_wp2_with (first | ((with_reducible refine Pre.gate_load 25 rfl ?_); (try (refine gate_guard Z22 ?_; dsimp only)); refine Pre.load_event_a rfl rfl rfl Z22 Pre.range25 Try.underlying25 rfl Z14 ?_) | ((with_reducible refine gate_callee (f := 41) rfl ?_); refine goesL_ (some 11) rfl rfl Try.func41 Z14 rfl #[.string (⟨#[5, 0]⟩ : ByteArray)] rfl Z4 ?_; (with_reducible refine (aodv_Parse.calls k (⟨#[5, 0]⟩ : ByteArray) bB aV bi _ A1.out).mono ?_); rintro e po ⟨rq, rfl, ho0, hb⟩; refine ⟨_, rfl, ?_⟩; have jG := Aside0.mk (Kd.N_lower (Kd.N_mono (ok' := fun k_ => True) ho0 (fun k_ hk_ => trivial)) (below_size Z1)); replace HB := Aside0.mk (below_step Z1 hb); clear hb ho0) | ((with_reducible refine gate_callee (f := 41) rfl ?_); refine goesL_ (some 16) rfl rfl Try.func41 Z14 rfl #[.string (⟨#[4, 0]⟩ : ByteArray)] rfl Z4 ?_; (with_reducible refine (aodv_Parse.calls k (⟨#[4, 0]⟩ : ByteArray) aU ba bk _ A2.out).mono ?_); rintro e jP ⟨v107, rfl, ho0, hb⟩; refine ⟨_, rfl, ?_⟩; have gW := Aside0.mk (Kd.N_lower (Kd.N_mono (ok' := fun k_ => some k_ ≠ (rq : Value).ownBlock) ho0 (fun k_ hk_ => (Kd.fresh' (Kd.N_lt Z83) k_ hk_))) (below_size Z1)); replace jG := Aside0.mk (Kd.N_elder' Z83 (Kd.N_base ho0) hb); replace HB := Aside0.mk (below_step Z1 hb); clear hb ho0; obtain ⟨nh, ni, eo14⟩ := Kd.N_slice gW.out; subst eo14) | ((with_reducible refine gate_callee (f := 47) rfl ?_); refine goesL_ (some 22) rfl rfl Try.func47 Z14 rfl #[.slice nh aU.length ni] rfl Z4 ?_; (with_reducible refine (aodv_Encode.calls k _ _ aU bK cj bL _ ?side1 ?side2 A3.out).mono ?_); (case side1 => exact (by repeat (first | exact (Kd.N_reads' gW.out).2.2 | (with_reducible refine Kd.C_alloc ?_ _) | (with_reducible refine Kd.C_drewN ?_ _) | (with_reducible refine Kd.C_drew ?_)))); (case side2 => exact (Kd.N_reads' gW.out).2.1); rintro e mj ⟨rfl, hb⟩; refine ⟨_, rfl, ?_⟩; replace jG := Aside0.mk (Kd.N_below Z83 hb); replace gW := Aside0.mk (Kd.N_below (by (with_reducible repeat (first | apply Kd.N_alloc | apply Kd.N_drewN | apply Kd.N_drew)); exact gW.out) hb); replace HB := Aside0.mk (below_step Z1 hb); clear hb; have p114 : 0 ≤ (0 : Int) := Z34; have q114 : 0 < (aU.length : Int) := of_decide_eq_true Z6; obtain ⟨ad114, A114_21, c114_21, A114_24, c114_24, e114, hx114_0, hx114_1, hx114_2, hx114_3, hx114_4, hx114_5, hx114_6, hx114_7, hx114_8, hx114_9, hx114_10, hx114_11, hx114_12, hx114_13, hx114_14, hx114_15, hx114_16, hx114_17, hx114_18, hx114_19, hx114_20, hx114_21, hx114_22, hx114_23, hx114_24, hl114_21, hi114_21, hl114_24, hi114_24⟩ := at_T25 (Kd.N_reads' gW.out).2.2 0 p114 q114; cases e114; obtain ⟨ce114, hce114, hMe114, hcc114⟩ := Kd.N_get gW.out z25 0 p114 (by first | exact q114 | exact of_decide_eq_true Z6 | (have e_ := (Kd.N_reads' gW.out).1; omega)); obtain ⟨ua114_21, uc114_21, ua114_24, uc114_24, rfl, ul114_21, ge114_21, ul114_24, ge114_24⟩ := k25_openF hMe114; have hv114_21 := hcc114 21 _ rfl; rw [add_field _ _ 21 Z34] at hv114_21; replace hv114_21 := Option.some.inj (hv114_21.symm.trans hx114_21); injection hv114_21 with hva_ hvn_ hvc_; rw [hva_] at ge114_21; rw [hvc_] at ul114_21; have HL114_21 := Aside0.mk (show Kd.V k46 46 _ w.heap.size _ _ ((rd_T25 aU 0).f21) from Kd.V_mk ul114_21 ge114_21); clear hva_ hvn_ hvc_ ge114_21 ul114_21; have hv114_24 := hcc114 24 _ rfl; rw [add_field _ _ 24 Z34] at hv114_24; replace hv114_24 := Option.some.inj (hv114_24.symm.trans hx114_24); injection hv114_24 with hva_ hvn_ hvc_; rw [hva_] at ge114_24; rw [hvc_] at ul114_24; have HL114_24 := Aside0.mk (show Kd.V k48 48 _ w.heap.size _ _ ((rd_T25 aU 0).f24) from Kd.V_mk ul114_24 ge114_24); clear hva_ hvn_ hvc_ ge114_24 ul114_24; clear hcc114 hce114; have qi114 : (0 < aU.length) = True := eq_true Z34; (try rw [show ((0 : Int)).toNat = 0 from rfl] at hx114_0); (try rw [show 0 * 25 = 0 from rfl] at hx114_0); (try rw [Addr.add_zero'] at hx114_0); (try rw [show ((0 : Int)).toNat = 0 from rfl] at hx114_1); (try rw [show 0 * 25 = 0 from rfl] at hx114_1); (try rw [Addr.add_zero'] at hx114_1); (try rw [show ((0 : Int)).toNat = 0 from rfl] at hx114_2); (try rw [show 0 * 25 = 0 from rfl] at hx114_2); (try rw [Addr.add_zero'] at hx114_2); (try rw [show ((0 : Int)).toNat = 0 from rfl] at hx114_3); (try rw [show 0 * 25 = 0 from rfl] at hx114_3); (try rw [Addr.add_zero'] at hx114_3); (try rw [show ((0 : Int)).toNat = 0 from rfl] at hx114_4); (try rw [show 0 * 25 = 0 from rfl] at hx114_4); (try rw [Addr.add_zero'] at hx114_4); (try rw [show ((0 : Int)).toNat = 0 from rfl] at hx114_5); (try rw [show 0 * 25 = 0 from rfl] at hx114_5); (try rw [Addr.add_zero'] at hx114_5); (try rw [show ((0 : Int)).toNat = 0 from rfl] at hx114_6); (try rw [show 0 * 25 = 0 from rfl] at hx114_6); (try rw [Addr.add_zero'] at hx114_6); (try rw [show ((0 : Int)).toNat = 0 from rfl] at hx114_7); (try rw [show 0 * 25 = 0 from rfl] at hx114_7); (try rw [Addr.add_zero'] at hx114_7); (try rw [show ((0 : Int)).toNat = 0 from rfl] at hx114_8); (try rw [show 0 * 25 = 0 from rfl] at hx114_8); (try rw [Addr.add_zero'] at hx114_8); (try rw [show ((0 : Int)).toNat = 0 from rfl] at hx114_9); (try rw [show 0 * 25 = 0 from rfl] at hx114_9); (try rw [Addr.add_zero'] at hx114_9); (try rw [show ((0 : Int)).toNat = 0 from rfl] at hx114_10); (try rw [show 0 * 25 = 0 from rfl] at hx114_10); (try rw [Addr.add_zero'] at hx114_10); (try rw [show ((0 : Int)).toNat = 0 from rfl] at hx114_11); (try rw [show 0 * 25 = 0 from rfl] at hx114_11); (try rw [Addr.add_zero'] at hx114_11); (try rw [show ((0 : Int)).toNat = 0 from rfl] at hx114_12); (try rw [show 0 * 25 = 0 from rfl] at hx114_12); (try rw [Addr.add_zero'] at hx114_12); (try rw [show ((0 : Int)).toNat = 0 from rfl] at hx114_13); (try rw [show 0 * 25 = 0 from rfl] at hx114_13); (try rw [Addr.add_zero'] at hx114_13); (try rw [show ((0 : Int)).toNat = 0 from rfl] at hx114_14); (try rw [show 0 * 25 = 0 from rfl] at hx114_14); (try rw [Addr.add_zero'] at hx114_14); (try rw [show ((0 : Int)).toNat = 0 from rfl] at hx114_15); (try rw [show 0 * 25 = 0 from rfl] at hx114_15); (try rw [Addr.add_zero'] at hx114_15); (try rw [show ((0 : Int)).toNat = 0 from rfl] at hx114_16); (try rw [show 0 * 25 = 0 from rfl] at hx114_16); (try rw [Addr.add_zero'] at hx114_16); (try rw [show ((0 : Int)).toNat = 0 from rfl] at hx114_17); (try rw [show 0 * 25 = 0 from rfl] at hx114_17); (try rw [Addr.add_zero'] at hx114_17); (try rw [show ((0 : Int)).toNat = 0 from rfl] at hx114_18); (try rw [show 0 * 25 = 0 from rfl] at hx114_18); (try rw [Addr.add_zero'] at hx114_18); (try rw [show ((0 : Int)).toNat = 0 from rfl] at hx114_19); (try rw [show 0 * 25 = 0 from rfl] at hx114_19); (try rw [Addr.add_zero'] at hx114_19); (try rw [show ((0 : Int)).toNat = 0 from rfl] at hx114_20); (try rw [show 0 * 25 = 0 from rfl] at hx114_20); (try rw [Addr.add_zero'] at hx114_20); (try rw [show ((0 : Int)).toNat = 0 from rfl] at hx114_21); (try rw [show 0 * 25 = 0 from rfl] at hx114_21); (try rw [Addr.add_zero'] at hx114_21); (try rw [show ((0 : Int)).toNat = 0 from rfl] at hx114_22); (try rw [show 0 * 25 = 0 from rfl] at hx114_22); (try rw [Addr.add_zero'] at hx114_22); (try rw [show ((0 : Int)).toNat = 0 from rfl] at hx114_23); (try rw [show 0 * 25 = 0 from rfl] at hx114_23); (try rw [Addr.add_zero'] at hx114_23); (try rw [show ((0 : Int)).toNat = 0 from rfl] at hx114_24); (try rw [show 0 * 25 = 0 from rfl] at hx114_24); (try rw [Addr.add_zero'] at hx114_24); have jo := Aside0.mk hi114_21; have nk := Aside0.mk hl114_21; clear hi114_21 hl114_21; have jp := Aside0.mk hi114_24; have nm := Aside0.mk hl114_24; clear hi114_24 hl114_24; replace p114 := eq_true p114; replace q114 := eq_true q114) | (go_at_call 45; (with_reducible refine (aodv_Right.calls k ((rd_T25 aU 0).f0) ((rd_T25 aU 0).f1) ((rd_T25 aU 0).f2) ((rd_T25 aU 0).f3) ((rd_T25 aU 0).f4) ((rd_T25 aU 0).f5) ((rd_T25 aU 0).f6) ((rd_T25 aU 0).f7) ((rd_T25 aU 0).f8) ((rd_T25 aU 0).f9) ((rd_T25 aU 0).f10) ((rd_T25 aU 0).f11) ((rd_T25 aU 0).f12) ((rd_T25 aU 0).f13) ((rd_T25 aU 0).f14) ((rd_T25 aU 0).f15) ((rd_T25 aU 0).f16) ((rd_T25 aU 0).f17) ((rd_T25 aU 0).f18) ((rd_T25 aU 0).f19) ((rd_T25 aU 0).f20) _ _ ((rd_T25 aU 0).f21) ((rd_T25 aU 0).f22) ((rd_T25 aU 0).f23) _ _ ((rd_T25 aU 0).f24) bF _ ?side1 ?side2 ?side3 ?side4 sR.out).mono ?_); (case side1 => exact (by repeat (first | exact Z97 | (with_reducible refine Kd.C_alloc ?_ _) | (with_reducible refine Kd.C_drewN ?_ _) | (with_reducible refine Kd.C_drew ?_)))); (case side2 => exact nk.out); (case side3 => exact (by repeat (first | exact Z96 | (with_reducible refine Kd.C_alloc ?_ _) | (with_reducible refine Kd.C_drewN ?_ _) | (with_reducible refine Kd.C_drew ?_)))); (case side4 => exact nm.out); rintro e kU ⟨rfl, hb⟩; replace jG := Aside0.mk (Kd.N_below Z83 hb); replace gW := Aside0.mk (Kd.N_below (by (with_reducible repeat (first | apply Kd.N_alloc | apply Kd.N_drewN | apply Kd.N_drew)); exact gW.out) hb); replace HL114_21 := Aside0.mk (Kd.V_below (by (with_reducible repeat (first | apply Kd.V_alloc | apply Kd.V_drewN | apply Kd.V_drew)); exact HL114_21.out) hb); replace HL114_24 := Aside0.mk (Kd.V_below (by (with_reducible repeat (first | apply Kd.V_alloc | apply Kd.V_drewN | apply Kd.V_drew)); exact HL114_24.out) hb); replace jo := Aside0.mk (Kd.C_below Z97 hb); replace jp := Aside0.mk (Kd.C_below Z96 hb); replace HB := Aside0.mk (below_step Z1 hb); clear hb))
        go_ret
        exact ⟨Z5, Z1⟩
       ·rw [if_neg en] at H
        exact absurd H Z59
      ·rw [if_neg c9] at H
       have ij : (bK.toList == ([4, 0] : List UInt8)) = false := beq_eq_false_iff_ne.mpr c9
       have lL : (bK.toList != ([4, 0] : List UInt8)) = true := bne_iff_ne.mpr c9
       exact absurd (Option.some.inj H) Z84
     ·rw [if_neg c8] at H
      have gf : ((aU.length : Int) == 1) = false := beq_eq_false_iff_ne.mpr c8
      have iU : ((aU.length : Int) != 1) = true := bne_iff_ne.mpr c8
      exact absurd (Option.some.inj H) Z84
    ·rw [if_neg c7] at H
     have fz : (bL == 0) = false := beq_eq_false_iff_ne.mpr c7
     have kT : (bL != 0) = true := bne_iff_ne.mpr c7
     exact absurd (Option.some.inj H) Z84
   ·rw [if_neg c6] at H
    have ga : (bk == 0) = false := beq_eq_false_iff_ne.mpr c6
    have ii : (bk != 0) = true := bne_iff_ne.mpr c6
    exact absurd (Option.some.inj H) Z84
  ·rw [if_neg c5] at H
   have fg : (aV == 0) = false := beq_eq_false_iff_ne.mpr c5
   have im : (aV != 0) = true := bne_iff_ne.mpr c5
   exact absurd (Option.some.inj H) Z84
 ·rw [if_neg c4] at H
  have dL : (bi == 4) = false := beq_eq_false_iff_ne.mpr c4
  have gh : (bi != 4) = true := bne_iff_ne.mpr c4
  exact absurd (Option.some.inj H) Z84

end Go.Proofs.Ytccjakjjaemmkaa.PAP
