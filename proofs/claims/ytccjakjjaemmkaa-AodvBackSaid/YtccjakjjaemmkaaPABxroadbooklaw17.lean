-- Written by mp.py, a program of this work (wip/tools), out of the translation; Lean checks it.
import Derived.Test.YtccjakjjaemmkaaPABxZ
import Derived.Test.YtccjakjjaemmkaaPABxaodv
import Derived.Test.YtccjakjjaemmkaaPABxaodvEncode
import Derived.Test.YtccjakjjaemmkaaLoad
namespace Go.Proofs.Ytccjakjjaemmkaa.PAB
open Go.RowKit Go.Proofs.YtccjakjjaemmkaaW.PrintWords Go.Proofs.YtccjakjjaemmkaaW.PrintLast Go.Proofs.YtccjakjjaemmkaaW.PrintMore
attribute [local go_sem] max2_int min2_int max_two min_two max_three min_three max_four min_four   -- for this text's walks alone
set_option linter.unusedVariables false
set_option linter.unusedSimpArgs false

/-! ### roadbooklaw17_awake: function 40 -/
def roadbooklaw17_awake.f (k : Nat)  : Option (Bool) := (aodv_Parse.f k (⟨#[5, 0]⟩ : ByteArray)).bind fun bk => ((aodv_Parse.f k (⟨#[4, 0]⟩ : ByteArray)).bind fun bh => ((aodv_Encode.f k bh.1).bind fun ek => (if bk.2.2 = 4 then (if bk.2.1 = 0 then (if bh.2.2 = 0 then (if ek.2.2 = 0 then (if (bh.1.length : Int) = 1 then (if ek.1.toList = ([4, 0] : List UInt8) then (if 0 < (bh.1.length : Int) then ((aodv_Right.f k ((rd_T25 bh.1 0).f0) ((rd_T25 bh.1 0).f1) ((rd_T25 bh.1 0).f2) ((rd_T25 bh.1 0).f3) ((rd_T25 bh.1 0).f4) ((rd_T25 bh.1 0).f5) ((rd_T25 bh.1 0).f6) ((rd_T25 bh.1 0).f7) ((rd_T25 bh.1 0).f8) ((rd_T25 bh.1 0).f9) ((rd_T25 bh.1 0).f10) ((rd_T25 bh.1 0).f11) ((rd_T25 bh.1 0).f12) ((rd_T25 bh.1 0).f13) ((rd_T25 bh.1 0).f14) ((rd_T25 bh.1 0).f15) ((rd_T25 bh.1 0).f16) ((rd_T25 bh.1 0).f17) ((rd_T25 bh.1 0).f18) ((rd_T25 bh.1 0).f19) ((rd_T25 bh.1 0).f20) ((rd_T25 bh.1 0).f21) ((rd_T25 bh.1 0).f22) ((rd_T25 bh.1 0).f23) ((rd_T25 bh.1 0).f24)).bind fun cn => (some cn)) else (none)) else (some false)) else (some false)) else (some false)) else (some false)) else (some false)) else (some false))))
theorem roadbooklaw17_awake.mono : ∀ k, LeO (roadbooklaw17_awake.f k ) (roadbooklaw17_awake.f (k + 1) ) := by
 intro  k
 unfold roadbooklaw17_awake.f
 have m0 := aodv_Encode.mono
 have m1 := aodv_Parse.mono
 have m2 := aodv_Right.mono
 exact Sq.mo

set_option maxHeartbeats 8000000 in
set_option maxRecDepth 100000 in
theorem roadbooklaw17_awake.calls (k : Nat)  (r : Bool) (w : World) (hr_ : Aside0 (r = true)) (h : roadbooklaw17_awake.f k  = some r) :
  Calls Try.prog 40 #[] w fun e w' => e = .returned (.bool r) ∧ Below w.heap.size w w' := by
 have fi := Try.underlying25
 have HB := Aside0.mk (Below.refl w.heap.size w)
 have H : ((aodv_Parse.f k (⟨#[5, 0]⟩ : ByteArray)).bind fun bk => ((aodv_Parse.f k (⟨#[4, 0]⟩ : ByteArray)).bind fun bh => ((aodv_Encode.f k bh.1).bind fun ek => (if bk.2.2 = 4 then (if bk.2.1 = 0 then (if bh.2.2 = 0 then (if ek.2.2 = 0 then (if (bh.1.length : Int) = 1 then (if ek.1.toList = ([4, 0] : List UInt8) then (if 0 < (bh.1.length : Int) then ((aodv_Right.f k ((rd_T25 bh.1 0).f0) ((rd_T25 bh.1 0).f1) ((rd_T25 bh.1 0).f2) ((rd_T25 bh.1 0).f3) ((rd_T25 bh.1 0).f4) ((rd_T25 bh.1 0).f5) ((rd_T25 bh.1 0).f6) ((rd_T25 bh.1 0).f7) ((rd_T25 bh.1 0).f8) ((rd_T25 bh.1 0).f9) ((rd_T25 bh.1 0).f10) ((rd_T25 bh.1 0).f11) ((rd_T25 bh.1 0).f12) ((rd_T25 bh.1 0).f13) ((rd_T25 bh.1 0).f14) ((rd_T25 bh.1 0).f15) ((rd_T25 bh.1 0).f16) ((rd_T25 bh.1 0).f17) ((rd_T25 bh.1 0).f18) ((rd_T25 bh.1 0).f19) ((rd_T25 bh.1 0).f20) ((rd_T25 bh.1 0).f21) ((rd_T25 bh.1 0).f22) ((rd_T25 bh.1 0).f23) ((rd_T25 bh.1 0).f24)).bind fun cn => (some cn)) else (none)) else (some false)) else (some false)) else (some false)) else (some false)) else (some false)) else (some false))))) = some r := h
 clear h
 replace H := Option.bind_eq_some_iff.mp H
 obtain ⟨⟨ck, aY, bq⟩, kO, H⟩ := H
 replace H : ((aodv_Parse.f k (⟨#[4, 0]⟩ : ByteArray)).bind fun bh => ((aodv_Encode.f k bh.1).bind fun ek => (if bq = 4 then (if aY = 0 then (if bh.2.2 = 0 then (if ek.2.2 = 0 then (if (bh.1.length : Int) = 1 then (if ek.1.toList = ([4, 0] : List UInt8) then (if 0 < (bh.1.length : Int) then ((aodv_Right.f k ((rd_T25 bh.1 0).f0) ((rd_T25 bh.1 0).f1) ((rd_T25 bh.1 0).f2) ((rd_T25 bh.1 0).f3) ((rd_T25 bh.1 0).f4) ((rd_T25 bh.1 0).f5) ((rd_T25 bh.1 0).f6) ((rd_T25 bh.1 0).f7) ((rd_T25 bh.1 0).f8) ((rd_T25 bh.1 0).f9) ((rd_T25 bh.1 0).f10) ((rd_T25 bh.1 0).f11) ((rd_T25 bh.1 0).f12) ((rd_T25 bh.1 0).f13) ((rd_T25 bh.1 0).f14) ((rd_T25 bh.1 0).f15) ((rd_T25 bh.1 0).f16) ((rd_T25 bh.1 0).f17) ((rd_T25 bh.1 0).f18) ((rd_T25 bh.1 0).f19) ((rd_T25 bh.1 0).f20) ((rd_T25 bh.1 0).f21) ((rd_T25 bh.1 0).f22) ((rd_T25 bh.1 0).f23) ((rd_T25 bh.1 0).f24)).bind fun cn => (some cn)) else (none)) else (some false)) else (some false)) else (some false)) else (some false)) else (some false)) else (some false)))) = some r := H
 have A1 := Aside0.mk kO
 clear kO
 replace H := Option.bind_eq_some_iff.mp H
 obtain ⟨⟨aT, bi, bl⟩, gb, H⟩ := H
 replace H : ((aodv_Encode.f k aT).bind fun ek => (if bq = 4 then (if aY = 0 then (if bl = 0 then (if ek.2.2 = 0 then (if (aT.length : Int) = 1 then (if ek.1.toList = ([4, 0] : List UInt8) then (if 0 < (aT.length : Int) then ((aodv_Right.f k ((rd_T25 aT 0).f0) ((rd_T25 aT 0).f1) ((rd_T25 aT 0).f2) ((rd_T25 aT 0).f3) ((rd_T25 aT 0).f4) ((rd_T25 aT 0).f5) ((rd_T25 aT 0).f6) ((rd_T25 aT 0).f7) ((rd_T25 aT 0).f8) ((rd_T25 aT 0).f9) ((rd_T25 aT 0).f10) ((rd_T25 aT 0).f11) ((rd_T25 aT 0).f12) ((rd_T25 aT 0).f13) ((rd_T25 aT 0).f14) ((rd_T25 aT 0).f15) ((rd_T25 aT 0).f16) ((rd_T25 aT 0).f17) ((rd_T25 aT 0).f18) ((rd_T25 aT 0).f19) ((rd_T25 aT 0).f20) ((rd_T25 aT 0).f21) ((rd_T25 aT 0).f22) ((rd_T25 aT 0).f23) ((rd_T25 aT 0).f24)).bind fun cn => (some cn)) else (none)) else (some false)) else (some false)) else (some false)) else (some false)) else (some false)) else (some false))) = some r := H
 have A2 := Aside0.mk gb
 clear gb
 replace H := Option.bind_eq_some_iff.mp H
 obtain ⟨⟨cK, el, dy⟩, ma, H⟩ := H
 replace H : (if bq = 4 then (if aY = 0 then (if bl = 0 then (if dy = 0 then (if (aT.length : Int) = 1 then (if cK.toList = ([4, 0] : List UInt8) then (if 0 < (aT.length : Int) then ((aodv_Right.f k ((rd_T25 aT 0).f0) ((rd_T25 aT 0).f1) ((rd_T25 aT 0).f2) ((rd_T25 aT 0).f3) ((rd_T25 aT 0).f4) ((rd_T25 aT 0).f5) ((rd_T25 aT 0).f6) ((rd_T25 aT 0).f7) ((rd_T25 aT 0).f8) ((rd_T25 aT 0).f9) ((rd_T25 aT 0).f10) ((rd_T25 aT 0).f11) ((rd_T25 aT 0).f12) ((rd_T25 aT 0).f13) ((rd_T25 aT 0).f14) ((rd_T25 aT 0).f15) ((rd_T25 aT 0).f16) ((rd_T25 aT 0).f17) ((rd_T25 aT 0).f18) ((rd_T25 aT 0).f19) ((rd_T25 aT 0).f20) ((rd_T25 aT 0).f21) ((rd_T25 aT 0).f22) ((rd_T25 aT 0).f23) ((rd_T25 aT 0).f24)).bind fun cn => (some cn)) else (none)) else (some false)) else (some false)) else (some false)) else (some false)) else (some false)) else (some false)) = some r := H
 have A3 := Aside0.mk ma
 clear ma
 by_cases c4 : bq = 4
 ·rw [if_pos c4] at H
  have dg : (bq == 4) = true := beq_iff_eq.mpr c4
  have gi : (bq != 4) = false := bne_eq_false_iff_eq.mpr c4
  clear c4
  by_cases c5 : aY = 0
  ·rw [if_pos c5] at H
   have fM : (aY == 0) = true := beq_iff_eq.mpr c5
   have ib : (aY != 0) = false := bne_eq_false_iff_eq.mpr c5
   clear c5
   by_cases c6 : bl = 0
   ·rw [if_pos c6] at H
    have fg : (bl == 0) = true := beq_iff_eq.mpr c6
    have fQ : (bl != 0) = false := bne_eq_false_iff_eq.mpr c6
    clear c6
    by_cases c7 : dy = 0
    ·rw [if_pos c7] at H
     have fp : (dy == 0) = true := beq_iff_eq.mpr c7
     have jF : (dy != 0) = false := bne_eq_false_iff_eq.mpr c7
     clear c7
     by_cases c8 : (aT.length : Int) = 1
     ·rw [if_pos c8] at H
      have hC : ((aT.length : Int) == 1) = true := beq_iff_eq.mpr c8
      have jg : ((aT.length : Int) != 1) = false := bne_eq_false_iff_eq.mpr c8
      clear c8
      by_cases c9 : cK.toList = ([4, 0] : List UInt8)
      ·rw [if_pos c9] at H
       have ic : (cK.toList == ([4, 0] : List UInt8)) = true := beq_iff_eq.mpr c9
       have kv : (cK.toList != ([4, 0] : List UInt8)) = false := bne_eq_false_iff_eq.mpr c9
       clear c9
       by_cases ey : 0 < (aT.length : Int)
       ·rw [if_pos ey] at H
        have eW : decide (0 < (aT.length : Int)) = true := decide_eq_true ey
        have gK : decide (0 < aT.length) = true := decide_eq_true Z40
        clear ey
        replace H := Option.bind_eq_some_iff.mp H
        obtain ⟨cn, kP, H⟩ := H
        replace H : (some cn) = some r := H
        have sh := Aside0.mk kP
        clear kP
        obtain rfl := Option.some.inj H
        go_enter Try.func40, Try.ntmps40
        go_wp2_with (first | ((with_reducible refine Pre.gate_load 25 rfl ?_); (try (refine gate_guard Z23 ?_; dsimp only)); refine Pre.load_event_a rfl rfl rfl Z23 Pre.range25 Try.underlying25 rfl Z14 ?_) | ((with_reducible refine gate_callee (f := 41) rfl ?_); refine goesL_ (some 11) rfl rfl Try.func41 Z14 rfl #[.string (⟨#[5, 0]⟩ : ByteArray)] rfl Z4 ?_; (with_reducible refine (aodv_Parse.calls k (⟨#[5, 0]⟩ : ByteArray) ck aY bq _ A1.out).mono ?_); rintro e po ⟨si, rfl, ho0, hb⟩; refine ⟨_, rfl, ?_⟩; have jO := Aside0.mk (Kd.N_lower (Kd.N_mono (ok' := fun k_ => True) ho0 (fun k_ hk_ => trivial)) (below_size Z1)); replace HB := Aside0.mk (below_step Z1 hb); clear hb ho0) | ((with_reducible refine gate_callee (f := 41) rfl ?_); refine goesL_ (some 16) rfl rfl Try.func41 Z14 rfl #[.string (⟨#[4, 0]⟩ : ByteArray)] rfl Z4 ?_; (with_reducible refine (aodv_Parse.calls k (⟨#[4, 0]⟩ : ByteArray) aT bi bl _ A2.out).mono ?_); rintro e ja ⟨v107, rfl, ho0, hb⟩; refine ⟨_, rfl, ?_⟩; have gc := Aside0.mk (Kd.N_lower (Kd.N_mono (ok' := fun k_ => some k_ ≠ (si : Value).ownBlock) ho0 (fun k_ hk_ => (Kd.fresh' (Kd.N_lt Z78) k_ hk_))) (below_size Z1)); replace jO := Aside0.mk (Kd.N_elder' Z78 (Kd.N_base ho0) hb); replace HB := Aside0.mk (below_step Z1 hb); clear hb ho0; obtain ⟨kQ, kR, eo14⟩ := Kd.N_slice gc.out; subst eo14) | ((with_reducible refine gate_callee (f := 47) rfl ?_); refine goesL_ (some 22) rfl rfl Try.func47 Z14 rfl #[.slice kQ aT.length kR] rfl Z4 ?_; (with_reducible refine (aodv_Encode.calls k _ _ aT cK el dy _ ?side1 ?side2 A3.out).mono ?_); (case side1 => exact (by repeat (first | exact (Kd.N_reads' gc.out).2.2 | (with_reducible refine Kd.C_alloc ?_ _) | (with_reducible refine Kd.C_drewN ?_ _) | (with_reducible refine Kd.C_drew ?_)))); (case side2 => exact (Kd.N_reads' gc.out).2.1); rintro e rR ⟨rfl, hb⟩; refine ⟨_, rfl, ?_⟩; replace jO := Aside0.mk (Kd.N_below Z78 hb); replace gc := Aside0.mk (Kd.N_below (by (with_reducible repeat (first | apply Kd.N_alloc | apply Kd.N_drewN | apply Kd.N_drew)); exact gc.out) hb); replace HB := Aside0.mk (below_step Z1 hb); clear hb; have p114 : 0 ≤ (0 : Int) := Z40; have q114 : 0 < (aT.length : Int) := of_decide_eq_true Z6; obtain ⟨ad114, A114_21, c114_21, A114_24, c114_24, e114, hx114_0, hx114_1, hx114_2, hx114_3, hx114_4, hx114_5, hx114_6, hx114_7, hx114_8, hx114_9, hx114_10, hx114_11, hx114_12, hx114_13, hx114_14, hx114_15, hx114_16, hx114_17, hx114_18, hx114_19, hx114_20, hx114_21, hx114_22, hx114_23, hx114_24, hl114_21, hi114_21, hl114_24, hi114_24⟩ := at_T25 (Kd.N_reads' gc.out).2.2 0 p114 q114; cases e114; obtain ⟨ce114, hce114, hMe114, hcc114⟩ := Kd.N_get gc.out z25 0 p114 (by first | exact q114 | exact of_decide_eq_true Z6 | (have e_ := (Kd.N_reads' gc.out).1; omega)); obtain ⟨ua114_21, uc114_21, ua114_24, uc114_24, rfl, ul114_21, ge114_21, ul114_24, ge114_24⟩ := k25_openF hMe114; have hv114_21 := hcc114 21 _ rfl; rw [add_field _ _ 21 Z40] at hv114_21; replace hv114_21 := Option.some.inj (hv114_21.symm.trans hx114_21); injection hv114_21 with hva_ hvn_ hvc_; rw [hva_] at ge114_21; rw [hvc_] at ul114_21; have HL114_21 := Aside0.mk (show Kd.V k46 46 _ w.heap.size _ _ ((rd_T25 aT 0).f21) from Kd.V_mk ul114_21 ge114_21); clear hva_ hvn_ hvc_ ge114_21 ul114_21; have hv114_24 := hcc114 24 _ rfl; rw [add_field _ _ 24 Z40] at hv114_24; replace hv114_24 := Option.some.inj (hv114_24.symm.trans hx114_24); injection hv114_24 with hva_ hvn_ hvc_; rw [hva_] at ge114_24; rw [hvc_] at ul114_24; have HL114_24 := Aside0.mk (show Kd.V k48 48 _ w.heap.size _ _ ((rd_T25 aT 0).f24) from Kd.V_mk ul114_24 ge114_24); clear hva_ hvn_ hvc_ ge114_24 ul114_24; clear hcc114 hce114; have qi114 : (0 < aT.length) = True := eq_true Z40; (try rw [show ((0 : Int)).toNat = 0 from rfl] at hx114_0); (try rw [show 0 * 25 = 0 from rfl] at hx114_0); (try rw [Addr.add_zero'] at hx114_0); (try rw [show ((0 : Int)).toNat = 0 from rfl] at hx114_1); (try rw [show 0 * 25 = 0 from rfl] at hx114_1); (try rw [Addr.add_zero'] at hx114_1); (try rw [show ((0 : Int)).toNat = 0 from rfl] at hx114_2); (try rw [show 0 * 25 = 0 from rfl] at hx114_2); (try rw [Addr.add_zero'] at hx114_2); (try rw [show ((0 : Int)).toNat = 0 from rfl] at hx114_3); (try rw [show 0 * 25 = 0 from rfl] at hx114_3); (try rw [Addr.add_zero'] at hx114_3); (try rw [show ((0 : Int)).toNat = 0 from rfl] at hx114_4); (try rw [show 0 * 25 = 0 from rfl] at hx114_4); (try rw [Addr.add_zero'] at hx114_4); (try rw [show ((0 : Int)).toNat = 0 from rfl] at hx114_5); (try rw [show 0 * 25 = 0 from rfl] at hx114_5); (try rw [Addr.add_zero'] at hx114_5); (try rw [show ((0 : Int)).toNat = 0 from rfl] at hx114_6); (try rw [show 0 * 25 = 0 from rfl] at hx114_6); (try rw [Addr.add_zero'] at hx114_6); (try rw [show ((0 : Int)).toNat = 0 from rfl] at hx114_7); (try rw [show 0 * 25 = 0 from rfl] at hx114_7); (try rw [Addr.add_zero'] at hx114_7); (try rw [show ((0 : Int)).toNat = 0 from rfl] at hx114_8); (try rw [show 0 * 25 = 0 from rfl] at hx114_8); (try rw [Addr.add_zero'] at hx114_8); (try rw [show ((0 : Int)).toNat = 0 from rfl] at hx114_9); (try rw [show 0 * 25 = 0 from rfl] at hx114_9); (try rw [Addr.add_zero'] at hx114_9); (try rw [show ((0 : Int)).toNat = 0 from rfl] at hx114_10); (try rw [show 0 * 25 = 0 from rfl] at hx114_10); (try rw [Addr.add_zero'] at hx114_10); (try rw [show ((0 : Int)).toNat = 0 from rfl] at hx114_11); (try rw [show 0 * 25 = 0 from rfl] at hx114_11); (try rw [Addr.add_zero'] at hx114_11); (try rw [show ((0 : Int)).toNat = 0 from rfl] at hx114_12); (try rw [show 0 * 25 = 0 from rfl] at hx114_12); (try rw [Addr.add_zero'] at hx114_12); (try rw [show ((0 : Int)).toNat = 0 from rfl] at hx114_13); (try rw [show 0 * 25 = 0 from rfl] at hx114_13); (try rw [Addr.add_zero'] at hx114_13); (try rw [show ((0 : Int)).toNat = 0 from rfl] at hx114_14); (try rw [show 0 * 25 = 0 from rfl] at hx114_14); (try rw [Addr.add_zero'] at hx114_14); (try rw [show ((0 : Int)).toNat = 0 from rfl] at hx114_15); (try rw [show 0 * 25 = 0 from rfl] at hx114_15); (try rw [Addr.add_zero'] at hx114_15); (try rw [show ((0 : Int)).toNat = 0 from rfl] at hx114_16); (try rw [show 0 * 25 = 0 from rfl] at hx114_16); (try rw [Addr.add_zero'] at hx114_16); (try rw [show ((0 : Int)).toNat = 0 from rfl] at hx114_17); (try rw [show 0 * 25 = 0 from rfl] at hx114_17); (try rw [Addr.add_zero'] at hx114_17); (try rw [show ((0 : Int)).toNat = 0 from rfl] at hx114_18); (try rw [show 0 * 25 = 0 from rfl] at hx114_18); (try rw [Addr.add_zero'] at hx114_18); (try rw [show ((0 : Int)).toNat = 0 from rfl] at hx114_19); (try rw [show 0 * 25 = 0 from rfl] at hx114_19); (try rw [Addr.add_zero'] at hx114_19); (try rw [show ((0 : Int)).toNat = 0 from rfl] at hx114_20); (try rw [show 0 * 25 = 0 from rfl] at hx114_20); (try rw [Addr.add_zero'] at hx114_20); (try rw [show ((0 : Int)).toNat = 0 from rfl] at hx114_21); (try rw [show 0 * 25 = 0 from rfl] at hx114_21); (try rw [Addr.add_zero'] at hx114_21); (try rw [show ((0 : Int)).toNat = 0 from rfl] at hx114_22); (try rw [show 0 * 25 = 0 from rfl] at hx114_22); (try rw [Addr.add_zero'] at hx114_22); (try rw [show ((0 : Int)).toNat = 0 from rfl] at hx114_23); (try rw [show 0 * 25 = 0 from rfl] at hx114_23); (try rw [Addr.add_zero'] at hx114_23); (try rw [show ((0 : Int)).toNat = 0 from rfl] at hx114_24); (try rw [show 0 * 25 = 0 from rfl] at hx114_24); (try rw [Addr.add_zero'] at hx114_24); have hD := Aside0.mk hi114_21; have kS := Aside0.mk hl114_21; clear hi114_21 hl114_21; have hF := Aside0.mk hi114_24; have kT := Aside0.mk hl114_24; clear hi114_24 hl114_24; replace p114 := eq_true p114; replace q114 := eq_true q114) | (go_at_call 45; (with_reducible refine (aodv_Right.calls k ((rd_T25 aT 0).f0) ((rd_T25 aT 0).f1) ((rd_T25 aT 0).f2) ((rd_T25 aT 0).f3) ((rd_T25 aT 0).f4) ((rd_T25 aT 0).f5) ((rd_T25 aT 0).f6) ((rd_T25 aT 0).f7) ((rd_T25 aT 0).f8) ((rd_T25 aT 0).f9) ((rd_T25 aT 0).f10) ((rd_T25 aT 0).f11) ((rd_T25 aT 0).f12) ((rd_T25 aT 0).f13) ((rd_T25 aT 0).f14) ((rd_T25 aT 0).f15) ((rd_T25 aT 0).f16) ((rd_T25 aT 0).f17) ((rd_T25 aT 0).f18) ((rd_T25 aT 0).f19) ((rd_T25 aT 0).f20) _ _ ((rd_T25 aT 0).f21) ((rd_T25 aT 0).f22) ((rd_T25 aT 0).f23) _ _ ((rd_T25 aT 0).f24) cn _ ?side1 ?side2 ?side3 ?side4 sh.out).mono ?_); (case side1 => exact (by repeat (first | exact Z93 | (with_reducible refine Kd.C_alloc ?_ _) | (with_reducible refine Kd.C_drewN ?_ _) | (with_reducible refine Kd.C_drew ?_)))); (case side2 => exact kS.out); (case side3 => exact (by repeat (first | exact Z92 | (with_reducible refine Kd.C_alloc ?_ _) | (with_reducible refine Kd.C_drewN ?_ _) | (with_reducible refine Kd.C_drew ?_)))); (case side4 => exact kT.out); rintro e jG ⟨rfl, hb⟩; replace jO := Aside0.mk (Kd.N_below Z78 hb); replace gc := Aside0.mk (Kd.N_below (by (with_reducible repeat (first | apply Kd.N_alloc | apply Kd.N_drewN | apply Kd.N_drew)); exact gc.out) hb); replace HL114_21 := Aside0.mk (Kd.V_below (by (with_reducible repeat (first | apply Kd.V_alloc | apply Kd.V_drewN | apply Kd.V_drew)); exact HL114_21.out) hb); replace HL114_24 := Aside0.mk (Kd.V_below (by (with_reducible repeat (first | apply Kd.V_alloc | apply Kd.V_drewN | apply Kd.V_drew)); exact HL114_24.out) hb); replace hD := Aside0.mk (Kd.C_below Z93 hb); replace hF := Aside0.mk (Kd.C_below Z92 hb); replace HB := Aside0.mk (below_step Z1 hb); clear hb))
        go_ret
        exact ⟨Z5, Z1⟩
       ·rw [if_neg ey] at H
        exact absurd H Z71
      ·rw [if_neg c9] at H
       have ic : (cK.toList == ([4, 0] : List UInt8)) = false := beq_eq_false_iff_ne.mpr c9
       have kv : (cK.toList != ([4, 0] : List UInt8)) = true := bne_iff_ne.mpr c9
       exact absurd (Option.some.inj H) Z59
     ·rw [if_neg c8] at H
      have hC : ((aT.length : Int) == 1) = false := beq_eq_false_iff_ne.mpr c8
      have jg : ((aT.length : Int) != 1) = true := bne_iff_ne.mpr c8
      exact absurd (Option.some.inj H) Z59
    ·rw [if_neg c7] at H
     have fp : (dy == 0) = false := beq_eq_false_iff_ne.mpr c7
     have jF : (dy != 0) = true := bne_iff_ne.mpr c7
     exact absurd (Option.some.inj H) Z59
   ·rw [if_neg c6] at H
    have fg : (bl == 0) = false := beq_eq_false_iff_ne.mpr c6
    have fQ : (bl != 0) = true := bne_iff_ne.mpr c6
    exact absurd (Option.some.inj H) Z59
  ·rw [if_neg c5] at H
   have fM : (aY == 0) = false := beq_eq_false_iff_ne.mpr c5
   have ib : (aY != 0) = true := bne_iff_ne.mpr c5
   exact absurd (Option.some.inj H) Z59
 ·rw [if_neg c4] at H
  have dg : (bq == 4) = false := beq_eq_false_iff_ne.mpr c4
  have gi : (bq != 4) = true := bne_iff_ne.mpr c4
  exact absurd (Option.some.inj H) Z59

end Go.Proofs.Ytccjakjjaemmkaa.PAB
