-- Written by mp.py, a program of this work (wip/tools), out of the translation; Lean checks it.
import Derived.Test.YtccjakjjaemmkaaPRxZ
import Derived.Test.YtccjakjjaemmkaaPRxEq46
import Derived.Test.YtccjakjjaemmkaaPRxrerr
import Derived.Test.YtccjakjjaemmkaaPRxrerrGet
import Derived.Test.YtccjakjjaemmkaaPRxrerrRight
namespace Go.Proofs.Ytccjakjjaemmkaa.PR
open Go.RowKit Go.Proofs.YtccjakjjaemmkaaW.PrintWords Go.Proofs.YtccjakjjaemmkaaW.PrintLast Go.Proofs.YtccjakjjaemmkaaW.PrintMore
attribute [local go_sem] max2_int min2_int max_two min_two max_three min_three max_four min_four   -- for this text's walks alone
set_option linter.unusedVariables false
set_option linter.unusedSimpArgs false

attribute [local go_sem high] eqA46
/-! ### roadbooklaw16_awake: function 25 -/
def roadbooklaw16_awake.f (k : Nat)  : Option (Bool) := (rerr_Get.f k (⟨#[3, 128, 0, 1, 97, 98, 99, 100, 0, 0, 0, 8]⟩ : ByteArray)).bind fun aM => ((rerr_Put.f k aM.1 aM.2.1 aM.2.2.1 aM.2.2.2.1 aM.2.2.2.2.1 aM.2.2.2.2.2.1 aM.2.2.2.2.2.2.1 aM.2.2.2.2.2.2.2.1 aM.2.2.2.2.2.2.2.2.1 aM.2.2.2.2.2.2.2.2.2.1 aM.2.2.2.2.2.2.2.2.2.2.1 aM.2.2.2.2.2.2.2.2.2.2.2.1 aM.2.2.2.2.2.2.2.2.2.2.2.2.1 aM.2.2.2.2.2.2.2.2.2.2.2.2.2.1 aM.2.2.2.2.2.2.2.2.2.2.2.2.2.2.1 aM.2.2.2.2.2.2.2.2.2.2.2.2.2.2.2.1 aM.2.2.2.2.2.2.2.2.2.2.2.2.2.2.2.2.1 aM.2.2.2.2.2.2.2.2.2.2.2.2.2.2.2.2.2.1 aM.2.2.2.2.2.2.2.2.2.2.2.2.2.2.2.2.2.2.1 aM.2.2.2.2.2.2.2.2.2.2.2.2.2.2.2.2.2.2.2.1 aM.2.2.2.2.2.2.2.2.2.2.2.2.2.2.2.2.2.2.2.2.1 aM.2.2.2.2.2.2.2.2.2.2.2.2.2.2.2.2.2.2.2.2.2.1 aM.2.2.2.2.2.2.2.2.2.2.2.2.2.2.2.2.2.2.2.2.2.2.1 aM.2.2.2.2.2.2.2.2.2.2.2.2.2.2.2.2.2.2.2.2.2.2.2.1 aM.2.2.2.2.2.2.2.2.2.2.2.2.2.2.2.2.2.2.2.2.2.2.2.2.1).bind fun cf => (if aM.2.2.2.2.2.2.2.2.2.2.2.2.2.2.2.2.2.2.2.2.2.2.2.2.2.2 = 0 then (if aM.2.2.2.2.2.2.2.2.2.2.2.2.2.2.2.2.2.2.2.2.2.2.2.2.2.1 = 0 then (if cf.2 = true then (if cf.1.toList = ([3, 128, 0, 1, 97, 98, 99, 100, 0, 0, 0, 8] : List UInt8) then ((rerr_Right.f k aM.1 aM.2.1 aM.2.2.1 aM.2.2.2.1 aM.2.2.2.2.1 aM.2.2.2.2.2.1 aM.2.2.2.2.2.2.1 aM.2.2.2.2.2.2.2.1 aM.2.2.2.2.2.2.2.2.1 aM.2.2.2.2.2.2.2.2.2.1 aM.2.2.2.2.2.2.2.2.2.2.1 aM.2.2.2.2.2.2.2.2.2.2.2.1 aM.2.2.2.2.2.2.2.2.2.2.2.2.1 aM.2.2.2.2.2.2.2.2.2.2.2.2.2.1 aM.2.2.2.2.2.2.2.2.2.2.2.2.2.2.1 aM.2.2.2.2.2.2.2.2.2.2.2.2.2.2.2.1 aM.2.2.2.2.2.2.2.2.2.2.2.2.2.2.2.2.1 aM.2.2.2.2.2.2.2.2.2.2.2.2.2.2.2.2.2.1 aM.2.2.2.2.2.2.2.2.2.2.2.2.2.2.2.2.2.2.1 aM.2.2.2.2.2.2.2.2.2.2.2.2.2.2.2.2.2.2.2.1 aM.2.2.2.2.2.2.2.2.2.2.2.2.2.2.2.2.2.2.2.2.1 aM.2.2.2.2.2.2.2.2.2.2.2.2.2.2.2.2.2.2.2.2.2.1 aM.2.2.2.2.2.2.2.2.2.2.2.2.2.2.2.2.2.2.2.2.2.2.1 aM.2.2.2.2.2.2.2.2.2.2.2.2.2.2.2.2.2.2.2.2.2.2.2.1 aM.2.2.2.2.2.2.2.2.2.2.2.2.2.2.2.2.2.2.2.2.2.2.2.2.1).bind fun dt => (if dt = true then (if aM.2.2.2.2.2.2.2.2.2.2.2.2.2.2.2.1 = 1 then (if (aM.2.2.2.2.2.2.2.2.2.2.2.2.2.2.2.2.2.2.2.2.2.1.length : Int) = 1 then (if 0 < (aM.2.2.2.2.2.2.2.2.2.2.2.2.2.2.2.2.2.2.2.2.2.1.length : Int) then (some ((((rd_T46 aM.2.2.2.2.2.2.2.2.2.2.2.2.2.2.2.2.2.2.2.2.2.1 0).f0).toList) == ([97, 98, 99, 100] : List UInt8) && (((rd_T46 aM.2.2.2.2.2.2.2.2.2.2.2.2.2.2.2.2.2.2.2.2.2.1 0).f1) == 8))) else (none)) else (some false)) else (some false)) else (some false))) else (some false)) else (some false)) else (some false)) else (some false)))
theorem roadbooklaw16_awake.mono : ∀ k, LeO (roadbooklaw16_awake.f k ) (roadbooklaw16_awake.f (k + 1) ) := by
 intro  k
 unfold roadbooklaw16_awake.f
 repeat' first
   | (with_reducible exact rerr_Get.mono _ _)
   | (with_reducible exact rerr_Put.mono _ _ _ _ _ _ _ _ _ _ _ _ _ _ _ _ _ _ _ _ _ _ _ _ _ _)
   | (with_reducible exact rerr_Right.mono _ _ _ _ _ _ _ _ _ _ _ _ _ _ _ _ _ _ _ _ _ _ _ _ _ _)
   | (with_reducible exact LeO.refl _)
   | (with_reducible exact LeO.none _)
   | (with_reducible refine LeO.ite ?_ ?_)
   | (with_reducible refine LeO.bind ?_ (fun _ => ?_))
   | exact rerr_Get.mono _ _
   | exact rerr_Put.mono _ _ _ _ _ _ _ _ _ _ _ _ _ _ _ _ _ _ _ _ _ _ _ _ _ _
   | exact rerr_Right.mono _ _ _ _ _ _ _ _ _ _ _ _ _ _ _ _ _ _ _ _ _ _ _ _ _ _
   | exact LeO.none _
   | refine LeO.ite ?_ ?_
   | refine LeO.bind ?_ (fun _ => ?_)

set_option maxHeartbeats 8000000 in
set_option maxRecDepth 100000 in
theorem roadbooklaw16_awake.calls (k : Nat)  (r : Bool) (w : World) (hr_ : Aside0 (r = true)) (h : roadbooklaw16_awake.f k  = some r) :
  Calls Try.prog 25 #[] w fun e w' => e = .returned (.bool r) ∧ Below w.heap.size w w' := by
 have gB := Try.underlying25
 have pa := Try.underlying46
 have HB := Aside0.mk (Below.refl w.heap.size w)
 have H : ((rerr_Get.f k (⟨#[3, 128, 0, 1, 97, 98, 99, 100, 0, 0, 0, 8]⟩ : ByteArray)).bind fun aM => ((rerr_Put.f k aM.1 aM.2.1 aM.2.2.1 aM.2.2.2.1 aM.2.2.2.2.1 aM.2.2.2.2.2.1 aM.2.2.2.2.2.2.1 aM.2.2.2.2.2.2.2.1 aM.2.2.2.2.2.2.2.2.1 aM.2.2.2.2.2.2.2.2.2.1 aM.2.2.2.2.2.2.2.2.2.2.1 aM.2.2.2.2.2.2.2.2.2.2.2.1 aM.2.2.2.2.2.2.2.2.2.2.2.2.1 aM.2.2.2.2.2.2.2.2.2.2.2.2.2.1 aM.2.2.2.2.2.2.2.2.2.2.2.2.2.2.1 aM.2.2.2.2.2.2.2.2.2.2.2.2.2.2.2.1 aM.2.2.2.2.2.2.2.2.2.2.2.2.2.2.2.2.1 aM.2.2.2.2.2.2.2.2.2.2.2.2.2.2.2.2.2.1 aM.2.2.2.2.2.2.2.2.2.2.2.2.2.2.2.2.2.2.1 aM.2.2.2.2.2.2.2.2.2.2.2.2.2.2.2.2.2.2.2.1 aM.2.2.2.2.2.2.2.2.2.2.2.2.2.2.2.2.2.2.2.2.1 aM.2.2.2.2.2.2.2.2.2.2.2.2.2.2.2.2.2.2.2.2.2.1 aM.2.2.2.2.2.2.2.2.2.2.2.2.2.2.2.2.2.2.2.2.2.2.1 aM.2.2.2.2.2.2.2.2.2.2.2.2.2.2.2.2.2.2.2.2.2.2.2.1 aM.2.2.2.2.2.2.2.2.2.2.2.2.2.2.2.2.2.2.2.2.2.2.2.2.1).bind fun cf => (if aM.2.2.2.2.2.2.2.2.2.2.2.2.2.2.2.2.2.2.2.2.2.2.2.2.2.2 = 0 then (if aM.2.2.2.2.2.2.2.2.2.2.2.2.2.2.2.2.2.2.2.2.2.2.2.2.2.1 = 0 then (if cf.2 = true then (if cf.1.toList = ([3, 128, 0, 1, 97, 98, 99, 100, 0, 0, 0, 8] : List UInt8) then ((rerr_Right.f k aM.1 aM.2.1 aM.2.2.1 aM.2.2.2.1 aM.2.2.2.2.1 aM.2.2.2.2.2.1 aM.2.2.2.2.2.2.1 aM.2.2.2.2.2.2.2.1 aM.2.2.2.2.2.2.2.2.1 aM.2.2.2.2.2.2.2.2.2.1 aM.2.2.2.2.2.2.2.2.2.2.1 aM.2.2.2.2.2.2.2.2.2.2.2.1 aM.2.2.2.2.2.2.2.2.2.2.2.2.1 aM.2.2.2.2.2.2.2.2.2.2.2.2.2.1 aM.2.2.2.2.2.2.2.2.2.2.2.2.2.2.1 aM.2.2.2.2.2.2.2.2.2.2.2.2.2.2.2.1 aM.2.2.2.2.2.2.2.2.2.2.2.2.2.2.2.2.1 aM.2.2.2.2.2.2.2.2.2.2.2.2.2.2.2.2.2.1 aM.2.2.2.2.2.2.2.2.2.2.2.2.2.2.2.2.2.2.1 aM.2.2.2.2.2.2.2.2.2.2.2.2.2.2.2.2.2.2.2.1 aM.2.2.2.2.2.2.2.2.2.2.2.2.2.2.2.2.2.2.2.2.1 aM.2.2.2.2.2.2.2.2.2.2.2.2.2.2.2.2.2.2.2.2.2.1 aM.2.2.2.2.2.2.2.2.2.2.2.2.2.2.2.2.2.2.2.2.2.2.1 aM.2.2.2.2.2.2.2.2.2.2.2.2.2.2.2.2.2.2.2.2.2.2.2.1 aM.2.2.2.2.2.2.2.2.2.2.2.2.2.2.2.2.2.2.2.2.2.2.2.2.1).bind fun dt => (if dt = true then (if aM.2.2.2.2.2.2.2.2.2.2.2.2.2.2.2.1 = 1 then (if (aM.2.2.2.2.2.2.2.2.2.2.2.2.2.2.2.2.2.2.2.2.2.1.length : Int) = 1 then (if 0 < (aM.2.2.2.2.2.2.2.2.2.2.2.2.2.2.2.2.2.2.2.2.2.1.length : Int) then (some ((((rd_T46 aM.2.2.2.2.2.2.2.2.2.2.2.2.2.2.2.2.2.2.2.2.2.1 0).f0).toList) == ([97, 98, 99, 100] : List UInt8) && (((rd_T46 aM.2.2.2.2.2.2.2.2.2.2.2.2.2.2.2.2.2.2.2.2.2.1 0).f1) == 8))) else (none)) else (some false)) else (some false)) else (some false))) else (some false)) else (some false)) else (some false)) else (some false)))) = some r := h
 clear h
 replace H := Option.bind_eq_some_iff.mp H
 obtain ⟨⟨ci, ba, bf, bc, bk, bm, bp, aQ, aV, bi, cy, cF, cD, cj, cm, ce, cq, cg, co, ck, cu, ch, eH, cN, cr, gV, cE⟩, lm, H⟩ := H
 replace H : ((rerr_Put.f k ci ba bf bc bk bm bp aQ aV bi cy cF cD cj cm ce cq cg co ck cu ch eH cN cr).bind fun cf => (if cE = 0 then (if gV = 0 then (if cf.2 = true then (if cf.1.toList = ([3, 128, 0, 1, 97, 98, 99, 100, 0, 0, 0, 8] : List UInt8) then ((rerr_Right.f k ci ba bf bc bk bm bp aQ aV bi cy cF cD cj cm ce cq cg co ck cu ch eH cN cr).bind fun dt => (if dt = true then (if ce = 1 then (if (ch.length : Int) = 1 then (if 0 < (ch.length : Int) then (some ((((rd_T46 ch 0).f0).toList) == ([97, 98, 99, 100] : List UInt8) && (((rd_T46 ch 0).f1) == 8))) else (none)) else (some false)) else (some false)) else (some false))) else (some false)) else (some false)) else (some false)) else (some false))) = some r := H
 have A1 := Aside0.mk lm
 clear lm
 replace H := Option.bind_eq_some_iff.mp H
 obtain ⟨⟨cA, gq⟩, gN, H⟩ := H
 replace H : (if cE = 0 then (if gV = 0 then (if gq = true then (if cA.toList = ([3, 128, 0, 1, 97, 98, 99, 100, 0, 0, 0, 8] : List UInt8) then ((rerr_Right.f k ci ba bf bc bk bm bp aQ aV bi cy cF cD cj cm ce cq cg co ck cu ch eH cN cr).bind fun dt => (if dt = true then (if ce = 1 then (if (ch.length : Int) = 1 then (if 0 < (ch.length : Int) then (some ((((rd_T46 ch 0).f0).toList) == ([97, 98, 99, 100] : List UInt8) && (((rd_T46 ch 0).f1) == 8))) else (none)) else (some false)) else (some false)) else (some false))) else (some false)) else (some false)) else (some false)) else (some false)) = some r := H
 have A2 := Aside0.mk gN
 clear gN
 by_cases c3 : cE = 0
 ·rw [if_pos c3] at H
  have gw : (cE == 0) = true := beq_iff_eq.mpr c3
  have jg : (cE != 0) = false := bne_eq_false_iff_eq.mpr c3
  clear c3
  by_cases c4 : gV = 0
  ·rw [if_pos c4] at H
   have cS : (gV == 0) = true := beq_iff_eq.mpr c4
   have gY : (gV != 0) = false := bne_eq_false_iff_eq.mpr c4
   clear c4
   by_cases c5 : gq = true
   ·subst c5
    replace H := Sq.itT H
    by_cases c6 : cA.toList = ([3, 128, 0, 1, 97, 98, 99, 100, 0, 0, 0, 8] : List UInt8)
    ·rw [if_pos c6] at H
     have gZ : (cA.toList == ([3, 128, 0, 1, 97, 98, 99, 100, 0, 0, 0, 8] : List UInt8)) = true := beq_iff_eq.mpr c6
     have ii : (cA.toList != ([3, 128, 0, 1, 97, 98, 99, 100, 0, 0, 0, 8] : List UInt8)) = false := bne_eq_false_iff_eq.mpr c6
     clear c6
     replace H := Option.bind_eq_some_iff.mp H
     obtain ⟨dt, oh, H⟩ := H
     replace H : (if dt = true then (if ce = 1 then (if (ch.length : Int) = 1 then (if 0 < (ch.length : Int) then (some ((((rd_T46 ch 0).f0).toList) == ([97, 98, 99, 100] : List UInt8) && (((rd_T46 ch 0).f1) == 8))) else (none)) else (some false)) else (some false)) else (some false)) = some r := H
     have A7 := Aside0.mk oh
     clear oh
     by_cases c8 : dt = true
     ·subst c8
      replace H := Sq.itT H
      by_cases c9 : ce = 1
      ·rw [if_pos c9] at H
       have ju : (ce == 1) = true := beq_iff_eq.mpr c9
       have lJ : (ce != 1) = false := bne_eq_false_iff_eq.mpr c9
       clear c9
       by_cases cX : (ch.length : Int) = 1
       ·rw [if_pos cX] at H
        have ff : ((ch.length : Int) == 1) = true := beq_iff_eq.mpr cX
        have gG : ((ch.length : Int) != 1) = false := bne_eq_false_iff_eq.mpr cX
        clear cX
        by_cases cU : 0 < (ch.length : Int)
        ·rw [if_pos cU] at H
         have fE : decide (0 < (ch.length : Int)) = true := decide_eq_true cU
         have hu : decide (0 < ch.length) = true := decide_eq_true Z55
         clear cU
         obtain rfl := Option.some.inj H
         go_enter Try.func25, Try.ntmps25
         go_wp2_with (first | ((with_reducible refine Pre.gate_load 25 rfl ?_); (try (refine gate_guard Z13 ?_; dsimp only)); refine Pre.load_event rfl rfl rfl Z13 Z59 Try.underlying25 rfl Z6 ?_) | ((with_reducible refine gate_callee (f := 30) rfl ?_); refine goesL_ (some 7) rfl rfl Try.func30 Z6 rfl #[.string (⟨#[3, 128, 0, 1, 97, 98, 99, 100, 0, 0, 0, 8]⟩ : ByteArray)] rfl Z5 ?_; (with_reducible refine (rerr_Get.calls k (⟨#[3, 128, 0, 1, 97, 98, 99, 100, 0, 0, 0, 8]⟩ : ByteArray) ci ba bf bc bk bm bp aQ aV bi cy cF cD cj cm ce cq cg co ck cu ch eH cN cr gV cE _ A1.out).mono ?_); rintro e rc ⟨sO, sP, rfl, ho0, ho1, hb⟩; refine ⟨_, rfl, ?_⟩; have aG := Aside0.mk (Kd.R_lower ho0 (below_size Z3)); have aH := Aside0.mk (Kd.R_lower ho1 (below_size Z3)); have aI := Aside0.mk (below_step Z3 hb); have fg := aG; have fB := aH; replace HB := aI; clear aG aH aI; (try clear hb); (try clear hb2); (try clear hk); (try clear hi); (try clear ho0); (try clear ho1)) | ((with_reducible refine gate_dst (N := 1) rfl ?_); (try (refine gate_guard Z13 ?_; dsimp only)); refine box_event ?hg (N := 1) ?hd (cs := #[.int .i64 0, .int .i64 0, .int .i64 0, .string ⟨#[]⟩, .int .i64 0, .int .i64 0, .string ⟨#[]⟩, .int .i64 0, .int .i64 0, .string ⟨#[]⟩, .int .i64 0, .string ⟨#[]⟩, .int .i64 0, .int .i64 0, .int .i64 0, .int .i64 0, .int .i64 0, .int .i64 0, .int .i64 0, .string ⟨#[]⟩, .string ⟨#[]⟩, .slice none 0 0, .int .i64 0, .string ⟨#[]⟩, .slice none 0 0]) (t := 25) ?hr ?_; (case hd => rfl); (case hg => rfl); (case hr => first | (go_simp; done) | (go_simp; rfl)); intro hG hg lb hbox hb; have aG := Aside0.mk (Kd.R_below Z66 hb); have aH := Aside0.mk (Kd.R_below Z65 hb); have aI := Aside0.mk (below_step Z3 hb); have aZ := Aside0.mk (hbox); have bH := Aside0.mk ((by rw [hg]; exact (below_size Z3) : w.heap.size ≤ hG)); have cx := Aside0.mk ((by rw [hg]; exact (below_size Z3) : w.heap.size ≤ hG)); replace fg := aG; replace fB := aH; replace HB := aI; have eI := aZ; have qr := bH; have lp := cx; clear aG aH aI aZ bH cx; clear hb hbox hg; have ji := cells_25 eI.out; obtain ⟨rl, rm, eo15⟩ := Kd.R_slice fg.out; subst eo15; obtain ⟨mF, mG, eo16⟩ := Kd.R_slice fB.out; subst eo16) | ((with_reducible refine Pre.gate_store 25 rfl ?_); refine Pre.store_abs (cur := #[.int .i64 0, .int .i64 0, .int .i64 0, .string ⟨#[]⟩, .int .i64 0, .int .i64 0, .string ⟨#[]⟩, .int .i64 0, .int .i64 0, .string ⟨#[]⟩, .int .i64 0, .string ⟨#[]⟩, .int .i64 0, .int .i64 0, .int .i64 0, .int .i64 0, .int .i64 0, .int .i64 0, .int .i64 0, .string ⟨#[]⟩, .string ⟨#[]⟩, .slice none 0 0, .int .i64 0, .string ⟨#[]⟩, .slice none 0 0]) (e := 25) rfl rfl rfl Z13 Z13 Z60 Z6 Z13 Z13 ?_; intro kz hbS_ sS_; have aG : Aside0 (Kd.R k46 46 kz w.heap.size (fun _ => True) (.slice rl ch.length rm) ch) := ⟨Kd.R_mono (Pre.R_sets sS_ (Kd.R_types fg.out eI.out Z32) (fun _ hk => hk.2)) (fun _ hk => trivial)⟩; have aH : Aside0 (Kd.R k48 48 kz w.heap.size (fun _ => True) (.slice mF cr.length mG) cr) := ⟨Kd.R_mono (Pre.R_sets sS_ (Kd.R_types fB.out eI.out Z32) (fun _ hk => hk.2)) (fun _ hk => trivial)⟩; have aI : Aside0 (kz.heap[hG]? = some (.cells #[.int .i64 ci, .int .i64 ba, .int .i64 bf, .string bc, .int .i64 bk, .int .i64 bm, .string bp, .int .i64 aQ, .int .i64 aV, .string bi, .int .i64 cy, .string cF, .int .i64 cD, .int .i64 cj, .int .i64 cm, .int .i64 ce, .int .i64 cq, .int .i64 cg, .int .i64 co, .string ck, .string cu, .slice rl ch.length rm, .int .i64 eH, .string cN, .slice mF cr.length mG] 25 (0, 0))) := ⟨hbS_⟩; have aZ : Aside0 (Below w.heap.size w kz) := ⟨sS_.below Z43 lp.out⟩; clear hbS_ sS_; replace fg := aG; replace fB := aH; replace eI := aI; replace HB := aZ; clear aG aH aI aZ; have nj := cells_25 eI.out) | ((with_reducible refine gate_callee (f := 26) rfl ?_); refine goesL_ (some 13) rfl rfl Try.func26 Z6 rfl #[.agg #[.int .i64 ci, .int .i64 ba, .int .i64 bf, .string bc, .int .i64 bk, .int .i64 bm, .string bp, .int .i64 aQ, .int .i64 aV, .string bi, .int .i64 cy, .string cF, .int .i64 cD, .int .i64 cj, .int .i64 cm, .int .i64 ce, .int .i64 cq, .int .i64 cg, .int .i64 co, .string ck, .string cu, .slice rl ch.length rm, .int .i64 eH, .string cN, .slice mF cr.length mG]] rfl Z5 ?_; (with_reducible refine (rerr_Put.calls k ci ba bf bc bk bm bp aQ aV bi cy cF cD cj cm ce cq cg co ck cu _ _ ch eH cN _ _ cr cA true _ ?side1 ?side2 ?side3 ?side4 A2.out).mono ?_); (case side1 => exact Z72); (case side2 => exact (Kd.R_reads' fg.out).2.1); (case side3 => exact Z71); (case side4 => exact (Kd.R_reads' fB.out).2.1); rintro e nD ⟨rfl, hb⟩; refine ⟨_, rfl, ?_⟩; have aG := Aside0.mk (Kd.R_below Z66 hb); have aH := Aside0.mk (Kd.R_below Z65 hb); have aI := Aside0.mk (blk_below (g := hG) Z60 hb); have aZ := Aside0.mk (below_step Z43 hb); replace fg := aG; replace fB := aH; replace eI := aI; replace HB := aZ; clear aG aH aI aZ; (try clear hb); (try clear hb2); (try clear hk); (try clear hi); have iR := cells_25 eI.out) | (go_at_call 28; (with_reducible refine (rerr_Right.calls k ci ba bf bc bk bm bp aQ aV bi cy cF cD cj cm ce cq cg co ck cu _ _ ch eH cN _ _ cr true _ ?side1 ?side2 ?side3 ?side4 A7.out).mono ?_); (case side1 => exact Z72); (case side2 => exact (Kd.R_reads' fg.out).2.1); (case side3 => exact Z71); (case side4 => exact (Kd.R_reads' fB.out).2.1); rintro e mi ⟨rfl, hb⟩; have aG := Aside0.mk (Kd.R_below Z66 hb); have aH := Aside0.mk (Kd.R_below Z65 hb); have aI := Aside0.mk (blk_below (g := hG) Z60 hb); have aZ := Aside0.mk (below_step Z43 hb); replace fg := aG; replace fB := aH; replace eI := aI; replace HB := aZ; clear aG aH aI aZ; (try clear hb); (try clear hb2); (try clear hk); (try clear hi); have jl := cells_25 eI.out; have p136 : 0 ≤ (0 : Int) := Z55; have q136 : 0 < (ch.length : Int) := of_decide_eq_true Z10; obtain ⟨ad136, e136, hx136_0, hx136_1⟩ := at_T46 (Kd.R_reads' fg.out).2.2 0 p136 q136; cases e136; have qi136 : (0 < ch.length) = True := eq_true Z55; (try rw [show ((0 : Int)).toNat = 0 from rfl] at hx136_0); (try rw [show 0 * 2 = 0 from rfl] at hx136_0); (try rw [Addr.add_zero'] at hx136_0); (try rw [show ((0 : Int)).toNat = 0 from rfl] at hx136_1); (try rw [show 0 * 2 = 0 from rfl] at hx136_1); (try rw [Addr.add_zero'] at hx136_1); replace p136 := eq_true p136; replace q136 := eq_true q136))
         go_ret
         exact ⟨Z9, Z43⟩
        ·rw [if_neg cU] at H
         exact absurd H Z73
       ·rw [if_neg cX] at H
        have ff : ((ch.length : Int) == 1) = false := beq_eq_false_iff_ne.mpr cX
        have gG : ((ch.length : Int) != 1) = true := bne_iff_ne.mpr cX
        exact absurd (Option.some.inj H) Z30
      ·rw [if_neg c9] at H
       have ju : (ce == 1) = false := beq_eq_false_iff_ne.mpr c9
       have lJ : (ce != 1) = true := bne_iff_ne.mpr c9
       exact absurd (Option.some.inj H) Z30
     ·replace c8 := Bool.eq_false_iff.mpr c8
      subst c8
      replace H := Sq.itF H
      exact absurd (Option.some.inj H) Z30
    ·rw [if_neg c6] at H
     have gZ : (cA.toList == ([3, 128, 0, 1, 97, 98, 99, 100, 0, 0, 0, 8] : List UInt8)) = false := beq_eq_false_iff_ne.mpr c6
     have ii : (cA.toList != ([3, 128, 0, 1, 97, 98, 99, 100, 0, 0, 0, 8] : List UInt8)) = true := bne_iff_ne.mpr c6
     exact absurd (Option.some.inj H) Z30
   ·replace c5 := Bool.eq_false_iff.mpr c5
    subst c5
    replace H := Sq.itF H
    exact absurd (Option.some.inj H) Z30
  ·rw [if_neg c4] at H
   have cS : (gV == 0) = false := beq_eq_false_iff_ne.mpr c4
   have gY : (gV != 0) = true := bne_iff_ne.mpr c4
   exact absurd (Option.some.inj H) Z30
 ·rw [if_neg c3] at H
  have gw : (cE == 0) = false := beq_eq_false_iff_ne.mpr c3
  have jg : (cE != 0) = true := bne_iff_ne.mpr c3
  exact absurd (Option.some.inj H) Z30

end Go.Proofs.Ytccjakjjaemmkaa.PR
