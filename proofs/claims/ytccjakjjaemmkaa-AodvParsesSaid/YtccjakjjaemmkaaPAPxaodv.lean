-- Written by mp.py, a program of this work (wip/tools), out of the translation; Lean checks it.
import Derived.Test.YtccjakjjaemmkaaPAPxZ
import Derived.Test.YtccjakjjaemmkaaPAPxrerrGet
import Derived.Test.YtccjakjjaemmkaaPAPxrrep
import Derived.Test.YtccjakjjaemmkaaPAPxrrepGet
import Derived.Test.YtccjakjjaemmkaaPAPxrreq
import Derived.Test.YtccjakjjaemmkaaPAPxrreqGet
import Derived.Test.YtccjakjjaemmkaaLoad
namespace Go.Proofs.Ytccjakjjaemmkaa.PAP
open Go.RowKit Go.Proofs.YtccjakjjaemmkaaW.PrintWords Go.Proofs.YtccjakjjaemmkaaW.PrintLast Go.Proofs.YtccjakjjaemmkaaW.PrintMore
attribute [local go_sem] max2_int min2_int max_two min_two max_three min_three max_four min_four   -- for this text's walks alone
set_option linter.unusedVariables false
set_option linter.unusedSimpArgs false

/-! ### aodv_get: function 69 -/
def aodv_get.f (k : Nat) (a0 : ByteArray) : Option (Int × Int × Int × ByteArray × Int × Int × ByteArray × Int × Int × ByteArray × Int × ByteArray × Int × Int × Int × Int × Int × Int × Int × ByteArray × ByteArray × (List (S46)) × Int × ByteArray × (List (S48)) × Int × Int) := if 0 < (a0.size : Int) then (if (bt a0 0) = 1 then ((rreq_Get.f k a0).bind fun aE => (some (aE.1, aE.2.1, aE.2.2.1, aE.2.2.2.1, aE.2.2.2.2.1, aE.2.2.2.2.2.1, aE.2.2.2.2.2.2.1, aE.2.2.2.2.2.2.2.1, aE.2.2.2.2.2.2.2.2.1, aE.2.2.2.2.2.2.2.2.2.1, aE.2.2.2.2.2.2.2.2.2.2.1, aE.2.2.2.2.2.2.2.2.2.2.2.1, aE.2.2.2.2.2.2.2.2.2.2.2.2.1, aE.2.2.2.2.2.2.2.2.2.2.2.2.2.1, aE.2.2.2.2.2.2.2.2.2.2.2.2.2.2.1, aE.2.2.2.2.2.2.2.2.2.2.2.2.2.2.2.1, aE.2.2.2.2.2.2.2.2.2.2.2.2.2.2.2.2.1, aE.2.2.2.2.2.2.2.2.2.2.2.2.2.2.2.2.2.1, aE.2.2.2.2.2.2.2.2.2.2.2.2.2.2.2.2.2.2.1, aE.2.2.2.2.2.2.2.2.2.2.2.2.2.2.2.2.2.2.2.1, aE.2.2.2.2.2.2.2.2.2.2.2.2.2.2.2.2.2.2.2.2.1, aE.2.2.2.2.2.2.2.2.2.2.2.2.2.2.2.2.2.2.2.2.2.1, aE.2.2.2.2.2.2.2.2.2.2.2.2.2.2.2.2.2.2.2.2.2.2.1, aE.2.2.2.2.2.2.2.2.2.2.2.2.2.2.2.2.2.2.2.2.2.2.2.1, aE.2.2.2.2.2.2.2.2.2.2.2.2.2.2.2.2.2.2.2.2.2.2.2.2.1, aE.2.2.2.2.2.2.2.2.2.2.2.2.2.2.2.2.2.2.2.2.2.2.2.2.2.1, aE.2.2.2.2.2.2.2.2.2.2.2.2.2.2.2.2.2.2.2.2.2.2.2.2.2.2))) else (if (bt a0 0) = 3 then ((rerr_Get.f k a0).bind fun aK => (some (aK.1, aK.2.1, aK.2.2.1, aK.2.2.2.1, aK.2.2.2.2.1, aK.2.2.2.2.2.1, aK.2.2.2.2.2.2.1, aK.2.2.2.2.2.2.2.1, aK.2.2.2.2.2.2.2.2.1, aK.2.2.2.2.2.2.2.2.2.1, aK.2.2.2.2.2.2.2.2.2.2.1, aK.2.2.2.2.2.2.2.2.2.2.2.1, aK.2.2.2.2.2.2.2.2.2.2.2.2.1, aK.2.2.2.2.2.2.2.2.2.2.2.2.2.1, aK.2.2.2.2.2.2.2.2.2.2.2.2.2.2.1, aK.2.2.2.2.2.2.2.2.2.2.2.2.2.2.2.1, aK.2.2.2.2.2.2.2.2.2.2.2.2.2.2.2.2.1, aK.2.2.2.2.2.2.2.2.2.2.2.2.2.2.2.2.2.1, aK.2.2.2.2.2.2.2.2.2.2.2.2.2.2.2.2.2.2.1, aK.2.2.2.2.2.2.2.2.2.2.2.2.2.2.2.2.2.2.2.1, aK.2.2.2.2.2.2.2.2.2.2.2.2.2.2.2.2.2.2.2.2.1, aK.2.2.2.2.2.2.2.2.2.2.2.2.2.2.2.2.2.2.2.2.2.1, aK.2.2.2.2.2.2.2.2.2.2.2.2.2.2.2.2.2.2.2.2.2.2.1, aK.2.2.2.2.2.2.2.2.2.2.2.2.2.2.2.2.2.2.2.2.2.2.2.1, aK.2.2.2.2.2.2.2.2.2.2.2.2.2.2.2.2.2.2.2.2.2.2.2.2.1, aK.2.2.2.2.2.2.2.2.2.2.2.2.2.2.2.2.2.2.2.2.2.2.2.2.2.1, aK.2.2.2.2.2.2.2.2.2.2.2.2.2.2.2.2.2.2.2.2.2.2.2.2.2.2))) else ((rrep_Get.f k a0).bind fun aY => (some (aY.1, aY.2.1, aY.2.2.1, aY.2.2.2.1, aY.2.2.2.2.1, aY.2.2.2.2.2.1, aY.2.2.2.2.2.2.1, aY.2.2.2.2.2.2.2.1, aY.2.2.2.2.2.2.2.2.1, aY.2.2.2.2.2.2.2.2.2.1, aY.2.2.2.2.2.2.2.2.2.2.1, aY.2.2.2.2.2.2.2.2.2.2.2.1, aY.2.2.2.2.2.2.2.2.2.2.2.2.1, aY.2.2.2.2.2.2.2.2.2.2.2.2.2.1, aY.2.2.2.2.2.2.2.2.2.2.2.2.2.2.1, aY.2.2.2.2.2.2.2.2.2.2.2.2.2.2.2.1, aY.2.2.2.2.2.2.2.2.2.2.2.2.2.2.2.2.1, aY.2.2.2.2.2.2.2.2.2.2.2.2.2.2.2.2.2.1, aY.2.2.2.2.2.2.2.2.2.2.2.2.2.2.2.2.2.2.1, aY.2.2.2.2.2.2.2.2.2.2.2.2.2.2.2.2.2.2.2.1, aY.2.2.2.2.2.2.2.2.2.2.2.2.2.2.2.2.2.2.2.2.1, aY.2.2.2.2.2.2.2.2.2.2.2.2.2.2.2.2.2.2.2.2.2.1, aY.2.2.2.2.2.2.2.2.2.2.2.2.2.2.2.2.2.2.2.2.2.2.1, aY.2.2.2.2.2.2.2.2.2.2.2.2.2.2.2.2.2.2.2.2.2.2.2.1, aY.2.2.2.2.2.2.2.2.2.2.2.2.2.2.2.2.2.2.2.2.2.2.2.2.1, aY.2.2.2.2.2.2.2.2.2.2.2.2.2.2.2.2.2.2.2.2.2.2.2.2.2.1, aY.2.2.2.2.2.2.2.2.2.2.2.2.2.2.2.2.2.2.2.2.2.2.2.2.2.2))))) else (none)
theorem aodv_get.mono : ∀ a0 k, LeO (aodv_get.f k a0) (aodv_get.f (k + 1) a0) := by
 intro a0 k
 unfold aodv_get.f
 repeat' first
   | (with_reducible exact rerr_Get.mono _ _)
   | (with_reducible exact rrep_Get.mono _ _)
   | (with_reducible exact rreq_Get.mono _ _)
   | (with_reducible exact LeO.refl _)
   | (with_reducible exact LeO.none _)
   | (with_reducible refine LeO.ite ?_ ?_)
   | (with_reducible refine LeO.bind ?_ (fun _ => ?_))
   | exact rerr_Get.mono _ _
   | exact rrep_Get.mono _ _
   | exact rreq_Get.mono _ _
   | exact LeO.none _
   | refine LeO.ite ?_ ?_
   | refine LeO.bind ?_ (fun _ => ?_)
set_option maxHeartbeats 8000000 in
set_option maxRecDepth 100000 in
theorem aodv_get.calls (k : Nat) (a0 : ByteArray) (r1 : Int) (r2 : Int) (r3 : Int) (r4 : ByteArray) (r5 : Int) (r6 : Int) (r7 : ByteArray) (r8 : Int) (r9 : Int) (r10 : ByteArray) (r11 : Int) (r12 : ByteArray) (r13 : Int) (r14 : Int) (r15 : Int) (r16 : Int) (r17 : Int) (r18 : Int) (r19 : Int) (r20 : ByteArray) (r21 : ByteArray) (r22 : List (S46)) (r23 : Int) (r24 : ByteArray) (r25 : List (S48)) (r26 : Int) (r27 : Int) (w : World) (h : aodv_get.f k a0 = some (r1, r2, r3, r4, r5, r6, r7, r8, r9, r10, r11, r12, r13, r14, r15, r16, r17, r18, r19, r20, r21, r22, r23, r24, r25, r26, r27)) :
  Calls Try.prog 69 #[.string a0] w fun e w' => ∃ v21_ v24_ : Value, e = .returned (.tuple #[.agg #[.int .i64 r1, .int .i64 r2, .int .i64 r3, .string r4, .int .i64 r5, .int .i64 r6, .string r7, .int .i64 r8, .int .i64 r9, .string r10, .int .i64 r11, .string r12, .int .i64 r13, .int .i64 r14, .int .i64 r15, .int .i64 r16, .int .i64 r17, .int .i64 r18, .int .i64 r19, .string r20, .string r21, v21_, .int .i64 r23, .string r24, v24_], .int .i64 r26, .int .i64 r27]) ∧ Kd.R k46 46 w' w.heap.size (fun _ => True) v21_ r22 ∧ Kd.R k48 48 w' w.heap.size (fun _ => True) v24_ r25 ∧ Below w.heap.size w w' := by
 have fn := Try.underlying25
 have HB := Aside0.mk (Below.refl w.heap.size w)
 have H : (if 0 < (a0.size : Int) then (if (bt a0 0) = 1 then ((rreq_Get.f k a0).bind fun aE => (some (aE.1, aE.2.1, aE.2.2.1, aE.2.2.2.1, aE.2.2.2.2.1, aE.2.2.2.2.2.1, aE.2.2.2.2.2.2.1, aE.2.2.2.2.2.2.2.1, aE.2.2.2.2.2.2.2.2.1, aE.2.2.2.2.2.2.2.2.2.1, aE.2.2.2.2.2.2.2.2.2.2.1, aE.2.2.2.2.2.2.2.2.2.2.2.1, aE.2.2.2.2.2.2.2.2.2.2.2.2.1, aE.2.2.2.2.2.2.2.2.2.2.2.2.2.1, aE.2.2.2.2.2.2.2.2.2.2.2.2.2.2.1, aE.2.2.2.2.2.2.2.2.2.2.2.2.2.2.2.1, aE.2.2.2.2.2.2.2.2.2.2.2.2.2.2.2.2.1, aE.2.2.2.2.2.2.2.2.2.2.2.2.2.2.2.2.2.1, aE.2.2.2.2.2.2.2.2.2.2.2.2.2.2.2.2.2.2.1, aE.2.2.2.2.2.2.2.2.2.2.2.2.2.2.2.2.2.2.2.1, aE.2.2.2.2.2.2.2.2.2.2.2.2.2.2.2.2.2.2.2.2.1, aE.2.2.2.2.2.2.2.2.2.2.2.2.2.2.2.2.2.2.2.2.2.1, aE.2.2.2.2.2.2.2.2.2.2.2.2.2.2.2.2.2.2.2.2.2.2.1, aE.2.2.2.2.2.2.2.2.2.2.2.2.2.2.2.2.2.2.2.2.2.2.2.1, aE.2.2.2.2.2.2.2.2.2.2.2.2.2.2.2.2.2.2.2.2.2.2.2.2.1, aE.2.2.2.2.2.2.2.2.2.2.2.2.2.2.2.2.2.2.2.2.2.2.2.2.2.1, aE.2.2.2.2.2.2.2.2.2.2.2.2.2.2.2.2.2.2.2.2.2.2.2.2.2.2))) else (if (bt a0 0) = 3 then ((rerr_Get.f k a0).bind fun aK => (some (aK.1, aK.2.1, aK.2.2.1, aK.2.2.2.1, aK.2.2.2.2.1, aK.2.2.2.2.2.1, aK.2.2.2.2.2.2.1, aK.2.2.2.2.2.2.2.1, aK.2.2.2.2.2.2.2.2.1, aK.2.2.2.2.2.2.2.2.2.1, aK.2.2.2.2.2.2.2.2.2.2.1, aK.2.2.2.2.2.2.2.2.2.2.2.1, aK.2.2.2.2.2.2.2.2.2.2.2.2.1, aK.2.2.2.2.2.2.2.2.2.2.2.2.2.1, aK.2.2.2.2.2.2.2.2.2.2.2.2.2.2.1, aK.2.2.2.2.2.2.2.2.2.2.2.2.2.2.2.1, aK.2.2.2.2.2.2.2.2.2.2.2.2.2.2.2.2.1, aK.2.2.2.2.2.2.2.2.2.2.2.2.2.2.2.2.2.1, aK.2.2.2.2.2.2.2.2.2.2.2.2.2.2.2.2.2.2.1, aK.2.2.2.2.2.2.2.2.2.2.2.2.2.2.2.2.2.2.2.1, aK.2.2.2.2.2.2.2.2.2.2.2.2.2.2.2.2.2.2.2.2.1, aK.2.2.2.2.2.2.2.2.2.2.2.2.2.2.2.2.2.2.2.2.2.1, aK.2.2.2.2.2.2.2.2.2.2.2.2.2.2.2.2.2.2.2.2.2.2.1, aK.2.2.2.2.2.2.2.2.2.2.2.2.2.2.2.2.2.2.2.2.2.2.2.1, aK.2.2.2.2.2.2.2.2.2.2.2.2.2.2.2.2.2.2.2.2.2.2.2.2.1, aK.2.2.2.2.2.2.2.2.2.2.2.2.2.2.2.2.2.2.2.2.2.2.2.2.2.1, aK.2.2.2.2.2.2.2.2.2.2.2.2.2.2.2.2.2.2.2.2.2.2.2.2.2.2))) else ((rrep_Get.f k a0).bind fun aY => (some (aY.1, aY.2.1, aY.2.2.1, aY.2.2.2.1, aY.2.2.2.2.1, aY.2.2.2.2.2.1, aY.2.2.2.2.2.2.1, aY.2.2.2.2.2.2.2.1, aY.2.2.2.2.2.2.2.2.1, aY.2.2.2.2.2.2.2.2.2.1, aY.2.2.2.2.2.2.2.2.2.2.1, aY.2.2.2.2.2.2.2.2.2.2.2.1, aY.2.2.2.2.2.2.2.2.2.2.2.2.1, aY.2.2.2.2.2.2.2.2.2.2.2.2.2.1, aY.2.2.2.2.2.2.2.2.2.2.2.2.2.2.1, aY.2.2.2.2.2.2.2.2.2.2.2.2.2.2.2.1, aY.2.2.2.2.2.2.2.2.2.2.2.2.2.2.2.2.1, aY.2.2.2.2.2.2.2.2.2.2.2.2.2.2.2.2.2.1, aY.2.2.2.2.2.2.2.2.2.2.2.2.2.2.2.2.2.2.1, aY.2.2.2.2.2.2.2.2.2.2.2.2.2.2.2.2.2.2.2.1, aY.2.2.2.2.2.2.2.2.2.2.2.2.2.2.2.2.2.2.2.2.1, aY.2.2.2.2.2.2.2.2.2.2.2.2.2.2.2.2.2.2.2.2.2.1, aY.2.2.2.2.2.2.2.2.2.2.2.2.2.2.2.2.2.2.2.2.2.2.1, aY.2.2.2.2.2.2.2.2.2.2.2.2.2.2.2.2.2.2.2.2.2.2.2.1, aY.2.2.2.2.2.2.2.2.2.2.2.2.2.2.2.2.2.2.2.2.2.2.2.2.1, aY.2.2.2.2.2.2.2.2.2.2.2.2.2.2.2.2.2.2.2.2.2.2.2.2.2.1, aY.2.2.2.2.2.2.2.2.2.2.2.2.2.2.2.2.2.2.2.2.2.2.2.2.2.2))))) else (none)) = some (r1, r2, r3, r4, r5, r6, r7, r8, r9, r10, r11, r12, r13, r14, r15, r16, r17, r18, r19, r20, r21, r22, r23, r24, r25, r26, r27) := h
 clear h
 by_cases c2 : 0 < (a0.size : Int)
 ·rw [if_pos c2] at H
  have eE : decide (0 < (a0.size : Int)) = true := decide_eq_true c2
  have fo : decide (0 < a0.size) = true := decide_eq_true Z34
  clear c2
  by_cases c4 : (bt a0 0) = 1
  ·rw [if_pos c4] at H
   have dL : ((bt a0 0) == 1) = true := beq_iff_eq.mpr c4
   have gh : ((bt a0 0) != 1) = false := bne_eq_false_iff_eq.mpr c4
   clear c4
   replace H := Option.bind_eq_some_iff.mp H
   obtain ⟨⟨aM, aX, aV, bi, aU, bp, aQ, ba, bk, bK, cj, bL, bP, bF, bO, cC, bE, bS, bZ, ca, ck, dV, dM, cb, es, ex, hF⟩, jt, H⟩ := H
   replace H : (some (aM, aX, aV, bi, aU, bp, aQ, ba, bk, bK, cj, bL, bP, bF, bO, cC, bE, bS, bZ, ca, ck, dV, dM, cb, es, ex, hF)) = some (r1, r2, r3, r4, r5, r6, r7, r8, r9, r10, r11, r12, r13, r14, r15, r16, r17, r18, r19, r20, r21, r22, r23, r24, r25, r26, r27) := H
   have A5 := Aside0.mk jt
   clear jt
   simp only [Option.some.injEq, Prod.mk.injEq] at H
   obtain ⟨rfl, rfl, rfl, rfl, rfl, rfl, rfl, rfl, rfl, rfl, rfl, rfl, rfl, rfl, rfl, rfl, rfl, rfl, rfl, rfl, rfl, rfl, rfl, rfl, rfl, rfl, rfl⟩ := H
   go_enter Try.func69, Try.ntmps69
   go_wp2_with (first | ((with_reducible refine gate_dst (N := 2) rfl ?_); refine Sq.box 2 #[.int .i64 0, .int .i64 0, .int .i64 0, .string ⟨#[]⟩, .int .i64 0, .int .i64 0, .string ⟨#[]⟩, .int .i64 0, .int .i64 0, .string ⟨#[]⟩, .int .i64 0, .string ⟨#[]⟩, .int .i64 0, .int .i64 0, .int .i64 0, .int .i64 0, .int .i64 0, .int .i64 0, .int .i64 0, .string ⟨#[]⟩, .string ⟨#[]⟩, .slice none 0 0, .int .i64 0, .string ⟨#[]⟩, .slice none 0 0] 25 ?_; intro ab hg w6 hbox hb; have aa := Aside0.mk (hbox); have bR := Aside0.mk (Sq.ge hg Z1); have bf := Aside0.mk (Sq.ge hg Z1); replace HB := Aside0.mk (below_step Z1 hb); clear hb hbox hg; have p3 : 0 ≤ (0 : Int) := Z34; have q3 : 0 < a0.size := (by have : (0 : Int) < (a0.size : Int) := of_decide_eq_true Z6; omega); have hx3 : ∀ h : 0 < a0.size, ((a0[0]'h).toNat : Int) = bt a0 0 := bt_at a0 0; clear p3; have qi3 : (0 < (a0.size : Int)) = True := eq_true (of_decide_eq_true Z6); replace q3 := eq_true q3) | ((with_reducible refine gate_callee (f := 22) rfl ?_); refine goesL_ (some 10) rfl rfl Try.func22 Z14 rfl #[.string a0] rfl Z4 ?_; (with_reducible refine (rreq_Get.calls k a0 aM aX aV bi aU bp aQ ba bk bK cj bL bP bF bO cC bE bS bZ ca ck dV dM cb es ex hF _ A5.out).mono ?_); rintro e w7 ⟨ph, qM, rfl, ho0, ho1, hb⟩; refine ⟨_, rfl, ?_⟩; have fq := Aside0.mk (Kd.R_lower ho0 (below_size Z0)); have fY := Aside0.mk (Kd.R_lower ho1 (below_size Z0)); replace aa := Aside0.mk (blk_below (g := ab) Z2 hb); replace HB := Aside0.mk (below_step Z0 hb); clear hb ho0 ho1; have nL := cells_25 aa.out; obtain ⟨pq, pr, eo9⟩ := Kd.R_slice fq.out; subst eo9; obtain ⟨la, lb, eo10⟩ := Kd.R_slice fY.out; subst eo10) | ((with_reducible refine Pre.gate_store 25 rfl ?_); refine Pre.store_abs (cur := #[.int .i64 0, .int .i64 0, .int .i64 0, .string ⟨#[]⟩, .int .i64 0, .int .i64 0, .string ⟨#[]⟩, .int .i64 0, .int .i64 0, .string ⟨#[]⟩, .int .i64 0, .string ⟨#[]⟩, .int .i64 0, .int .i64 0, .int .i64 0, .int .i64 0, .int .i64 0, .int .i64 0, .int .i64 0, .string ⟨#[]⟩, .string ⟨#[]⟩, .slice none 0 0, .int .i64 0, .string ⟨#[]⟩, .slice none 0 0]) (e := 25) rfl rfl rfl Z22 Z22 Z2 Z14 Z22 Z22 ?_; intro jQ hbS_ sS_; have bl : Aside0 (Kd.R k46 46 jQ w.heap.size (fun _ => True) (.slice pq dV.length pr) dV) := ⟨Kd.R_mono (Pre.R_sets sS_ (Kd.R_types fq.out aa.out Z27) (fun _ hk => hk.2)) (fun _ hk => trivial)⟩; have bm : Aside0 (Kd.R k48 48 jQ w.heap.size (fun _ => True) (.slice la es.length lb) es) := ⟨Kd.R_mono (Pre.R_sets sS_ (Kd.R_types fY.out aa.out Z27) (fun _ hk => hk.2)) (fun _ hk => trivial)⟩; have bI : Aside0 (jQ.heap[ab]? = some (.cells #[.int .i64 aM, .int .i64 aX, .int .i64 aV, .string bi, .int .i64 aU, .int .i64 bp, .string aQ, .int .i64 ba, .int .i64 bk, .string bK, .int .i64 cj, .string bL, .int .i64 bP, .int .i64 bF, .int .i64 bO, .int .i64 cC, .int .i64 bE, .int .i64 bS, .int .i64 bZ, .string ca, .string ck, .slice pq dV.length pr, .int .i64 dM, .string cb, .slice la es.length lb] 25 (0, 0))) := ⟨hbS_⟩; have dU : Aside0 (Below w.heap.size w jQ) := ⟨sS_.below Z0 bf.out⟩; clear hbS_ sS_; replace fq := bl; replace fY := bm; replace aa := bI; replace HB := dU; clear bl bm bI dU))
   refine bodyPost_ret (results_ctt rfl _ _ ab 25 #[.int .i64 aM, .int .i64 aX, .int .i64 aV, .string bi, .int .i64 aU, .int .i64 bp, .string aQ, .int .i64 ba, .int .i64 bk, .string bK, .int .i64 cj, .string bL, .int .i64 bP, .int .i64 bF, .int .i64 bO, .int .i64 cC, .int .i64 bE, .int .i64 bS, .int .i64 bZ, .string ca, .string ck, .slice pq dV.length pr, .int .i64 dM, .string cb, .slice la es.length lb] (0, 0) _ rfl Z2 Try.underlying25 rfl Z14) rfl ?_
   exact ⟨_, _, Z5, Z80, Z92, Z0⟩
  ·rw [if_neg c4] at H
   have dL : ((bt a0 0) == 1) = false := beq_eq_false_iff_ne.mpr c4
   have gh : ((bt a0 0) != 1) = true := bne_iff_ne.mpr c4
   by_cases gd : (bt a0 0) = 3
   ·rw [if_pos gd] at H
    have jv : ((bt a0 0) == 3) = true := beq_iff_eq.mpr gd
    have li : ((bt a0 0) != 3) = false := bne_eq_false_iff_eq.mpr gd
    clear gd
    replace H := Option.bind_eq_some_iff.mp H
    obtain ⟨⟨dN, fA, eS, gi, gj, gR, gB, gC, gD, gE, iZ, gF, gG, gH, gI, jR, fc, gJ, gK, gL, gM, eX, gN, gO, fr, io, ip⟩, kF, H⟩ := H
    replace H : (some (dN, fA, eS, gi, gj, gR, gB, gC, gD, gE, iZ, gF, gG, gH, gI, jR, fc, gJ, gK, gL, gM, eX, gN, gO, fr, io, ip)) = some (r1, r2, r3, r4, r5, r6, r7, r8, r9, r10, r11, r12, r13, r14, r15, r16, r17, r18, r19, r20, r21, r22, r23, r24, r25, r26, r27) := H
    have rn := Aside0.mk kF
    clear kF
    simp only [Option.some.injEq, Prod.mk.injEq] at H
    obtain ⟨rfl, rfl, rfl, rfl, rfl, rfl, rfl, rfl, rfl, rfl, rfl, rfl, rfl, rfl, rfl, rfl, rfl, rfl, rfl, rfl, rfl, rfl, rfl, rfl, rfl, rfl, rfl⟩ := H
    go_enter Try.func69, Try.ntmps69
    go_wp2_with (first | ((with_reducible refine gate_dst (N := 2) rfl ?_); refine Sq.box 2 #[.int .i64 0, .int .i64 0, .int .i64 0, .string ⟨#[]⟩, .int .i64 0, .int .i64 0, .string ⟨#[]⟩, .int .i64 0, .int .i64 0, .string ⟨#[]⟩, .int .i64 0, .string ⟨#[]⟩, .int .i64 0, .int .i64 0, .int .i64 0, .int .i64 0, .int .i64 0, .int .i64 0, .int .i64 0, .string ⟨#[]⟩, .string ⟨#[]⟩, .slice none 0 0, .int .i64 0, .string ⟨#[]⟩, .slice none 0 0] 25 ?_; intro ab hg lM hbox hb; have aa := Aside0.mk (hbox); have bR := Aside0.mk (Sq.ge hg Z1); have bf := Aside0.mk (Sq.ge hg Z1); replace HB := Aside0.mk (below_step Z1 hb); clear hb hbox hg; have p3 : 0 ≤ (0 : Int) := Z34; have q3 : 0 < a0.size := (by have : (0 : Int) < (a0.size : Int) := of_decide_eq_true Z6; omega); have hx3 : ∀ h : 0 < a0.size, ((a0[0]'h).toNat : Int) = bt a0 0 := bt_at a0 0; clear p3; have qi3 : (0 < (a0.size : Int)) = True := eq_true (of_decide_eq_true Z6); replace q3 := eq_true q3) | ((with_reducible refine gate_callee (f := 30) rfl ?_); refine goesL_ (some 17) rfl rfl Try.func30 Z14 rfl #[.string a0] rfl Z4 ?_; (with_reducible refine (rerr_Get.calls k a0 dN fA eS gi gj gR gB gC gD gE iZ gF gG gH gI jR fc gJ gK gL gM eX gN gO fr io ip _ rn.out).mono ?_); rintro e mj ⟨tc, td, rfl, ho0, ho1, hb⟩; refine ⟨_, rfl, ?_⟩; have hN := Aside0.mk (Kd.R_lower ho0 (below_size Z0)); have hO := Aside0.mk (Kd.R_lower ho1 (below_size Z0)); replace aa := Aside0.mk (blk_below (g := ab) Z2 hb); replace HB := Aside0.mk (below_step Z0 hb); clear hb ho0 ho1; have jD := cells_25 aa.out; obtain ⟨lc, ld, eo17⟩ := Kd.R_slice hN.out; subst eo17; obtain ⟨lf, lg, eo18⟩ := Kd.R_slice hO.out; subst eo18) | ((with_reducible refine Pre.gate_store 25 rfl ?_); refine Pre.store_abs (cur := #[.int .i64 0, .int .i64 0, .int .i64 0, .string ⟨#[]⟩, .int .i64 0, .int .i64 0, .string ⟨#[]⟩, .int .i64 0, .int .i64 0, .string ⟨#[]⟩, .int .i64 0, .string ⟨#[]⟩, .int .i64 0, .int .i64 0, .int .i64 0, .int .i64 0, .int .i64 0, .int .i64 0, .int .i64 0, .string ⟨#[]⟩, .string ⟨#[]⟩, .slice none 0 0, .int .i64 0, .string ⟨#[]⟩, .slice none 0 0]) (e := 25) rfl rfl rfl Z22 Z22 Z2 Z14 Z22 Z22 ?_; intro me hbS_ sS_; have bl : Aside0 (Kd.R k46 46 me w.heap.size (fun _ => True) (.slice lc eX.length ld) eX) := ⟨Kd.R_mono (Pre.R_sets sS_ (Kd.R_types hN.out aa.out Z27) (fun _ hk => hk.2)) (fun _ hk => trivial)⟩; have bm : Aside0 (Kd.R k48 48 me w.heap.size (fun _ => True) (.slice lf fr.length lg) fr) := ⟨Kd.R_mono (Pre.R_sets sS_ (Kd.R_types hO.out aa.out Z27) (fun _ hk => hk.2)) (fun _ hk => trivial)⟩; have bI : Aside0 (me.heap[ab]? = some (.cells #[.int .i64 dN, .int .i64 fA, .int .i64 eS, .string gi, .int .i64 gj, .int .i64 gR, .string gB, .int .i64 gC, .int .i64 gD, .string gE, .int .i64 iZ, .string gF, .int .i64 gG, .int .i64 gH, .int .i64 gI, .int .i64 jR, .int .i64 fc, .int .i64 gJ, .int .i64 gK, .string gL, .string gM, .slice lc eX.length ld, .int .i64 gN, .string gO, .slice lf fr.length lg] 25 (0, 0))) := ⟨hbS_⟩; have dU : Aside0 (Below w.heap.size w me) := ⟨sS_.below Z0 bf.out⟩; clear hbS_ sS_; replace hN := bl; replace hO := bm; replace aa := bI; replace HB := dU; clear bl bm bI dU))
    refine bodyPost_ret (results_ctt rfl _ _ ab 25 #[.int .i64 dN, .int .i64 fA, .int .i64 eS, .string gi, .int .i64 gj, .int .i64 gR, .string gB, .int .i64 gC, .int .i64 gD, .string gE, .int .i64 iZ, .string gF, .int .i64 gG, .int .i64 gH, .int .i64 gI, .int .i64 jR, .int .i64 fc, .int .i64 gJ, .int .i64 gK, .string gL, .string gM, .slice lc eX.length ld, .int .i64 gN, .string gO, .slice lf fr.length lg] (0, 0) _ rfl Z2 Try.underlying25 rfl Z14) rfl ?_
    exact ⟨_, _, Z5, by (with_reducible repeat (first | apply Kd.R_alloc | apply Kd.R_drewN | apply Kd.R_drew)); exact hN.out, by (with_reducible repeat (first | apply Kd.R_alloc | apply Kd.R_drewN | apply Kd.R_drew)); exact hO.out, Z0⟩
   ·rw [if_neg gd] at H
    have jv : ((bt a0 0) == 3) = false := beq_eq_false_iff_ne.mpr gd
    have li : ((bt a0 0) != 3) = true := bne_iff_ne.mpr gd
    replace H := Option.bind_eq_some_iff.mp H
    obtain ⟨⟨gP, ja, jb, jc, jd, jS, jT, jU, jV, jW, jX, jY, jZ, ka, kb, kc, kd, ke, kf, kg, kh, iv, ki, kj, iw, mI, mJ⟩, je, H⟩ := H
    replace H : (some (gP, ja, jb, jc, jd, jS, jT, jU, jV, jW, jX, jY, jZ, ka, kb, kc, kd, ke, kf, kg, kh, iv, ki, kj, iw, mI, mJ)) = some (r1, r2, r3, r4, r5, r6, r7, r8, r9, r10, r11, r12, r13, r14, r15, r16, r17, r18, r19, r20, r21, r22, r23, r24, r25, r26, r27) := H
    have gr := Aside0.mk je
    clear je
    simp only [Option.some.injEq, Prod.mk.injEq] at H
    obtain ⟨rfl, rfl, rfl, rfl, rfl, rfl, rfl, rfl, rfl, rfl, rfl, rfl, rfl, rfl, rfl, rfl, rfl, rfl, rfl, rfl, rfl, rfl, rfl, rfl, rfl, rfl, rfl⟩ := H
    go_enter Try.func69, Try.ntmps69
    go_wp2_with (first | ((with_reducible refine gate_dst (N := 2) rfl ?_); refine Sq.box 2 #[.int .i64 0, .int .i64 0, .int .i64 0, .string ⟨#[]⟩, .int .i64 0, .int .i64 0, .string ⟨#[]⟩, .int .i64 0, .int .i64 0, .string ⟨#[]⟩, .int .i64 0, .string ⟨#[]⟩, .int .i64 0, .int .i64 0, .int .i64 0, .int .i64 0, .int .i64 0, .int .i64 0, .int .i64 0, .string ⟨#[]⟩, .string ⟨#[]⟩, .slice none 0 0, .int .i64 0, .string ⟨#[]⟩, .slice none 0 0] 25 ?_; intro ab hg oB hbox hb; have aa := Aside0.mk (hbox); have bR := Aside0.mk (Sq.ge hg Z1); have bf := Aside0.mk (Sq.ge hg Z1); replace HB := Aside0.mk (below_step Z1 hb); clear hb hbox hg; have p3 : 0 ≤ (0 : Int) := Z34; have q3 : 0 < a0.size := (by have : (0 : Int) < (a0.size : Int) := of_decide_eq_true Z6; omega); have hx3 : ∀ h : 0 < a0.size, ((a0[0]'h).toNat : Int) = bt a0 0 := bt_at a0 0; clear p3; have qi3 : (0 < (a0.size : Int)) = True := eq_true (of_decide_eq_true Z6); replace q3 := eq_true q3) | ((with_reducible refine gate_callee (f := 38) rfl ?_); refine goesL_ (some 22) rfl rfl Try.func38 Z14 rfl #[.string a0] rfl Z4 ?_; (with_reducible refine (rrep_Get.calls k a0 gP ja jb jc jd jS jT jU jV jW jX jY jZ ka kb kc kd ke kf kg kh iv ki kj iw mI mJ _ gr.out).mono ?_); rintro e nH ⟨te, tf, rfl, ho0, ho1, hb⟩; refine ⟨_, rfl, ?_⟩; have hP := Aside0.mk (Kd.R_lower ho0 (below_size Z0)); have hQ := Aside0.mk (Kd.R_lower ho1 (below_size Z0)); replace aa := Aside0.mk (blk_below (g := ab) Z2 hb); replace HB := Aside0.mk (below_step Z0 hb); clear hb ho0 ho1; have kG := cells_25 aa.out; obtain ⟨ix, iy, eo24⟩ := Kd.R_slice hP.out; subst eo24; obtain ⟨iz, iA, eo25⟩ := Kd.R_slice hQ.out; subst eo25) | ((with_reducible refine Pre.gate_store 25 rfl ?_); refine Pre.store_abs (cur := #[.int .i64 0, .int .i64 0, .int .i64 0, .string ⟨#[]⟩, .int .i64 0, .int .i64 0, .string ⟨#[]⟩, .int .i64 0, .int .i64 0, .string ⟨#[]⟩, .int .i64 0, .string ⟨#[]⟩, .int .i64 0, .int .i64 0, .int .i64 0, .int .i64 0, .int .i64 0, .int .i64 0, .int .i64 0, .string ⟨#[]⟩, .string ⟨#[]⟩, .slice none 0 0, .int .i64 0, .string ⟨#[]⟩, .slice none 0 0]) (e := 25) rfl rfl rfl Z22 Z22 Z2 Z14 Z22 Z22 ?_; intro iR hbS_ sS_; have bl : Aside0 (Kd.R k46 46 iR w.heap.size (fun _ => True) (.slice ix iv.length iy) iv) := ⟨Kd.R_mono (Pre.R_sets sS_ (Kd.R_types hP.out aa.out Z27) (fun _ hk => hk.2)) (fun _ hk => trivial)⟩; have bm : Aside0 (Kd.R k48 48 iR w.heap.size (fun _ => True) (.slice iz iw.length iA) iw) := ⟨Kd.R_mono (Pre.R_sets sS_ (Kd.R_types hQ.out aa.out Z27) (fun _ hk => hk.2)) (fun _ hk => trivial)⟩; have bI : Aside0 (iR.heap[ab]? = some (.cells #[.int .i64 gP, .int .i64 ja, .int .i64 jb, .string jc, .int .i64 jd, .int .i64 jS, .string jT, .int .i64 jU, .int .i64 jV, .string jW, .int .i64 jX, .string jY, .int .i64 jZ, .int .i64 ka, .int .i64 kb, .int .i64 kc, .int .i64 kd, .int .i64 ke, .int .i64 kf, .string kg, .string kh, .slice ix iv.length iy, .int .i64 ki, .string kj, .slice iz iw.length iA] 25 (0, 0))) := ⟨hbS_⟩; have dU : Aside0 (Below w.heap.size w iR) := ⟨sS_.below Z0 bf.out⟩; clear hbS_ sS_; replace hP := bl; replace hQ := bm; replace aa := bI; replace HB := dU; clear bl bm bI dU))
    refine bodyPost_ret (results_ctt rfl _ _ ab 25 #[.int .i64 gP, .int .i64 ja, .int .i64 jb, .string jc, .int .i64 jd, .int .i64 jS, .string jT, .int .i64 jU, .int .i64 jV, .string jW, .int .i64 jX, .string jY, .int .i64 jZ, .int .i64 ka, .int .i64 kb, .int .i64 kc, .int .i64 kd, .int .i64 ke, .int .i64 kf, .string kg, .string kh, .slice ix iv.length iy, .int .i64 ki, .string kj, .slice iz iw.length iA] (0, 0) _ rfl Z2 Try.underlying25 rfl Z14) rfl ?_
    exact ⟨_, _, Z5, by (with_reducible repeat (first | apply Kd.R_alloc | apply Kd.R_drewN | apply Kd.R_drew)); exact hP.out, by (with_reducible repeat (first | apply Kd.R_alloc | apply Kd.R_drewN | apply Kd.R_drew)); exact hQ.out, Z0⟩
 ·rw [if_neg c2] at H
  exact absurd H Z59

/-! ### aodv_Parse: function 41 -/
def aodv_Parse.j0 : Nat → ByteArray → Bool → Option ((List (S25)) × Int × Int)
 | 0, _, _ => none
 | k + 1, x0, ro => if ro = true then (some (([] : List (S25)), 0, 4)) else ((aodv_get.f k x0).bind fun aT => (if aT.2.2.2.2.2.2.2.2.2.2.2.2.2.2.2.2.2.2.2.2.2.2.2.2.2.2 = 0 then (some ((([(⟨aT.1, aT.2.1, aT.2.2.1, aT.2.2.2.1, aT.2.2.2.2.1, aT.2.2.2.2.2.1, aT.2.2.2.2.2.2.1, aT.2.2.2.2.2.2.2.1, aT.2.2.2.2.2.2.2.2.1, aT.2.2.2.2.2.2.2.2.2.1, aT.2.2.2.2.2.2.2.2.2.2.1, aT.2.2.2.2.2.2.2.2.2.2.2.1, aT.2.2.2.2.2.2.2.2.2.2.2.2.1, aT.2.2.2.2.2.2.2.2.2.2.2.2.2.1, aT.2.2.2.2.2.2.2.2.2.2.2.2.2.2.1, aT.2.2.2.2.2.2.2.2.2.2.2.2.2.2.2.1, aT.2.2.2.2.2.2.2.2.2.2.2.2.2.2.2.2.1, aT.2.2.2.2.2.2.2.2.2.2.2.2.2.2.2.2.2.1, aT.2.2.2.2.2.2.2.2.2.2.2.2.2.2.2.2.2.2.1, aT.2.2.2.2.2.2.2.2.2.2.2.2.2.2.2.2.2.2.2.1, aT.2.2.2.2.2.2.2.2.2.2.2.2.2.2.2.2.2.2.2.2.1, aT.2.2.2.2.2.2.2.2.2.2.2.2.2.2.2.2.2.2.2.2.2.1, aT.2.2.2.2.2.2.2.2.2.2.2.2.2.2.2.2.2.2.2.2.2.2.1, aT.2.2.2.2.2.2.2.2.2.2.2.2.2.2.2.2.2.2.2.2.2.2.2.1, aT.2.2.2.2.2.2.2.2.2.2.2.2.2.2.2.2.2.2.2.2.2.2.2.2.1⟩ : S25)] : List (S25))), 0, 0)) else (some (([] : List (S25)), aT.2.2.2.2.2.2.2.2.2.2.2.2.2.2.2.2.2.2.2.2.2.2.2.2.2.1, aT.2.2.2.2.2.2.2.2.2.2.2.2.2.2.2.2.2.2.2.2.2.2.2.2.2.2))))
def aodv_Parse.f (k : Nat) (a0 : ByteArray) : Option ((List (S25)) × Int × Int) := if (a0.size : Int) > 65535 then (some (([] : List (S25)), 65535, 10)) else (if (a0.size : Int) = 0 then (some (([] : List (S25)), 0, 2)) else (if 0 < (a0.size : Int) then (if (bt a0 0) < 1 then (aodv_Parse.j0 k a0 true) else (aodv_Parse.j0 k a0 (decide ((bt a0 0) > 4)))) else (none)))
theorem aodv_Parse.mono_l : ∀ k, (∀ y0 y1, LeO (aodv_Parse.j0 k y0 y1) (aodv_Parse.j0 (k + 1) y0 y1))
 | 0 => fun _ _ r h => by simp [aodv_Parse.j0] at h
 | k + 1 => by
  have ih0 := aodv_Parse.mono_l k
  ·intro y0 y1
   unfold aodv_Parse.j0
   repeat' first
   | (with_reducible exact ih0 _ _)
   | (with_reducible exact aodv_get.mono _ _)
   | (with_reducible exact LeO.refl _)
   | (with_reducible exact LeO.none _)
   | (with_reducible refine LeO.ite ?_ ?_)
   | (with_reducible refine LeO.bind ?_ (fun _ => ?_))
   | exact ih0 _ _
   | exact aodv_get.mono _ _
   | exact LeO.none _
   | refine LeO.ite ?_ ?_
   | refine LeO.bind ?_ (fun _ => ?_)
theorem aodv_Parse.mono : ∀ a0 k, LeO (aodv_Parse.f k a0) (aodv_Parse.f (k + 1) a0) := by
 intro a0 k
 have ih0 := aodv_Parse.mono_l k
 unfold aodv_Parse.f
 repeat' first
   | (with_reducible exact ih0 _ _)
   | (with_reducible exact aodv_get.mono _ _)
   | (with_reducible exact LeO.refl _)
   | (with_reducible exact LeO.none _)
   | (with_reducible refine LeO.ite ?_ ?_)
   | (with_reducible refine LeO.bind ?_ (fun _ => ?_))
   | exact ih0 _ _
   | exact aodv_get.mono _ _
   | exact LeO.none _
   | refine LeO.ite ?_ ?_
   | refine LeO.bind ?_ (fun _ => ?_)

set_option maxHeartbeats 8000000 in
set_option maxRecDepth 100000 in
theorem aodv_Parse.calls (k : Nat) (a0 : ByteArray) (r1 : List (S25)) (r2 : Int) (r3 : Int) (w : World) (h : aodv_Parse.f k a0 = some (r1, r2, r3)) :
  Calls Try.prog 41 #[.string a0] w fun e w' => ∃ v0_ : Value, e = .returned (.tuple #[v0_, .int .i64 r2, .int .i64 r3]) ∧ Kd.N k25 25 w' w.heap.size (fun k_ => (w.heap.size ≤ k_)) v0_ r1 ∧ Below w.heap.size w w' := by
 have fn := Try.underlying25
 have HB := Aside0.mk (Below.refl w.heap.size w)
 have H : (if (a0.size : Int) > 65535 then (some (([] : List (S25)), 65535, 10)) else (if (a0.size : Int) = 0 then (some (([] : List (S25)), 0, 2)) else (if 0 < (a0.size : Int) then (if (bt a0 0) < 1 then (aodv_Parse.j0 k a0 true) else (aodv_Parse.j0 k a0 (decide ((bt a0 0) > 4)))) else (none)))) = some (r1, r2, r3) := h
 clear h
 by_cases c2 : (a0.size : Int) > 65535
 ·rw [if_pos c2] at H
  have eE : decide (65535 < (a0.size : Int)) = true := decide_eq_true c2
  have fo : decide (65535 < a0.size) = true := decide_eq_true Z34
  clear c2
  simp only [Option.some.injEq, Prod.mk.injEq] at H
  obtain ⟨rfl, rfl, rfl⟩ := H
  go_enter Try.func41, Try.ntmps41
  go_wp2_with (first | ((with_reducible refine Pre.gate_load 25 rfl ?_); (try (refine gate_guard Z22 ?_; dsimp only)); refine Pre.load_event rfl rfl rfl Z22 Z9 Try.underlying25 rfl Z14 ?_))
  go_ret3
  exact ⟨_, Z5, Z40, Z1⟩
 ·rw [if_neg c2] at H
  have eE : decide (65535 < (a0.size : Int)) = false := decide_eq_false c2
  have fo : decide (65535 < a0.size) = false := decide_eq_false Z34
  clear c2
  by_cases c3 : (a0.size : Int) = 0
  ·rw [if_pos c3] at H
   have fs : ((a0.size : Int) == 0) = true := beq_iff_eq.mpr c3
   have hR : ((a0.size : Int) != 0) = false := bne_eq_false_iff_eq.mpr c3
   clear c3
   simp only [Option.some.injEq, Prod.mk.injEq] at H
   obtain ⟨rfl, rfl, rfl⟩ := H
   go_enter Try.func41, Try.ntmps41
   go_wp2_with (first | ((with_reducible refine Pre.gate_load 25 rfl ?_); (try (refine gate_guard Z22 ?_; dsimp only)); refine Pre.load_event rfl rfl rfl Z22 Z9 Try.underlying25 rfl Z14 ?_))
   go_ret3
   exact ⟨_, Z5, Z40, Z1⟩
  ·rw [if_neg c3] at H
   have fs : ((a0.size : Int) == 0) = false := beq_eq_false_iff_ne.mpr c3
   have hR : ((a0.size : Int) != 0) = true := bne_iff_ne.mpr c3
   have ps := Aside0.mk H
   clear H
   go_enter Try.func41, Try.ntmps41
   go_upto_region 5 with (first | ((with_reducible refine Pre.gate_load 25 rfl ?_); (try (refine gate_guard Z22 ?_; dsimp only)); refine Pre.load_event rfl rfl rfl Z22 Z9 Try.underlying25 rfl Z14 ?_))
   go_cut [16] (fun iF wc => ∃ (kq : Nat) (hS : Bool), iF = .bool hS ∧ Aside0 (aodv_Parse.j0 kq a0 hS = some (r1, r2, r3)) ∧ Aside0 (kq ≤ k) ∧ Aside0 (Below w.heap.size w wc))
   case first =>
    have H := ps.out
    clear ps
    by_cases c5 : 0 < (a0.size : Int)
    ·rw [if_pos c5] at H
     have fg : decide (0 < (a0.size : Int)) = true := decide_eq_true c5
     have im : decide (0 < a0.size) = true := decide_eq_true Z34
     clear c5
     (first | rw [fg] | (simp only [i64_w, i32_w]; rw [fg]) | skip)
     by_cases c7 : (bt a0 0) < 1
     ·rw [if_pos c7] at H
      have fz : decide ((bt a0 0) < 1) = true := decide_eq_true c7
      clear c7
      have H' := Aside0.mk H
      clear H
      have p6 : 0 ≤ (0 : Int) := Z34
      have q6 : 0 < a0.size := (by have : (0 : Int) < (a0.size : Int) := of_decide_eq_true Z6; omega)
      have hx6 : ∀ h : 0 < a0.size, ((a0[0]'h).toNat : Int) = bt a0 0 := bt_at a0 0
      clear p6
      have qi6 : (0 < (a0.size : Int)) = True := eq_true (of_decide_eq_true Z6)
      replace q6 := eq_true q6
      go_wp2_with (first | ((with_reducible refine Pre.gate_load 25 rfl ?_); (try (refine gate_guard Z22 ?_; dsimp only)); refine Pre.load_event rfl rfl rfl Z22 Z9 Try.underlying25 rfl Z14 ?_))
      go_meet
      case rel => exact ⟨_, (true), Z17, H', ⟨Z43⟩, ⟨Z1⟩⟩
     ·rw [if_neg c7] at H
      have fz : decide ((bt a0 0) < 1) = false := decide_eq_false c7
      clear c7
      have H' := Aside0.mk H
      clear H
      have p6 : 0 ≤ (0 : Int) := Z34
      have q6 : 0 < a0.size := (by have : (0 : Int) < (a0.size : Int) := of_decide_eq_true Z6; omega)
      have hx6 : ∀ h : 0 < a0.size, ((a0[0]'h).toNat : Int) = bt a0 0 := bt_at a0 0
      clear p6
      have qi6 : (0 < (a0.size : Int)) = True := eq_true (of_decide_eq_true Z6)
      replace q6 := eq_true q6
      have p8 : 0 ≤ (0 : Int) := Z34
      have q8 : 0 < a0.size := (by have : (0 : Int) < (a0.size : Int) := of_decide_eq_true Z6; omega)
      have hx8 : ∀ h : 0 < a0.size, ((a0[0]'h).toNat : Int) = bt a0 0 := bt_at a0 0
      clear p8
      have qi8 : (0 < (a0.size : Int)) = True := eq_true (of_decide_eq_true Z6)
      replace q8 := eq_true q8
      go_wp2_with (first | ((with_reducible refine Pre.gate_load 25 rfl ?_); (try (refine gate_guard Z22 ?_; dsimp only)); refine Pre.load_event rfl rfl rfl Z22 Z9 Try.underlying25 rfl Z14 ?_))
      go_meet
      case rel => exact ⟨_, (decide ((bt a0 0) > 4)), Z17, H', ⟨Z43⟩, ⟨Z1⟩⟩
    ·rw [if_neg c5] at H
     exact absurd H Z59
   case rest =>
    clear ps
    try clear c2
    try clear eE
    try clear fo
    try clear p2
    try clear c3
    try clear fs
    try clear hR
    try clear c4
    obtain ⟨kq, hS, rfl, HA, uF, HB⟩ := hcut
    cases kq with
    | zero => exact absurd HA.out (by simp [aodv_Parse.j0])
    | succ kj3 =>
     have H := HA.out
     clear HA
     simp only [aodv_Parse.j0] at H
     by_cases c9 : hS = true
     ·subst c9
      have H1 : (some (([] : List (S25)), 0, 4)) = some (r1, r2, r3) := by rw [if_pos rfl] at H; exact H
      clear H
      have H := H1
      clear H1
      simp only [Option.some.injEq, Prod.mk.injEq] at H
      obtain ⟨rfl, rfl, rfl⟩ := H
      go_wp2_with (first | ((with_reducible refine Pre.gate_load 25 rfl ?_); (try (refine gate_guard Z22 ?_; dsimp only)); refine Pre.load_event rfl rfl rfl Z22 Z9 Try.underlying25 rfl Z14 ?_))
      go_ret3
      exact ⟨_, Z5, Z40, Z1⟩
     ·replace c9 := Bool.eq_false_iff.mpr c9
      subst c9
      have H1 : ((aodv_get.f kj3 a0).bind fun aT => (if aT.2.2.2.2.2.2.2.2.2.2.2.2.2.2.2.2.2.2.2.2.2.2.2.2.2.2 = 0 then (some ((([(⟨aT.1, aT.2.1, aT.2.2.1, aT.2.2.2.1, aT.2.2.2.2.1, aT.2.2.2.2.2.1, aT.2.2.2.2.2.2.1, aT.2.2.2.2.2.2.2.1, aT.2.2.2.2.2.2.2.2.1, aT.2.2.2.2.2.2.2.2.2.1, aT.2.2.2.2.2.2.2.2.2.2.1, aT.2.2.2.2.2.2.2.2.2.2.2.1, aT.2.2.2.2.2.2.2.2.2.2.2.2.1, aT.2.2.2.2.2.2.2.2.2.2.2.2.2.1, aT.2.2.2.2.2.2.2.2.2.2.2.2.2.2.1, aT.2.2.2.2.2.2.2.2.2.2.2.2.2.2.2.1, aT.2.2.2.2.2.2.2.2.2.2.2.2.2.2.2.2.1, aT.2.2.2.2.2.2.2.2.2.2.2.2.2.2.2.2.2.1, aT.2.2.2.2.2.2.2.2.2.2.2.2.2.2.2.2.2.2.1, aT.2.2.2.2.2.2.2.2.2.2.2.2.2.2.2.2.2.2.2.1, aT.2.2.2.2.2.2.2.2.2.2.2.2.2.2.2.2.2.2.2.2.1, aT.2.2.2.2.2.2.2.2.2.2.2.2.2.2.2.2.2.2.2.2.2.1, aT.2.2.2.2.2.2.2.2.2.2.2.2.2.2.2.2.2.2.2.2.2.2.1, aT.2.2.2.2.2.2.2.2.2.2.2.2.2.2.2.2.2.2.2.2.2.2.2.1, aT.2.2.2.2.2.2.2.2.2.2.2.2.2.2.2.2.2.2.2.2.2.2.2.2.1⟩ : S25)] : List (S25))), 0, 0)) else (some (([] : List (S25)), aT.2.2.2.2.2.2.2.2.2.2.2.2.2.2.2.2.2.2.2.2.2.2.2.2.2.1, aT.2.2.2.2.2.2.2.2.2.2.2.2.2.2.2.2.2.2.2.2.2.2.2.2.2.2)))) = some (r1, r2, r3) := by rw [if_neg (show ¬ (false = true) by decide)] at H; exact H
      clear H
      have H := H1
      clear H1
      replace H := Option.bind_eq_some_iff.mp H
      obtain ⟨⟨bB, aM, aX, aV, bi, aU, bp, aQ, ba, bk, bK, cj, bL, bP, bF, bO, cC, bE, bS, bZ, ca, ck, eI, dM, cb, hM, ex⟩, jf, H⟩ := H
      replace H : (if ex = 0 then (some ((([(⟨bB, aM, aX, aV, bi, aU, bp, aQ, ba, bk, bK, cj, bL, bP, bF, bO, cC, bE, bS, bZ, ca, ck, eI, dM, cb⟩ : S25)] : List (S25))), 0, 0)) else (some (([] : List (S25)), hM, ex))) = some (r1, r2, r3) := H
      have lA := Aside0.mk jf
      clear jf
      by_cases dK : ex = 0
      ·rw [if_pos dK] at H
       have eB : (ex == 0) = true := beq_iff_eq.mpr dK
       have fp : (ex != 0) = false := bne_eq_false_iff_eq.mpr dK
       clear dK
       obtain ⟨pt, hy133⟩ : ∃ y_ : List (S25), y_ = (([(⟨bB, aM, aX, aV, bi, aU, bp, aQ, ba, bk, bK, cj, bL, bP, bF, bO, cC, bE, bS, bZ, ca, ck, eI, dM, cb⟩ : S25)] : List (S25))) := ⟨_, rfl⟩
       replace H : (some (pt, 0, 0)) = some (r1, r2, r3) := by first | (rw [hy133]; with_reducible exact H) | (have H2_ := (Option.bind_some _ _).symm.trans H; rw [hy133]; with_reducible exact H2_) | (have H2_ := (Option.bind_some _ _).symm.trans H; with_reducible exact H2_) | with_reducible exact H | (rw [hy133]; exact H) | exact H
       have Ny133 := Aside0.mk hy133
       clear hy133
       simp only [Option.some.injEq, Prod.mk.injEq] at H
       obtain ⟨rfl, rfl, rfl⟩ := H
       go_wp2_with (first | ((with_reducible refine Pre.gate_load 25 rfl ?_); (try (refine gate_guard Z22 ?_; dsimp only)); refine Pre.load_event rfl rfl rfl Z22 Z9 Try.underlying25 rfl Z14 ?_) | ((with_reducible refine gate_callee (f := 69) rfl ?_); refine goesL_ (some 27) rfl rfl Try.func69 Z14 rfl #[.string a0] rfl Z4 ?_; (with_reducible refine (aodv_get.calls kj3 a0 bB aM aX aV bi aU bp aQ ba bk bK cj bL bP bF bO cC bE bS bZ ca ck eI dM cb hM ex _ lA.out).mono ?_); rintro e po ⟨pu, pv, rfl, ho0, ho1, hb⟩; refine ⟨_, rfl, ?_⟩; have ek := Aside0.mk (Kd.R_lower (Kd.R_newM (M := fun k_ => (w.heap.size ≤ k_)) ho0 (below_size Z1) (fun k_ h_ => h_)) (below_size Z1)); have el := Aside0.mk (Kd.R_lower (Kd.R_newM (M := fun k_ => (w.heap.size ≤ k_)) ho1 (below_size Z1) (fun k_ h_ => h_)) (below_size Z1)); replace HB := Aside0.mk (below_step Z1 hb); clear hb ho0 ho1) | ((with_reducible refine gate_dst (N := 5) rfl ?_); refine Sq.box 5 #[.int .i64 0, .int .i64 0, .int .i64 0, .string ⟨#[]⟩, .int .i64 0, .int .i64 0, .string ⟨#[]⟩, .int .i64 0, .int .i64 0, .string ⟨#[]⟩, .int .i64 0, .string ⟨#[]⟩, .int .i64 0, .int .i64 0, .int .i64 0, .int .i64 0, .int .i64 0, .int .i64 0, .int .i64 0, .string ⟨#[]⟩, .string ⟨#[]⟩, .slice none 0 0, .int .i64 0, .string ⟨#[]⟩, .slice none 0 0] 25 ?_; intro eo hg jP hbox hb; have dw := Aside0.mk (hbox); have mK := Aside0.mk (Sq.ge hg Z1); have iI := Aside0.mk (Sq.ge hg Z1); replace ek := Aside0.mk (Kd.R_below Z81 hb); replace el := Aside0.mk (Kd.R_below Z79 hb); replace HB := Aside0.mk (below_step Z1 hb); clear hb hbox hg; have iC := cells_25 dw.out; obtain ⟨iN, iO, eo15⟩ := Kd.R_slice ek.out; subst eo15; obtain ⟨iP, iQ, eo16⟩ := Kd.R_slice el.out; subst eo16) | ((with_reducible refine Pre.gate_store 25 rfl ?_); refine Pre.store_abs (cur := #[.int .i64 0, .int .i64 0, .int .i64 0, .string ⟨#[]⟩, .int .i64 0, .int .i64 0, .string ⟨#[]⟩, .int .i64 0, .int .i64 0, .string ⟨#[]⟩, .int .i64 0, .string ⟨#[]⟩, .int .i64 0, .int .i64 0, .int .i64 0, .int .i64 0, .int .i64 0, .int .i64 0, .int .i64 0, .string ⟨#[]⟩, .string ⟨#[]⟩, .slice none 0 0, .int .i64 0, .string ⟨#[]⟩, .slice none 0 0]) (e := 25) rfl rfl rfl Z22 Z22 Z50 Z14 Z22 Z22 ?_; intro iE hbS_ sS_; have bl : Aside0 (Kd.R k46 46 iE w.heap.size (fun k_ => (w.heap.size ≤ k_)) (.slice iN ck.length iO) ck) := ⟨Kd.R_mono (Pre.R_sets sS_ (Kd.R_types ek.out dw.out Z27) (fun _ hk => hk.2)) (fun _ hk => hk.1.1)⟩; have bm : Aside0 (Kd.R k48 48 iE w.heap.size (fun k_ => (w.heap.size ≤ k_)) (.slice iP cb.length iQ) cb) := ⟨Kd.R_mono (Pre.R_sets sS_ (Kd.R_types el.out dw.out Z27) (fun _ hk => hk.2)) (fun _ hk => hk.1.1)⟩; have bI : Aside0 (iE.heap[eo]? = some (.cells #[.int .i64 bB, .int .i64 aM, .int .i64 aX, .string aV, .int .i64 bi, .int .i64 aU, .string bp, .int .i64 aQ, .int .i64 ba, .string bk, .int .i64 bK, .string cj, .int .i64 bL, .int .i64 bP, .int .i64 bF, .int .i64 bO, .int .i64 cC, .int .i64 bE, .int .i64 bS, .string bZ, .string ca, .slice iN ck.length iO, .int .i64 eI, .string dM, .slice iP cb.length iQ] 25 (0, 0))) := ⟨hbS_⟩; have dU : Aside0 (Below w.heap.size w iE) := ⟨sS_.below Z26 iI.out⟩; clear hbS_ sS_; replace ek := bl; replace el := bm; replace dw := bI; replace HB := dU; clear bl bm bI dU; have mL := cells_25 dw.out) | ((with_reducible refine gate_dst (N := 36) rfl ?_); refine Kd.N_lit k25 _ 25 ?hg (N' := 36) ?hd (xs := ([(⟨bB, aM, aX, aV, bi, aU, bp, aQ, ba, bk, bK, cj, bL, bP, bF, bO, cC, bE, bS, bZ, ca, ck, eI, dM, cb⟩ : S25)] : List (S25))) (inner := [.int .i64 bB, .int .i64 aM, .int .i64 aX, .string aV, .int .i64 bi, .int .i64 aU, .string bp, .int .i64 aQ, .int .i64 ba, .string bk, .int .i64 bK, .string cj, .int .i64 bL, .int .i64 bP, .int .i64 bF, .int .i64 bO, .int .i64 cC, .int .i64 bE, .int .i64 bS, .string bZ, .string ca, .slice iN ck.length iO, .int .i64 eI, .string dM, .slice iP cb.length iQ]) (ok := (fun k_ => (w.heap.size ≤ k_) ∧ k_ ≠ eo)) (okp := (fun k_ => (w.heap.size ≤ k_) ∧ k_ ≠ eo)) ?hr ?hp (fun _ hk => hk) ((show ∀ k_, iE.heap.size ≤ k_ → (fun k_ => (w.heap.size ≤ k_) ∧ k_ ≠ eo) k_ from fun k_ hk => ⟨(Nat.le_trans (below_size Z26) hk), Kd.freshB (g := eo) (o := .cells #[.int .i64 bB, .int .i64 aM, .int .i64 aX, .string aV, .int .i64 bi, .int .i64 aU, .string bp, .int .i64 aQ, .int .i64 ba, .string bk, .int .i64 bK, .string cj, .int .i64 bL, .int .i64 bP, .int .i64 bF, .int .i64 bO, .int .i64 cC, .int .i64 bE, .int .i64 bS, .string bZ, .string ca, .slice iN ck.length iO, .int .i64 eI, .string dM, .slice iP cb.length iQ] 25 (0, 0)) Z50 k_ hk⟩) _ (Nat.le_refl _)) (Below.refl _ _) (Nat.le_refl _) Z59 ?_; (case hd => rfl); (case hg => rfl); (case hr => first | (go_simp; done) | (go_simp; rfl)); (case hp => exact (Reps.front (show Kd.FK k25 _ _ (⟨bB, aM, aX, aV, bi, aU, bp, aQ, ba, bk, bK, cj, bL, bP, bF, bO, cC, bE, bS, bZ, ca, ck, eI, dM, cb⟩ : S25) [.int .i64 bB, .int .i64 aM, .int .i64 aX, .string aV, .int .i64 bi, .int .i64 aU, .string bp, .int .i64 aQ, .int .i64 ba, .string bk, .int .i64 bK, .string cj, .int .i64 bL, .int .i64 bP, .int .i64 bF, .int .i64 bO, .int .i64 cC, .int .i64 bE, .int .i64 bS, .string bZ, .string ca, .slice iN ck.length iO, .int .i64 eI, .string dM, .slice iP cb.length iQ] from (k25_mkF _ _ (⟨bB, aM, aX, aV, bi, aU, bp, aQ, ba, bk, bK, cj, bL, bP, bF, bO, cC, bE, bS, bZ, ca, ck, eI, dM, cb⟩ : S25) (Kd.R_reads' (Kd.R_mono (ok' := (fun k_ => (w.heap.size ≤ k_) ∧ k_ ≠ eo)) (Kd.R_types (ek.out) dw.out Z27) (fun k_ hk => ⟨hk.1, hk.2⟩))).2.1 (Kd.R_F (Kd.R_mono (ok' := (fun k_ => (w.heap.size ≤ k_) ∧ k_ ≠ eo)) (Kd.R_types (ek.out) dw.out Z27) (fun k_ hk => ⟨hk.1, hk.2⟩))) (Kd.R_reads' (Kd.R_mono (ok' := (fun k_ => (w.heap.size ≤ k_) ∧ k_ ≠ eo)) (Kd.R_types (el.out) dw.out Z27) (fun k_ hk => ⟨hk.1, hk.2⟩))).2.1 (Kd.R_F (Kd.R_mono (ok' := (fun k_ => (w.heap.size ≤ k_) ∧ k_ ≠ eo)) (Kd.R_types (el.out) dw.out Z27) (fun k_ hk => ⟨hk.1, hk.2⟩))))) rfl (Reps.none _ _) rfl)); intro tg me ho20 hb hg_ hnew_; clear hg_ hnew_; (first | rw [← Ny133.out] at ho20 | (simp only [Int.reduceToNat] at ho20; rw [← Ny133.out] at ho20)); clear ek; clear el; have oG := Aside0.mk (Kd.N_lower ho20 (below_size Z26)); replace dw := Aside0.mk (blk_below (g := eo) Z50 hb); replace HB := Aside0.mk (below_step Z26 hb); clear hb ho20))
       go_ret3
       exact ⟨_, Z5, Z108, Z26⟩
      ·rw [if_neg dK] at H
       have eB : (ex == 0) = false := beq_eq_false_iff_ne.mpr dK
       have fp : (ex != 0) = true := bne_iff_ne.mpr dK
       simp only [Option.some.injEq, Prod.mk.injEq] at H
       obtain ⟨rfl, rfl, rfl⟩ := H
       go_wp2_with (first | ((with_reducible refine Pre.gate_load 25 rfl ?_); (try (refine gate_guard Z22 ?_; dsimp only)); refine Pre.load_event rfl rfl rfl Z22 Z9 Try.underlying25 rfl Z14 ?_) | ((with_reducible refine gate_callee (f := 69) rfl ?_); refine goesL_ (some 27) rfl rfl Try.func69 Z14 rfl #[.string a0] rfl Z4 ?_; (with_reducible refine (aodv_get.calls kj3 a0 bB aM aX aV bi aU bp aQ ba bk bK cj bL bP bF bO cC bE bS bZ ca ck eI dM cb hM ex _ lA.out).mono ?_); rintro e oB ⟨pu, pv, rfl, ho0, ho1, hb⟩; refine ⟨_, rfl, ?_⟩; have ek := Aside0.mk (Kd.R_lower (Kd.R_newM (M := fun k_ => (w.heap.size ≤ k_)) ho0 (below_size Z1) (fun k_ h_ => h_)) (below_size Z1)); have el := Aside0.mk (Kd.R_lower (Kd.R_newM (M := fun k_ => (w.heap.size ≤ k_)) ho1 (below_size Z1) (fun k_ h_ => h_)) (below_size Z1)); replace HB := Aside0.mk (below_step Z1 hb); clear hb ho0 ho1) | ((with_reducible refine gate_dst (N := 5) rfl ?_); refine Sq.box 5 #[.int .i64 0, .int .i64 0, .int .i64 0, .string ⟨#[]⟩, .int .i64 0, .int .i64 0, .string ⟨#[]⟩, .int .i64 0, .int .i64 0, .string ⟨#[]⟩, .int .i64 0, .string ⟨#[]⟩, .int .i64 0, .int .i64 0, .int .i64 0, .int .i64 0, .int .i64 0, .int .i64 0, .int .i64 0, .string ⟨#[]⟩, .string ⟨#[]⟩, .slice none 0 0, .int .i64 0, .string ⟨#[]⟩, .slice none 0 0] 25 ?_; intro eo hg nH hbox hb; have dw := Aside0.mk (hbox); have mK := Aside0.mk (Sq.ge hg Z1); have iI := Aside0.mk (Sq.ge hg Z1); replace ek := Aside0.mk (Kd.R_below Z81 hb); replace el := Aside0.mk (Kd.R_below Z79 hb); replace HB := Aside0.mk (below_step Z1 hb); clear hb hbox hg; have kG := cells_25 dw.out; obtain ⟨ix, iy, eo24⟩ := Kd.R_slice ek.out; subst eo24; obtain ⟨iz, iA, eo25⟩ := Kd.R_slice el.out; subst eo25) | ((with_reducible refine Pre.gate_store 25 rfl ?_); refine Pre.store_abs (cur := #[.int .i64 0, .int .i64 0, .int .i64 0, .string ⟨#[]⟩, .int .i64 0, .int .i64 0, .string ⟨#[]⟩, .int .i64 0, .int .i64 0, .string ⟨#[]⟩, .int .i64 0, .string ⟨#[]⟩, .int .i64 0, .int .i64 0, .int .i64 0, .int .i64 0, .int .i64 0, .int .i64 0, .int .i64 0, .string ⟨#[]⟩, .string ⟨#[]⟩, .slice none 0 0, .int .i64 0, .string ⟨#[]⟩, .slice none 0 0]) (e := 25) rfl rfl rfl Z22 Z22 Z50 Z14 Z22 Z22 ?_; intro iR hbS_ sS_; have bl : Aside0 (Kd.R k46 46 iR w.heap.size (fun k_ => (w.heap.size ≤ k_)) (.slice ix ck.length iy) ck) := ⟨Kd.R_mono (Pre.R_sets sS_ (Kd.R_types ek.out dw.out Z27) (fun _ hk => hk.2)) (fun _ hk => hk.1.1)⟩; have bm : Aside0 (Kd.R k48 48 iR w.heap.size (fun k_ => (w.heap.size ≤ k_)) (.slice iz cb.length iA) cb) := ⟨Kd.R_mono (Pre.R_sets sS_ (Kd.R_types el.out dw.out Z27) (fun _ hk => hk.2)) (fun _ hk => hk.1.1)⟩; have bI : Aside0 (iR.heap[eo]? = some (.cells #[.int .i64 bB, .int .i64 aM, .int .i64 aX, .string aV, .int .i64 bi, .int .i64 aU, .string bp, .int .i64 aQ, .int .i64 ba, .string bk, .int .i64 bK, .string cj, .int .i64 bL, .int .i64 bP, .int .i64 bF, .int .i64 bO, .int .i64 cC, .int .i64 bE, .int .i64 bS, .string bZ, .string ca, .slice ix ck.length iy, .int .i64 eI, .string dM, .slice iz cb.length iA] 25 (0, 0))) := ⟨hbS_⟩; have dU : Aside0 (Below w.heap.size w iR) := ⟨sS_.below Z26 iI.out⟩; clear hbS_ sS_; replace ek := bl; replace el := bm; replace dw := bI; replace HB := dU; clear bl bm bI dU))
       go_ret3
       exact ⟨_, Z5, Z40, Z26⟩

/-! ### aodv_Right: function 45 -/
def aodv_Right.f (k : Nat) (ax : Int) (av : Int) (aw : Int) (ay : ByteArray) (aA : Int) (aH : Int) (aI : ByteArray) (aC : Int) (aD : Int) (aG : ByteArray) (au : Int) (ar : ByteArray) (ak : Int) (aj : Int) (ap : Int) (ah : Int) (ai : Int) (al : Int) (an : Int) (ac : ByteArray) (af : ByteArray) (ae : List (S46)) (ao : Int) (aq : ByteArray) (am : List (S48)) : Option (Bool) := (rreq_Right.f ax av aw ay aA aH aI aC aD aG au ar ak aj ap ah ai al an ac af ae ao aq am).bind fun aM => (if aM = true then (some true) else ((rrep_Right.f k ax av aw ay aA aH aI aC aD aG au ar ak aj ap ah ai al an ac af ae ao aq am).bind fun aX => (if aX = true then (some true) else (none))))
theorem aodv_Right.mono : ∀ a0 a1 a2 a3 a4 a5 a6 a7 a8 a9 gY gZ ha hf hh hj hl hm ht hu hv hA hB hC hD k, LeO (aodv_Right.f k a0 a1 a2 a3 a4 a5 a6 a7 a8 a9 gY gZ ha hf hh hj hl hm ht hu hv hA hB hC hD) (aodv_Right.f (k + 1) a0 a1 a2 a3 a4 a5 a6 a7 a8 a9 gY gZ ha hf hh hj hl hm ht hu hv hA hB hC hD) := by
 intro a0 a1 a2 a3 a4 a5 a6 a7 a8 a9 gY gZ ha hf hh hj hl hm ht hu hv hA hB hC hD k
 unfold aodv_Right.f
 repeat' first
   | (with_reducible exact rrep_Right.mono _ _ _ _ _ _ _ _ _ _ _ _ _ _ _ _ _ _ _ _ _ _ _ _ _ _)
   | (with_reducible exact LeO.refl _)
   | (with_reducible exact LeO.none _)
   | (with_reducible refine LeO.ite ?_ ?_)
   | (with_reducible refine LeO.bind ?_ (fun _ => ?_))
   | exact rrep_Right.mono _ _ _ _ _ _ _ _ _ _ _ _ _ _ _ _ _ _ _ _ _ _ _ _ _ _
   | exact LeO.none _
   | refine LeO.ite ?_ ?_
   | refine LeO.bind ?_ (fun _ => ?_)

set_option maxHeartbeats 8000000 in
set_option maxRecDepth 100000 in
theorem aodv_Right.calls (k : Nat) (ax : Int) (av : Int) (aw : Int) (ay : ByteArray) (aA : Int) (aH : Int) (aI : ByteArray) (aC : Int) (aD : Int) (aG : ByteArray) (au : Int) (ar : ByteArray) (ak : Int) (aj : Int) (ap : Int) (ah : Int) (ai : Int) (al : Int) (an : Int) (ac : ByteArray) (af : ByteArray) (bs : Option Addr) (bq : Nat) (ae : List (S46)) (ao : Int) (aq : ByteArray) (bn : Option Addr) (bo : Nat) (am : List (S48)) (r : Bool) (w : World) (cD : Kd.C k46 w bs ae.length ae) (cE : ae.length ≤ bq) (cF : Kd.C k48 w bn am.length am) (cG : am.length ≤ bo) (h : aodv_Right.f k ax av aw ay aA aH aI aC aD aG au ar ak aj ap ah ai al an ac af ae ao aq am = some r) :
  Calls Try.prog 45 #[.agg #[.int .i64 ax, .int .i64 av, .int .i64 aw, .string ay, .int .i64 aA, .int .i64 aH, .string aI, .int .i64 aC, .int .i64 aD, .string aG, .int .i64 au, .string ar, .int .i64 ak, .int .i64 aj, .int .i64 ap, .int .i64 ah, .int .i64 ai, .int .i64 al, .int .i64 an, .string ac, .string af, .slice bs ae.length bq, .int .i64 ao, .string aq, .slice bn am.length bo]] w fun e w' => e = .returned (.bool r) ∧ Below w.heap.size w w' := by
 have fn := Try.underlying25
 have eL := Aside0.mk cD
 have bG := Aside0.mk cE
 clear cD cE
 have fb := Aside0.mk cF
 have bA := Aside0.mk cG
 clear cF cG
 have HB := Aside0.mk (Below.refl w.heap.size w)
 have H : ((rreq_Right.f ax av aw ay aA aH aI aC aD aG au ar ak aj ap ah ai al an ac af ae ao aq am).bind fun aM => (if aM = true then (some true) else ((rrep_Right.f k ax av aw ay aA aH aI aC aD aG au ar ak aj ap ah ai al an ac af ae ao aq am).bind fun aX => (if aX = true then (some true) else (none))))) = some r := h
 clear h
 replace H := Option.bind_eq_some_iff.mp H
 obtain ⟨aM, gr, H⟩ := H
 replace H : (if aM = true then (some true) else ((rrep_Right.f k ax av aw ay aA aH aI aC aD aG au ar ak aj ap ah ai al an ac af ae ao aq am).bind fun aX => (if aX = true then (some true) else (none)))) = some r := H
 have A2 := Aside0.mk gr
 clear gr
 by_cases c3 : aM = true
 ·subst c3
  replace H := Sq.itT H
  obtain rfl := Option.some.inj H
  go_enter Try.func45, Try.ntmps45
  go_wp2_with (first | ((with_reducible refine Pre.gate_load 25 rfl ?_); (try (refine gate_guard Z22 ?_; dsimp only)); refine Pre.load_event rfl rfl rfl Z22 Z3 Try.underlying25 rfl Z14 ?_) | ((with_reducible refine gate_dst (N := 1) rfl ?_); refine Sq.box 1 #[.int .i64 ax, .int .i64 av, .int .i64 aw, .string ay, .int .i64 aA, .int .i64 aH, .string aI, .int .i64 aC, .int .i64 aD, .string aG, .int .i64 au, .string ar, .int .i64 ak, .int .i64 aj, .int .i64 ap, .int .i64 ah, .int .i64 ai, .int .i64 al, .int .i64 an, .string ac, .string af, .slice bs ae.length bq, .int .i64 ao, .string aq, .slice bn am.length bo] 25 ?_; intro ab hg w4 hbox hb; have aa := Aside0.mk (hbox); have bR := Aside0.mk (Sq.ge hg Z1); have bf := Aside0.mk (Sq.ge hg Z1); replace HB := Aside0.mk (below_step Z1 hb); clear hb hbox hg; have mr := cells_25 aa.out) | ((with_reducible refine gate_callee (f := 20) rfl ?_); refine goesL_ (some 4) rfl rfl Try.func20 Z14 rfl #[.agg #[.int .i64 ax, .int .i64 av, .int .i64 aw, .string ay, .int .i64 aA, .int .i64 aH, .string aI, .int .i64 aC, .int .i64 aD, .string aG, .int .i64 au, .string ar, .int .i64 ak, .int .i64 aj, .int .i64 ap, .int .i64 ah, .int .i64 ai, .int .i64 al, .int .i64 an, .string ac, .string af, .slice bs ae.length bq, .int .i64 ao, .string aq, .slice bn am.length bo]] rfl Z4 ?_; (with_reducible refine (rreq_Right.calls ax av aw ay aA aH aI aC aD aG au ar ak aj ap ah ai al an ac af _ _ ae ao aq _ _ am true _ ?side1 ?side2 ?side3 ?side4 A2.out).mono ?_); (case side1 => exact Z16); (case side2 => exact bG.out); (case side3 => exact Z12); (case side4 => exact bA.out); rintro e w6 ⟨rfl, hb⟩; refine ⟨_, rfl, ?_⟩; replace aa := Aside0.mk (blk_below (g := ab) Z2 hb); replace HB := Aside0.mk (below_step Z0 hb); clear hb))
  go_ret
  exact ⟨Z5, Z0⟩
 ·replace c3 := Bool.eq_false_iff.mpr c3
  subst c3
  replace H := Sq.itF H
  replace H := Option.bind_eq_some_iff.mp H
  obtain ⟨aX, oK, H⟩ := H
  replace H : (if aX = true then (some true) else (none)) = some r := H
  have A7 := Aside0.mk oK
  clear oK
  by_cases c8 : aX = true
  ·subst c8
   replace H := Sq.itT H
   obtain rfl := Option.some.inj H
   go_enter Try.func45, Try.ntmps45
   go_wp2_with (first | ((with_reducible refine Pre.gate_load 25 rfl ?_); (try (refine gate_guard Z22 ?_; dsimp only)); refine Pre.load_event rfl rfl rfl Z22 Z3 Try.underlying25 rfl Z14 ?_) | ((with_reducible refine gate_dst (N := 1) rfl ?_); refine Sq.box 1 #[.int .i64 ax, .int .i64 av, .int .i64 aw, .string ay, .int .i64 aA, .int .i64 aH, .string aI, .int .i64 aC, .int .i64 aD, .string aG, .int .i64 au, .string ar, .int .i64 ak, .int .i64 aj, .int .i64 ap, .int .i64 ah, .int .i64 ai, .int .i64 al, .int .i64 an, .string ac, .string af, .slice bs ae.length bq, .int .i64 ao, .string aq, .slice bn am.length bo] 25 ?_; intro ab hg w9 hbox hb; have aa := Aside0.mk (hbox); have bR := Aside0.mk (Sq.ge hg Z1); have bf := Aside0.mk (Sq.ge hg Z1); replace HB := Aside0.mk (below_step Z1 hb); clear hb hbox hg; have iX := cells_25 aa.out) | ((with_reducible refine gate_callee (f := 20) rfl ?_); refine goesL_ (some 4) rfl rfl Try.func20 Z14 rfl #[.agg #[.int .i64 ax, .int .i64 av, .int .i64 aw, .string ay, .int .i64 aA, .int .i64 aH, .string aI, .int .i64 aC, .int .i64 aD, .string aG, .int .i64 au, .string ar, .int .i64 ak, .int .i64 aj, .int .i64 ap, .int .i64 ah, .int .i64 ai, .int .i64 al, .int .i64 an, .string ac, .string af, .slice bs ae.length bq, .int .i64 ao, .string aq, .slice bn am.length bo]] rfl Z4 ?_; (with_reducible refine (rreq_Right.calls ax av aw ay aA aH aI aC aD aG au ar ak aj ap ah ai al an ac af _ _ ae ao aq _ _ am false _ ?side1 ?side2 ?side3 ?side4 A2.out).mono ?_); (case side1 => exact Z16); (case side2 => exact bG.out); (case side3 => exact Z12); (case side4 => exact bA.out); rintro e jQ ⟨rfl, hb⟩; refine ⟨_, rfl, ?_⟩; replace aa := Aside0.mk (blk_below (g := ab) Z2 hb); replace HB := Aside0.mk (below_step Z0 hb); clear hb; have lD := cells_25 aa.out) | (go_at_call 36; (with_reducible refine (rrep_Right.calls k ax av aw ay aA aH aI aC aD aG au ar ak aj ap ah ai al an ac af _ _ ae ao aq _ _ am true _ ?side1 ?side2 ?side3 ?side4 A7.out).mono ?_); (case side1 => exact Z16); (case side2 => exact bG.out); (case side3 => exact Z12); (case side4 => exact bA.out); rintro e jP ⟨rfl, hb⟩; replace aa := Aside0.mk (blk_below (g := ab) Z2 hb); replace HB := Aside0.mk (below_step Z0 hb); clear hb))
   go_ret
   exact ⟨Z5, Z0⟩
  ·replace c8 := Bool.eq_false_iff.mpr c8
   subst c8
   replace H := Sq.itF H
   exact absurd H Z59

/-! ### aodv_Encode: function 47 -/
mutual
def aodv_Encode.l0 : Nat → List (S25) → Int → Int → Option (ByteArray × Int × Int)
 | 0, _, _, _ => none
 | k + 1, x0, x9, gS => if gS < x9 then (if 0 ≤ gS then (if gS < (x0.length : Int) then ((aodv_Right.f k ((rd_T25 x0 gS).f0) ((rd_T25 x0 gS).f1) ((rd_T25 x0 gS).f2) ((rd_T25 x0 gS).f3) ((rd_T25 x0 gS).f4) ((rd_T25 x0 gS).f5) ((rd_T25 x0 gS).f6) ((rd_T25 x0 gS).f7) ((rd_T25 x0 gS).f8) ((rd_T25 x0 gS).f9) ((rd_T25 x0 gS).f10) ((rd_T25 x0 gS).f11) ((rd_T25 x0 gS).f12) ((rd_T25 x0 gS).f13) ((rd_T25 x0 gS).f14) ((rd_T25 x0 gS).f15) ((rd_T25 x0 gS).f16) ((rd_T25 x0 gS).f17) ((rd_T25 x0 gS).f18) ((rd_T25 x0 gS).f19) ((rd_T25 x0 gS).f20) ((rd_T25 x0 gS).f21) ((rd_T25 x0 gS).f22) ((rd_T25 x0 gS).f23) ((rd_T25 x0 gS).f24)).bind fun aM => (if aM = true then (aodv_Encode.l0 k x0 x9 (wrap64 (gS + 1))) else (none))) else (none)) else (none)) else (if (x0.length : Int) = 0 then (none) else (if (x0.length : Int) > 1 then (none) else (if 0 < (x0.length : Int) then ((rreq_Put.f ((rd_T25 x0 0).f0) ((rd_T25 x0 0).f1) ((rd_T25 x0 0).f2) ((rd_T25 x0 0).f3) ((rd_T25 x0 0).f4) ((rd_T25 x0 0).f5) ((rd_T25 x0 0).f6) ((rd_T25 x0 0).f7) ((rd_T25 x0 0).f8) ((rd_T25 x0 0).f9) ((rd_T25 x0 0).f10) ((rd_T25 x0 0).f11) ((rd_T25 x0 0).f12) ((rd_T25 x0 0).f13) ((rd_T25 x0 0).f14) ((rd_T25 x0 0).f15) ((rd_T25 x0 0).f16) ((rd_T25 x0 0).f17) ((rd_T25 x0 0).f18) ((rd_T25 x0 0).f19) ((rd_T25 x0 0).f20) ((rd_T25 x0 0).f21) ((rd_T25 x0 0).f22) ((rd_T25 x0 0).f23) ((rd_T25 x0 0).f24)).bind fun nn => (if nn.2 = true then (aodv_Encode.j1 k nn.1 nn.2) else ((rrep_Put.f k ((rd_T25 x0 0).f0) ((rd_T25 x0 0).f1) ((rd_T25 x0 0).f2) ((rd_T25 x0 0).f3) ((rd_T25 x0 0).f4) ((rd_T25 x0 0).f5) ((rd_T25 x0 0).f6) ((rd_T25 x0 0).f7) ((rd_T25 x0 0).f8) ((rd_T25 x0 0).f9) ((rd_T25 x0 0).f10) ((rd_T25 x0 0).f11) ((rd_T25 x0 0).f12) ((rd_T25 x0 0).f13) ((rd_T25 x0 0).f14) ((rd_T25 x0 0).f15) ((rd_T25 x0 0).f16) ((rd_T25 x0 0).f17) ((rd_T25 x0 0).f18) ((rd_T25 x0 0).f19) ((rd_T25 x0 0).f20) ((rd_T25 x0 0).f21) ((rd_T25 x0 0).f22) ((rd_T25 x0 0).f23) ((rd_T25 x0 0).f24)).bind fun bu => (aodv_Encode.j1 k bu.1 bu.2)))) else (none))))
def aodv_Encode.j1 : Nat → ByteArray → Bool → Option (ByteArray × Int × Int)
 | 0, _, _ => none
 | k + 1, x6, x7 => if x7 = true then (if (x6.size : Int) > 65535 then (none) else (some (x6, 0, 0))) else (none)
end
def aodv_Encode.f (k : Nat) (l0 : List (S25)) : Option (ByteArray × Int × Int) := aodv_Encode.l0 k l0 (l0.length : Int) 0
theorem aodv_Encode.mono_l : ∀ k, (∀ y0 y1 y2, LeO (aodv_Encode.l0 k y0 y1 y2) (aodv_Encode.l0 (k + 1) y0 y1 y2)) ∧ (∀ y0 y1, LeO (aodv_Encode.j1 k y0 y1) (aodv_Encode.j1 (k + 1) y0 y1))
 | 0 => ⟨fun _ _ _ r h => by simp [aodv_Encode.l0] at h, fun _ _ r h => by simp [aodv_Encode.j1] at h⟩
 | k + 1 => by
  obtain ⟨ih0, ih1⟩ := aodv_Encode.mono_l k
  refine ⟨?_, ?_⟩
  ·intro y0 y1 y2
   unfold aodv_Encode.l0
   repeat' first
   | (with_reducible exact ih0 ..)
   | (with_reducible exact ih1 _ _)
   | (with_reducible exact aodv_Right.mono _ _ _ _ _ _ _ _ _ _ _ _ _ _ _ _ _ _ _ _ _ _ _ _ _ _)
   | (with_reducible exact rrep_Put.mono _ _ _ _ _ _ _ _ _ _ _ _ _ _ _ _ _ _ _ _ _ _ _ _ _ _)
   | (with_reducible exact LeO.refl _)
   | (with_reducible exact LeO.none _)
   | (with_reducible refine LeO.ite ?_ ?_)
   | (with_reducible refine LeO.bind ?_ (fun _ => ?_))
   | exact ih0 ..
   | exact ih1 _ _
   | exact aodv_Right.mono _ _ _ _ _ _ _ _ _ _ _ _ _ _ _ _ _ _ _ _ _ _ _ _ _ _
   | exact rrep_Put.mono _ _ _ _ _ _ _ _ _ _ _ _ _ _ _ _ _ _ _ _ _ _ _ _ _ _
   | exact LeO.none _
   | refine LeO.ite ?_ ?_
   | refine LeO.bind ?_ (fun _ => ?_)
  ·intro y0 y1
   unfold aodv_Encode.j1
   repeat' first
   | (with_reducible exact ih0 ..)
   | (with_reducible exact ih1 _ _)
   | (with_reducible exact aodv_Right.mono _ _ _ _ _ _ _ _ _ _ _ _ _ _ _ _ _ _ _ _ _ _ _ _ _ _)
   | (with_reducible exact rrep_Put.mono _ _ _ _ _ _ _ _ _ _ _ _ _ _ _ _ _ _ _ _ _ _ _ _ _ _)
   | (with_reducible exact LeO.refl _)
   | (with_reducible exact LeO.none _)
   | (with_reducible refine LeO.ite ?_ ?_)
   | (with_reducible refine LeO.bind ?_ (fun _ => ?_))
   | exact ih0 ..
   | exact ih1 _ _
   | exact aodv_Right.mono _ _ _ _ _ _ _ _ _ _ _ _ _ _ _ _ _ _ _ _ _ _ _ _ _ _
   | exact rrep_Put.mono _ _ _ _ _ _ _ _ _ _ _ _ _ _ _ _ _ _ _ _ _ _ _ _ _ _
   | exact LeO.none _
   | refine LeO.ite ?_ ?_
   | refine LeO.bind ?_ (fun _ => ?_)
theorem aodv_Encode.mono : ∀ a0 k, LeO (aodv_Encode.f k a0) (aodv_Encode.f (k + 1) a0) := by
 intro a0 k
 obtain ⟨ih0, ih1⟩ := aodv_Encode.mono_l k
 unfold aodv_Encode.f
 repeat' first
   | (with_reducible exact ih0 ..)
   | (with_reducible exact ih1 _ _)
   | (with_reducible exact aodv_Right.mono _ _ _ _ _ _ _ _ _ _ _ _ _ _ _ _ _ _ _ _ _ _ _ _ _ _)
   | (with_reducible exact rrep_Put.mono _ _ _ _ _ _ _ _ _ _ _ _ _ _ _ _ _ _ _ _ _ _ _ _ _ _)
   | (with_reducible exact LeO.refl _)
   | (with_reducible exact LeO.none _)
   | (with_reducible refine LeO.ite ?_ ?_)
   | (with_reducible refine LeO.bind ?_ (fun _ => ?_))
   | exact ih0 ..
   | exact ih1 _ _
   | exact aodv_Right.mono _ _ _ _ _ _ _ _ _ _ _ _ _ _ _ _ _ _ _ _ _ _ _ _ _ _
   | exact rrep_Put.mono _ _ _ _ _ _ _ _ _ _ _ _ _ _ _ _ _ _ _ _ _ _ _ _ _ _
   | exact LeO.none _
   | refine LeO.ite ?_ ?_
   | refine LeO.bind ?_ (fun _ => ?_)

set_option maxHeartbeats 8000000 in
set_option maxRecDepth 100000 in
theorem aodv_Encode.calls (k : Nat) (A0 : Option Addr) (c0 : Nat) (l0 : List (S25)) (r1 : ByteArray) (r2 : Int) (r3 : Int) (w : World) (jg : Kd.C k25 w A0 l0.length l0) (gg : l0.length ≤ c0) (h : aodv_Encode.f k l0 = some (r1, r2, r3)) :
  Calls Try.prog 47 #[.slice A0 l0.length c0] w fun e w' => e = .returned (.tuple #[.string r1, .int .i64 r2, .int .i64 r3]) ∧ Below w.heap.size w w' := by
 have fn := Try.underlying25
 have iB := Aside0.mk jg
 have mM := Aside0.mk gg
 clear jg gg
 have HB := Aside0.mk (Below.refl w.heap.size w)
 have H : (aodv_Encode.l0 k l0 (l0.length : Int) 0) = some (r1, r2, r3) := h
 clear h
 have H' := Aside0.mk H
 clear H
 go_enter Try.func47, Try.ntmps47
 go_wp2_with (first | ((with_reducible refine Pre.gate_load 25 rfl ?_); (try (refine gate_guard Z22 ?_; dsimp only)); refine Pre.load_event_a rfl rfl rfl Z22 Pre.range25 Try.underlying25 rfl Z14 ?_))
 go_loopg [10] k (fun kq nx w' => ∃ (aZ : Int), nx = .int .i64 aZ ∧ Aside0 (aodv_Encode.l0 kq l0 (l0.length : Int) aZ = some (r1, r2, r3)) ∧ Aside0 (kq ≤ k) ∧ Aside0 (Below w.heap.size w w'))
 case atStart => exact ⟨(0), Z17, H', ⟨Nat.le_refl _⟩, ⟨Z1⟩⟩
 case round =>
  clear H'
  obtain ⟨aZ, rfl, HA, HK1, HB⟩ := hrel
  cases gk with
  | zero => exact absurd HA.out (by simp [aodv_Encode.l0])
  | succ k1 =>
   have H := HA.out
   clear HA
   simp only [aodv_Encode.l0] at H
   by_cases c2 : aZ < (l0.length : Int)
   ·rw [if_pos c2] at H
    have eE : decide (aZ < (l0.length : Int)) = true := decide_eq_true c2
    clear c2
    by_cases c3 : 0 ≤ aZ
    ·rw [if_pos c3] at H
     have fs : decide (0 ≤ aZ) = true := decide_eq_true c3
     clear c3
     by_cases c4 : aZ < (l0.length : Int)
     ·rw [if_pos c4] at H
      have dL : decide (aZ < (l0.length : Int)) = true := decide_eq_true c4
      clear c4
      replace H := Option.bind_eq_some_iff.mp H
      obtain ⟨aM, jt, H⟩ := H
      replace H : (if aM = true then (aodv_Encode.l0 k1 l0 (l0.length : Int) (wrap64 (aZ + 1))) else (none)) = some (r1, r2, r3) := H
      have A5 := Aside0.mk jt
      clear jt
      by_cases c6 : aM = true
      ·subst c6
       have H1 : (aodv_Encode.l0 k1 l0 (l0.length : Int) (wrap64 (aZ + 1))) = some (r1, r2, r3) := by rw [if_pos rfl] at H; exact H
       clear H
       have H := H1
       clear H1
       have H' := Aside0.mk H
       clear H
       have p101 : 0 ≤ (aZ : Int) := of_decide_eq_true Z6
       have q101 : aZ < (l0.length : Int) := of_decide_eq_true Z6
       obtain ⟨ad101, fh, fi, fj, fk, e101, hx101_0, hx101_1, hx101_2, hx101_3, hx101_4, hx101_5, hx101_6, hx101_7, hx101_8, hx101_9, hx101_10, hx101_11, hx101_12, hx101_13, hx101_14, hx101_15, hx101_16, hx101_17, hx101_18, hx101_19, hx101_20, hx101_21, hx101_22, hx101_23, hx101_24, hl101_21, hi101_21, hl101_24, hi101_24⟩ := at_T25 iB.out aZ p101 q101
       cases e101
       replace hx101_0 := Sq.up HB.out hx101_0
       replace hx101_1 := Sq.up HB.out hx101_1
       replace hx101_2 := Sq.up HB.out hx101_2
       replace hx101_3 := Sq.up HB.out hx101_3
       replace hx101_4 := Sq.up HB.out hx101_4
       replace hx101_5 := Sq.up HB.out hx101_5
       replace hx101_6 := Sq.up HB.out hx101_6
       replace hx101_7 := Sq.up HB.out hx101_7
       replace hx101_8 := Sq.up HB.out hx101_8
       replace hx101_9 := Sq.up HB.out hx101_9
       replace hx101_10 := Sq.up HB.out hx101_10
       replace hx101_11 := Sq.up HB.out hx101_11
       replace hx101_12 := Sq.up HB.out hx101_12
       replace hx101_13 := Sq.up HB.out hx101_13
       replace hx101_14 := Sq.up HB.out hx101_14
       replace hx101_15 := Sq.up HB.out hx101_15
       replace hx101_16 := Sq.up HB.out hx101_16
       replace hx101_17 := Sq.up HB.out hx101_17
       replace hx101_18 := Sq.up HB.out hx101_18
       replace hx101_19 := Sq.up HB.out hx101_19
       replace hx101_20 := Sq.up HB.out hx101_20
       replace hx101_21 := Sq.up HB.out hx101_21
       replace hx101_22 := Sq.up HB.out hx101_22
       replace hx101_23 := Sq.up HB.out hx101_23
       replace hx101_24 := Sq.up HB.out hx101_24
       have fD := Aside0.mk hi101_21
       have ft := Aside0.mk hl101_21
       clear hi101_21 hl101_21
       have fE := Aside0.mk hi101_24
       have fu := Aside0.mk hl101_24
       clear hi101_24 hl101_24
       replace p101 := eq_true p101
       replace q101 := eq_true q101
       go_wp2_with (first | ((with_reducible refine Pre.gate_load 25 rfl ?_); (try (refine gate_guard Z22 ?_; dsimp only)); refine Pre.load_event_a rfl rfl rfl Z22 Pre.range25 Try.underlying25 rfl Z14 ?_) | ((with_reducible refine gate_callee (f := 45) rfl ?_); refine goesL_ (some 17) rfl rfl Try.func45 Z14 rfl #[.agg #[.int .i64 ((rd_T25 l0 aZ).f0), .int .i64 ((rd_T25 l0 aZ).f1), .int .i64 ((rd_T25 l0 aZ).f2), .string ((rd_T25 l0 aZ).f3), .int .i64 ((rd_T25 l0 aZ).f4), .int .i64 ((rd_T25 l0 aZ).f5), .string ((rd_T25 l0 aZ).f6), .int .i64 ((rd_T25 l0 aZ).f7), .int .i64 ((rd_T25 l0 aZ).f8), .string ((rd_T25 l0 aZ).f9), .int .i64 ((rd_T25 l0 aZ).f10), .string ((rd_T25 l0 aZ).f11), .int .i64 ((rd_T25 l0 aZ).f12), .int .i64 ((rd_T25 l0 aZ).f13), .int .i64 ((rd_T25 l0 aZ).f14), .int .i64 ((rd_T25 l0 aZ).f15), .int .i64 ((rd_T25 l0 aZ).f16), .int .i64 ((rd_T25 l0 aZ).f17), .int .i64 ((rd_T25 l0 aZ).f18), .string ((rd_T25 l0 aZ).f19), .string ((rd_T25 l0 aZ).f20), .slice fh ((rd_T25 l0 aZ).f21).length fi, .int .i64 ((rd_T25 l0 aZ).f22), .string ((rd_T25 l0 aZ).f23), .slice fj ((rd_T25 l0 aZ).f24).length fk]] rfl Z4 ?_; (with_reducible refine (aodv_Right.calls k1 ((rd_T25 l0 aZ).f0) ((rd_T25 l0 aZ).f1) ((rd_T25 l0 aZ).f2) ((rd_T25 l0 aZ).f3) ((rd_T25 l0 aZ).f4) ((rd_T25 l0 aZ).f5) ((rd_T25 l0 aZ).f6) ((rd_T25 l0 aZ).f7) ((rd_T25 l0 aZ).f8) ((rd_T25 l0 aZ).f9) ((rd_T25 l0 aZ).f10) ((rd_T25 l0 aZ).f11) ((rd_T25 l0 aZ).f12) ((rd_T25 l0 aZ).f13) ((rd_T25 l0 aZ).f14) ((rd_T25 l0 aZ).f15) ((rd_T25 l0 aZ).f16) ((rd_T25 l0 aZ).f17) ((rd_T25 l0 aZ).f18) ((rd_T25 l0 aZ).f19) ((rd_T25 l0 aZ).f20) _ _ ((rd_T25 l0 aZ).f21) ((rd_T25 l0 aZ).f22) ((rd_T25 l0 aZ).f23) _ _ ((rd_T25 l0 aZ).f24) true _ ?side1 ?side2 ?side3 ?side4 A5.out).mono ?_); (case side1 => exact Z67); (case side2 => exact ft.out); (case side3 => exact Z66); (case side4 => exact fu.out); rintro e w7 ⟨rfl, hb⟩; refine ⟨_, rfl, ?_⟩; replace HB := Aside0.mk (below_step Z1 hb); clear hb))
       go_roundg k1
       case measure => have := HK1.out; omega
       case rel => exact ⟨(wrap64 (aZ + 1)), Z17, H', ⟨Z88⟩, ⟨Z1⟩⟩
      ·replace c6 := Bool.eq_false_iff.mpr c6
       subst c6
       have H1 : (none) = some (r1, r2, r3) := by rw [if_neg (show ¬ (false = true) by decide)] at H; exact H
       clear H
       have H := H1
       clear H1
       exact absurd H Z59
     ·rw [if_neg c4] at H
      exact absurd H Z59
    ·rw [if_neg c3] at H
     exact absurd H Z59
   ·rw [if_neg c2] at H
    have eE : decide (aZ < (l0.length : Int)) = false := decide_eq_false c2
    clear c2
    by_cases c8 : (l0.length : Int) = 0
    ·rw [if_pos c8] at H
     exact absurd H Z59
    ·rw [if_neg c8] at H
     have gf : ((l0.length : Int) == 0) = false := beq_eq_false_iff_ne.mpr c8
     have iU : ((l0.length : Int) != 0) = true := bne_iff_ne.mpr c8
     have c8b2 : ¬ (l0 = []) := fun h_ => c8 (by rw [h_]; rfl)
     by_cases c9 : (l0.length : Int) > 1
     ·rw [if_pos c9] at H
      exact absurd H Z59
     ·rw [if_neg c9] at H
      have ij : decide (1 < (l0.length : Int)) = false := decide_eq_false c9
      have lL : decide (1 < l0.length) = false := decide_eq_false Z34
      clear c9
      by_cases en : 0 < (l0.length : Int)
      ·rw [if_pos en] at H
       have eP : decide (0 < (l0.length : Int)) = true := decide_eq_true en
       have fv : decide (0 < l0.length) = true := decide_eq_true Z34
       clear en
       replace H := Option.bind_eq_some_iff.mp H
       obtain ⟨⟨aV, bi⟩, mh, H⟩ := H
       replace H : (if bi = true then (aodv_Encode.j1 k1 aV bi) else ((rrep_Put.f k1 ((rd_T25 l0 0).f0) ((rd_T25 l0 0).f1) ((rd_T25 l0 0).f2) ((rd_T25 l0 0).f3) ((rd_T25 l0 0).f4) ((rd_T25 l0 0).f5) ((rd_T25 l0 0).f6) ((rd_T25 l0 0).f7) ((rd_T25 l0 0).f8) ((rd_T25 l0 0).f9) ((rd_T25 l0 0).f10) ((rd_T25 l0 0).f11) ((rd_T25 l0 0).f12) ((rd_T25 l0 0).f13) ((rd_T25 l0 0).f14) ((rd_T25 l0 0).f15) ((rd_T25 l0 0).f16) ((rd_T25 l0 0).f17) ((rd_T25 l0 0).f18) ((rd_T25 l0 0).f19) ((rd_T25 l0 0).f20) ((rd_T25 l0 0).f21) ((rd_T25 l0 0).f22) ((rd_T25 l0 0).f23) ((rd_T25 l0 0).f24)).bind fun bu => (aodv_Encode.j1 k1 bu.1 bu.2))) = some (r1, r2, r3) := H
       have sR := Aside0.mk mh
       clear mh
       have pw := Aside0.mk H
       clear H
       have p103 : 0 ≤ (0 : Int) := Z34
       have q103 : 0 < (l0.length : Int) := of_decide_eq_true Z6
       obtain ⟨ad103, nY, nZ, oa, ob, e103, hx103_0, hx103_1, hx103_2, hx103_3, hx103_4, hx103_5, hx103_6, hx103_7, hx103_8, hx103_9, hx103_10, hx103_11, hx103_12, hx103_13, hx103_14, hx103_15, hx103_16, hx103_17, hx103_18, hx103_19, hx103_20, hx103_21, hx103_22, hx103_23, hx103_24, hl103_21, hi103_21, hl103_24, hi103_24⟩ := at_T25 iB.out 0 p103 q103
       cases e103
       have qi103 : (0 < l0.length) = True := eq_true Z34
       (try rw [show ((0 : Int)).toNat = 0 from rfl] at hx103_0)
       (try rw [show 0 * 25 = 0 from rfl] at hx103_0)
       (try rw [Addr.add_zero'] at hx103_0)
       (try rw [show ((0 : Int)).toNat = 0 from rfl] at hx103_1)
       (try rw [show 0 * 25 = 0 from rfl] at hx103_1)
       (try rw [Addr.add_zero'] at hx103_1)
       (try rw [show ((0 : Int)).toNat = 0 from rfl] at hx103_2)
       (try rw [show 0 * 25 = 0 from rfl] at hx103_2)
       (try rw [Addr.add_zero'] at hx103_2)
       (try rw [show ((0 : Int)).toNat = 0 from rfl] at hx103_3)
       (try rw [show 0 * 25 = 0 from rfl] at hx103_3)
       (try rw [Addr.add_zero'] at hx103_3)
       (try rw [show ((0 : Int)).toNat = 0 from rfl] at hx103_4)
       (try rw [show 0 * 25 = 0 from rfl] at hx103_4)
       (try rw [Addr.add_zero'] at hx103_4)
       (try rw [show ((0 : Int)).toNat = 0 from rfl] at hx103_5)
       (try rw [show 0 * 25 = 0 from rfl] at hx103_5)
       (try rw [Addr.add_zero'] at hx103_5)
       (try rw [show ((0 : Int)).toNat = 0 from rfl] at hx103_6)
       (try rw [show 0 * 25 = 0 from rfl] at hx103_6)
       (try rw [Addr.add_zero'] at hx103_6)
       (try rw [show ((0 : Int)).toNat = 0 from rfl] at hx103_7)
       (try rw [show 0 * 25 = 0 from rfl] at hx103_7)
       (try rw [Addr.add_zero'] at hx103_7)
       (try rw [show ((0 : Int)).toNat = 0 from rfl] at hx103_8)
       (try rw [show 0 * 25 = 0 from rfl] at hx103_8)
       (try rw [Addr.add_zero'] at hx103_8)
       (try rw [show ((0 : Int)).toNat = 0 from rfl] at hx103_9)
       (try rw [show 0 * 25 = 0 from rfl] at hx103_9)
       (try rw [Addr.add_zero'] at hx103_9)
       (try rw [show ((0 : Int)).toNat = 0 from rfl] at hx103_10)
       (try rw [show 0 * 25 = 0 from rfl] at hx103_10)
       (try rw [Addr.add_zero'] at hx103_10)
       (try rw [show ((0 : Int)).toNat = 0 from rfl] at hx103_11)
       (try rw [show 0 * 25 = 0 from rfl] at hx103_11)
       (try rw [Addr.add_zero'] at hx103_11)
       (try rw [show ((0 : Int)).toNat = 0 from rfl] at hx103_12)
       (try rw [show 0 * 25 = 0 from rfl] at hx103_12)
       (try rw [Addr.add_zero'] at hx103_12)
       (try rw [show ((0 : Int)).toNat = 0 from rfl] at hx103_13)
       (try rw [show 0 * 25 = 0 from rfl] at hx103_13)
       (try rw [Addr.add_zero'] at hx103_13)
       (try rw [show ((0 : Int)).toNat = 0 from rfl] at hx103_14)
       (try rw [show 0 * 25 = 0 from rfl] at hx103_14)
       (try rw [Addr.add_zero'] at hx103_14)
       (try rw [show ((0 : Int)).toNat = 0 from rfl] at hx103_15)
       (try rw [show 0 * 25 = 0 from rfl] at hx103_15)
       (try rw [Addr.add_zero'] at hx103_15)
       (try rw [show ((0 : Int)).toNat = 0 from rfl] at hx103_16)
       (try rw [show 0 * 25 = 0 from rfl] at hx103_16)
       (try rw [Addr.add_zero'] at hx103_16)
       (try rw [show ((0 : Int)).toNat = 0 from rfl] at hx103_17)
       (try rw [show 0 * 25 = 0 from rfl] at hx103_17)
       (try rw [Addr.add_zero'] at hx103_17)
       (try rw [show ((0 : Int)).toNat = 0 from rfl] at hx103_18)
       (try rw [show 0 * 25 = 0 from rfl] at hx103_18)
       (try rw [Addr.add_zero'] at hx103_18)
       (try rw [show ((0 : Int)).toNat = 0 from rfl] at hx103_19)
       (try rw [show 0 * 25 = 0 from rfl] at hx103_19)
       (try rw [Addr.add_zero'] at hx103_19)
       (try rw [show ((0 : Int)).toNat = 0 from rfl] at hx103_20)
       (try rw [show 0 * 25 = 0 from rfl] at hx103_20)
       (try rw [Addr.add_zero'] at hx103_20)
       (try rw [show ((0 : Int)).toNat = 0 from rfl] at hx103_21)
       (try rw [show 0 * 25 = 0 from rfl] at hx103_21)
       (try rw [Addr.add_zero'] at hx103_21)
       (try rw [show ((0 : Int)).toNat = 0 from rfl] at hx103_22)
       (try rw [show 0 * 25 = 0 from rfl] at hx103_22)
       (try rw [Addr.add_zero'] at hx103_22)
       (try rw [show ((0 : Int)).toNat = 0 from rfl] at hx103_23)
       (try rw [show 0 * 25 = 0 from rfl] at hx103_23)
       (try rw [Addr.add_zero'] at hx103_23)
       (try rw [show ((0 : Int)).toNat = 0 from rfl] at hx103_24)
       (try rw [show 0 * 25 = 0 from rfl] at hx103_24)
       (try rw [Addr.add_zero'] at hx103_24)
       replace hx103_0 := Sq.up HB.out hx103_0
       replace hx103_1 := Sq.up HB.out hx103_1
       replace hx103_2 := Sq.up HB.out hx103_2
       replace hx103_3 := Sq.up HB.out hx103_3
       replace hx103_4 := Sq.up HB.out hx103_4
       replace hx103_5 := Sq.up HB.out hx103_5
       replace hx103_6 := Sq.up HB.out hx103_6
       replace hx103_7 := Sq.up HB.out hx103_7
       replace hx103_8 := Sq.up HB.out hx103_8
       replace hx103_9 := Sq.up HB.out hx103_9
       replace hx103_10 := Sq.up HB.out hx103_10
       replace hx103_11 := Sq.up HB.out hx103_11
       replace hx103_12 := Sq.up HB.out hx103_12
       replace hx103_13 := Sq.up HB.out hx103_13
       replace hx103_14 := Sq.up HB.out hx103_14
       replace hx103_15 := Sq.up HB.out hx103_15
       replace hx103_16 := Sq.up HB.out hx103_16
       replace hx103_17 := Sq.up HB.out hx103_17
       replace hx103_18 := Sq.up HB.out hx103_18
       replace hx103_19 := Sq.up HB.out hx103_19
       replace hx103_20 := Sq.up HB.out hx103_20
       replace hx103_21 := Sq.up HB.out hx103_21
       replace hx103_22 := Sq.up HB.out hx103_22
       replace hx103_23 := Sq.up HB.out hx103_23
       replace hx103_24 := Sq.up HB.out hx103_24
       have np := Aside0.mk hi103_21
       have nq := Aside0.mk hl103_21
       clear hi103_21 hl103_21
       have nr := Aside0.mk hi103_24
       have ns := Aside0.mk hl103_24
       clear hi103_24 hl103_24
       replace p103 := eq_true p103
       replace q103 := eq_true q103
       go_upto_if 35 with (first | ((with_reducible refine Pre.gate_load 25 rfl ?_); (try (refine gate_guard Z22 ?_; dsimp only)); refine Pre.load_event_a rfl rfl rfl Z22 Pre.range25 Try.underlying25 rfl Z14 ?_) | ((with_reducible refine gate_callee (f := 18) rfl ?_); refine goesL_ (some 31) rfl rfl Try.func18 Z14 rfl #[.agg #[.int .i64 ((rd_T25 l0 0).f0), .int .i64 ((rd_T25 l0 0).f1), .int .i64 ((rd_T25 l0 0).f2), .string ((rd_T25 l0 0).f3), .int .i64 ((rd_T25 l0 0).f4), .int .i64 ((rd_T25 l0 0).f5), .string ((rd_T25 l0 0).f6), .int .i64 ((rd_T25 l0 0).f7), .int .i64 ((rd_T25 l0 0).f8), .string ((rd_T25 l0 0).f9), .int .i64 ((rd_T25 l0 0).f10), .string ((rd_T25 l0 0).f11), .int .i64 ((rd_T25 l0 0).f12), .int .i64 ((rd_T25 l0 0).f13), .int .i64 ((rd_T25 l0 0).f14), .int .i64 ((rd_T25 l0 0).f15), .int .i64 ((rd_T25 l0 0).f16), .int .i64 ((rd_T25 l0 0).f17), .int .i64 ((rd_T25 l0 0).f18), .string ((rd_T25 l0 0).f19), .string ((rd_T25 l0 0).f20), .slice nY ((rd_T25 l0 0).f21).length nZ, .int .i64 ((rd_T25 l0 0).f22), .string ((rd_T25 l0 0).f23), .slice oa ((rd_T25 l0 0).f24).length ob]] rfl Z4 ?_; (with_reducible refine (rreq_Put.calls ((rd_T25 l0 0).f0) ((rd_T25 l0 0).f1) ((rd_T25 l0 0).f2) ((rd_T25 l0 0).f3) ((rd_T25 l0 0).f4) ((rd_T25 l0 0).f5) ((rd_T25 l0 0).f6) ((rd_T25 l0 0).f7) ((rd_T25 l0 0).f8) ((rd_T25 l0 0).f9) ((rd_T25 l0 0).f10) ((rd_T25 l0 0).f11) ((rd_T25 l0 0).f12) ((rd_T25 l0 0).f13) ((rd_T25 l0 0).f14) ((rd_T25 l0 0).f15) ((rd_T25 l0 0).f16) ((rd_T25 l0 0).f17) ((rd_T25 l0 0).f18) ((rd_T25 l0 0).f19) ((rd_T25 l0 0).f20) _ _ ((rd_T25 l0 0).f21) ((rd_T25 l0 0).f22) ((rd_T25 l0 0).f23) _ _ ((rd_T25 l0 0).f24) aV bi _ ?side1 ?side2 ?side3 ?side4 sR.out).mono ?_); (case side1 => exact (by repeat (first | exact (Kd.C_below np.out HB.out) | (with_reducible refine Kd.C_alloc ?_ _) | (with_reducible refine Kd.C_drewN ?_ _) | (with_reducible refine Kd.C_drew ?_)))); (case side2 => exact nq.out); (case side3 => exact (by repeat (first | exact (Kd.C_below nr.out HB.out) | (with_reducible refine Kd.C_alloc ?_ _) | (with_reducible refine Kd.C_drewN ?_ _) | (with_reducible refine Kd.C_drew ?_)))); (case side4 => exact ns.out); rintro e jP ⟨rfl, hb⟩; refine ⟨_, rfl, ?_⟩; replace HB := Aside0.mk (below_step Z1 hb); clear hb))
       (try simp only [Act.put, Sq.s1, Sq.s2, Sq.s3])
       go_cut [6, 7] (fun v6 v7 wc => ∃ (kq : Nat) (x6_11 : ByteArray) (x7_11 : Bool), v6 = .string x6_11 ∧ v7 = .bool x7_11 ∧ Aside0 (aodv_Encode.j1 kq x6_11 x7_11 = some (r1, r2, r3)) ∧ Aside0 (kq ≤ k1) ∧ Aside0 (Below w.heap.size w wc))
       case first =>
        have H := pw.out
        clear pw
        by_cases gz : bi = true
        ·subst gz
         have H1 : (aodv_Encode.j1 k1 aV true) = some (r1, r2, r3) := by rw [if_pos rfl] at H; exact H
         clear H
         have H := H1
         clear H1
         have H' := Aside0.mk H
         clear H
         go_wp2_with (first | ((with_reducible refine Pre.gate_load 25 rfl ?_); (try (refine gate_guard Z22 ?_; dsimp only)); refine Pre.load_event_a rfl rfl rfl Z22 Pre.range25 Try.underlying25 rfl Z14 ?_))
         go_meet
         case rel => exact ⟨_, (aV), (true), Z17, Z17, H', ⟨by have := HK1.out; first | omega | exact Nat.le_refl _⟩, ⟨Z1⟩⟩
        ·replace gz := Bool.eq_false_iff.mpr gz
         subst gz
         have H1 : ((rrep_Put.f k1 ((rd_T25 l0 0).f0) ((rd_T25 l0 0).f1) ((rd_T25 l0 0).f2) ((rd_T25 l0 0).f3) ((rd_T25 l0 0).f4) ((rd_T25 l0 0).f5) ((rd_T25 l0 0).f6) ((rd_T25 l0 0).f7) ((rd_T25 l0 0).f8) ((rd_T25 l0 0).f9) ((rd_T25 l0 0).f10) ((rd_T25 l0 0).f11) ((rd_T25 l0 0).f12) ((rd_T25 l0 0).f13) ((rd_T25 l0 0).f14) ((rd_T25 l0 0).f15) ((rd_T25 l0 0).f16) ((rd_T25 l0 0).f17) ((rd_T25 l0 0).f18) ((rd_T25 l0 0).f19) ((rd_T25 l0 0).f20) ((rd_T25 l0 0).f21) ((rd_T25 l0 0).f22) ((rd_T25 l0 0).f23) ((rd_T25 l0 0).f24)).bind fun bu => (aodv_Encode.j1 k1 bu.1 bu.2)) = some (r1, r2, r3) := by rw [if_neg (show ¬ (false = true) by decide)] at H; exact H
         clear H
         have H := H1
         clear H1
         replace H := Option.bind_eq_some_iff.mp H
         obtain ⟨⟨bp, aQ⟩, A150, H⟩ := H
         replace H : (aodv_Encode.j1 k1 bp aQ) = some (r1, r2, r3) := H
         have A15 := Aside0.mk A150
         clear A150
         have H' := Aside0.mk H
         clear H
         have p106 : 0 ≤ (0 : Int) := Z34
         have q106 : 0 < (l0.length : Int) := of_decide_eq_true Z6
         obtain ⟨ad106, oc, od, oe, og, e106, hx106_0, hx106_1, hx106_2, hx106_3, hx106_4, hx106_5, hx106_6, hx106_7, hx106_8, hx106_9, hx106_10, hx106_11, hx106_12, hx106_13, hx106_14, hx106_15, hx106_16, hx106_17, hx106_18, hx106_19, hx106_20, hx106_21, hx106_22, hx106_23, hx106_24, hl106_21, hi106_21, hl106_24, hi106_24⟩ := at_T25 iB.out 0 p106 q106
         obtain rfl : ad103 = ad106 := (by injection e106)
         have qi106 : (0 < l0.length) = True := eq_true Z34
         (try rw [show ((0 : Int)).toNat = 0 from rfl] at hx106_0)
         (try rw [show 0 * 25 = 0 from rfl] at hx106_0)
         (try rw [Addr.add_zero'] at hx106_0)
         (try rw [show ((0 : Int)).toNat = 0 from rfl] at hx106_1)
         (try rw [show 0 * 25 = 0 from rfl] at hx106_1)
         (try rw [Addr.add_zero'] at hx106_1)
         (try rw [show ((0 : Int)).toNat = 0 from rfl] at hx106_2)
         (try rw [show 0 * 25 = 0 from rfl] at hx106_2)
         (try rw [Addr.add_zero'] at hx106_2)
         (try rw [show ((0 : Int)).toNat = 0 from rfl] at hx106_3)
         (try rw [show 0 * 25 = 0 from rfl] at hx106_3)
         (try rw [Addr.add_zero'] at hx106_3)
         (try rw [show ((0 : Int)).toNat = 0 from rfl] at hx106_4)
         (try rw [show 0 * 25 = 0 from rfl] at hx106_4)
         (try rw [Addr.add_zero'] at hx106_4)
         (try rw [show ((0 : Int)).toNat = 0 from rfl] at hx106_5)
         (try rw [show 0 * 25 = 0 from rfl] at hx106_5)
         (try rw [Addr.add_zero'] at hx106_5)
         (try rw [show ((0 : Int)).toNat = 0 from rfl] at hx106_6)
         (try rw [show 0 * 25 = 0 from rfl] at hx106_6)
         (try rw [Addr.add_zero'] at hx106_6)
         (try rw [show ((0 : Int)).toNat = 0 from rfl] at hx106_7)
         (try rw [show 0 * 25 = 0 from rfl] at hx106_7)
         (try rw [Addr.add_zero'] at hx106_7)
         (try rw [show ((0 : Int)).toNat = 0 from rfl] at hx106_8)
         (try rw [show 0 * 25 = 0 from rfl] at hx106_8)
         (try rw [Addr.add_zero'] at hx106_8)
         (try rw [show ((0 : Int)).toNat = 0 from rfl] at hx106_9)
         (try rw [show 0 * 25 = 0 from rfl] at hx106_9)
         (try rw [Addr.add_zero'] at hx106_9)
         (try rw [show ((0 : Int)).toNat = 0 from rfl] at hx106_10)
         (try rw [show 0 * 25 = 0 from rfl] at hx106_10)
         (try rw [Addr.add_zero'] at hx106_10)
         (try rw [show ((0 : Int)).toNat = 0 from rfl] at hx106_11)
         (try rw [show 0 * 25 = 0 from rfl] at hx106_11)
         (try rw [Addr.add_zero'] at hx106_11)
         (try rw [show ((0 : Int)).toNat = 0 from rfl] at hx106_12)
         (try rw [show 0 * 25 = 0 from rfl] at hx106_12)
         (try rw [Addr.add_zero'] at hx106_12)
         (try rw [show ((0 : Int)).toNat = 0 from rfl] at hx106_13)
         (try rw [show 0 * 25 = 0 from rfl] at hx106_13)
         (try rw [Addr.add_zero'] at hx106_13)
         (try rw [show ((0 : Int)).toNat = 0 from rfl] at hx106_14)
         (try rw [show 0 * 25 = 0 from rfl] at hx106_14)
         (try rw [Addr.add_zero'] at hx106_14)
         (try rw [show ((0 : Int)).toNat = 0 from rfl] at hx106_15)
         (try rw [show 0 * 25 = 0 from rfl] at hx106_15)
         (try rw [Addr.add_zero'] at hx106_15)
         (try rw [show ((0 : Int)).toNat = 0 from rfl] at hx106_16)
         (try rw [show 0 * 25 = 0 from rfl] at hx106_16)
         (try rw [Addr.add_zero'] at hx106_16)
         (try rw [show ((0 : Int)).toNat = 0 from rfl] at hx106_17)
         (try rw [show 0 * 25 = 0 from rfl] at hx106_17)
         (try rw [Addr.add_zero'] at hx106_17)
         (try rw [show ((0 : Int)).toNat = 0 from rfl] at hx106_18)
         (try rw [show 0 * 25 = 0 from rfl] at hx106_18)
         (try rw [Addr.add_zero'] at hx106_18)
         (try rw [show ((0 : Int)).toNat = 0 from rfl] at hx106_19)
         (try rw [show 0 * 25 = 0 from rfl] at hx106_19)
         (try rw [Addr.add_zero'] at hx106_19)
         (try rw [show ((0 : Int)).toNat = 0 from rfl] at hx106_20)
         (try rw [show 0 * 25 = 0 from rfl] at hx106_20)
         (try rw [Addr.add_zero'] at hx106_20)
         (try rw [show ((0 : Int)).toNat = 0 from rfl] at hx106_21)
         (try rw [show 0 * 25 = 0 from rfl] at hx106_21)
         (try rw [Addr.add_zero'] at hx106_21)
         (try rw [show ((0 : Int)).toNat = 0 from rfl] at hx106_22)
         (try rw [show 0 * 25 = 0 from rfl] at hx106_22)
         (try rw [Addr.add_zero'] at hx106_22)
         (try rw [show ((0 : Int)).toNat = 0 from rfl] at hx106_23)
         (try rw [show 0 * 25 = 0 from rfl] at hx106_23)
         (try rw [Addr.add_zero'] at hx106_23)
         (try rw [show ((0 : Int)).toNat = 0 from rfl] at hx106_24)
         (try rw [show 0 * 25 = 0 from rfl] at hx106_24)
         (try rw [Addr.add_zero'] at hx106_24)
         replace hx106_0 := Sq.up HB.out hx106_0
         replace hx106_1 := Sq.up HB.out hx106_1
         replace hx106_2 := Sq.up HB.out hx106_2
         replace hx106_3 := Sq.up HB.out hx106_3
         replace hx106_4 := Sq.up HB.out hx106_4
         replace hx106_5 := Sq.up HB.out hx106_5
         replace hx106_6 := Sq.up HB.out hx106_6
         replace hx106_7 := Sq.up HB.out hx106_7
         replace hx106_8 := Sq.up HB.out hx106_8
         replace hx106_9 := Sq.up HB.out hx106_9
         replace hx106_10 := Sq.up HB.out hx106_10
         replace hx106_11 := Sq.up HB.out hx106_11
         replace hx106_12 := Sq.up HB.out hx106_12
         replace hx106_13 := Sq.up HB.out hx106_13
         replace hx106_14 := Sq.up HB.out hx106_14
         replace hx106_15 := Sq.up HB.out hx106_15
         replace hx106_16 := Sq.up HB.out hx106_16
         replace hx106_17 := Sq.up HB.out hx106_17
         replace hx106_18 := Sq.up HB.out hx106_18
         replace hx106_19 := Sq.up HB.out hx106_19
         replace hx106_20 := Sq.up HB.out hx106_20
         replace hx106_21 := Sq.up HB.out hx106_21
         replace hx106_22 := Sq.up HB.out hx106_22
         replace hx106_23 := Sq.up HB.out hx106_23
         replace hx106_24 := Sq.up HB.out hx106_24
         have nt := Aside0.mk hi106_21
         have nu := Aside0.mk hl106_21
         clear hi106_21 hl106_21
         have nv := Aside0.mk hi106_24
         have nw := Aside0.mk hl106_24
         clear hi106_24 hl106_24
         replace p106 := eq_true p106
         replace q106 := eq_true q106
         go_wp2_with (first | ((with_reducible refine Pre.gate_load 25 rfl ?_); (try (refine gate_guard Z22 ?_; dsimp only)); refine Pre.load_event_a rfl rfl rfl Z22 Pre.range25 Try.underlying25 rfl Z14 ?_) | ((with_reducible refine gate_callee (f := 34) rfl ?_); refine goesL_ (some 40) rfl rfl Try.func34 Z14 rfl #[.agg #[.int .i64 ((rd_T25 l0 0).f0), .int .i64 ((rd_T25 l0 0).f1), .int .i64 ((rd_T25 l0 0).f2), .string ((rd_T25 l0 0).f3), .int .i64 ((rd_T25 l0 0).f4), .int .i64 ((rd_T25 l0 0).f5), .string ((rd_T25 l0 0).f6), .int .i64 ((rd_T25 l0 0).f7), .int .i64 ((rd_T25 l0 0).f8), .string ((rd_T25 l0 0).f9), .int .i64 ((rd_T25 l0 0).f10), .string ((rd_T25 l0 0).f11), .int .i64 ((rd_T25 l0 0).f12), .int .i64 ((rd_T25 l0 0).f13), .int .i64 ((rd_T25 l0 0).f14), .int .i64 ((rd_T25 l0 0).f15), .int .i64 ((rd_T25 l0 0).f16), .int .i64 ((rd_T25 l0 0).f17), .int .i64 ((rd_T25 l0 0).f18), .string ((rd_T25 l0 0).f19), .string ((rd_T25 l0 0).f20), .slice oc ((rd_T25 l0 0).f21).length od, .int .i64 ((rd_T25 l0 0).f22), .string ((rd_T25 l0 0).f23), .slice oe ((rd_T25 l0 0).f24).length og]] rfl Z4 ?_; (with_reducible refine (rrep_Put.calls k1 ((rd_T25 l0 0).f0) ((rd_T25 l0 0).f1) ((rd_T25 l0 0).f2) ((rd_T25 l0 0).f3) ((rd_T25 l0 0).f4) ((rd_T25 l0 0).f5) ((rd_T25 l0 0).f6) ((rd_T25 l0 0).f7) ((rd_T25 l0 0).f8) ((rd_T25 l0 0).f9) ((rd_T25 l0 0).f10) ((rd_T25 l0 0).f11) ((rd_T25 l0 0).f12) ((rd_T25 l0 0).f13) ((rd_T25 l0 0).f14) ((rd_T25 l0 0).f15) ((rd_T25 l0 0).f16) ((rd_T25 l0 0).f17) ((rd_T25 l0 0).f18) ((rd_T25 l0 0).f19) ((rd_T25 l0 0).f20) _ _ ((rd_T25 l0 0).f21) ((rd_T25 l0 0).f22) ((rd_T25 l0 0).f23) _ _ ((rd_T25 l0 0).f24) bp aQ _ ?side1 ?side2 ?side3 ?side4 A15.out).mono ?_); (case side1 => exact (by repeat (first | exact (Kd.C_below nt.out HB.out) | (with_reducible refine Kd.C_alloc ?_ _) | (with_reducible refine Kd.C_drewN ?_ _) | (with_reducible refine Kd.C_drew ?_)))); (case side2 => exact nu.out); (case side3 => exact (by repeat (first | exact (Kd.C_below nv.out HB.out) | (with_reducible refine Kd.C_alloc ?_ _) | (with_reducible refine Kd.C_drewN ?_ _) | (with_reducible refine Kd.C_drew ?_)))); (case side4 => exact nw.out); rintro e kU ⟨rfl, hb⟩; refine ⟨_, rfl, ?_⟩; replace HB := Aside0.mk (below_step Z1 hb); clear hb))
         go_meet
         case rel => exact ⟨_, (bp), (aQ), Z17, Z17, H', ⟨by have := HK1.out; first | omega | exact Nat.le_refl _⟩, ⟨Z1⟩⟩
       case rest =>
        clear pw
        try clear c1
        try clear p1
        try clear q1
        try clear hx1
        try clear qi1
        try clear c2
        try clear eE
        try clear p2
        try clear c3
        try clear fs
        try clear c4
        try clear dL
        try clear c6
        try clear p6
        try clear c8
        try clear gf
        try clear iU
        try clear c8b2
        try clear c9
        try clear ij
        try clear lL
        try clear en
        try clear eP
        try clear fv
        try clear p10
        try clear q10
        try clear hx10
        try clear qi10
        try clear hx101_0
        try clear hx101_1
        try clear hx101_10
        try clear hx101_11
        try clear hx101_12
        try clear hx101_13
        try clear hx101_14
        try clear hx101_15
        try clear hx101_16
        try clear hx101_17
        try clear hx101_18
        try clear hx101_19
        try clear hx101_2
        try clear hx101_20
        try clear hx101_21
        try clear hx101_22
        try clear hx101_23
        try clear hx101_24
        try clear hx101_3
        try clear hx101_4
        try clear hx101_5
        try clear hx101_6
        try clear hx101_7
        try clear hx101_8
        try clear hx101_9
        try clear hx103_0
        try clear hx103_1
        try clear hx103_10
        try clear hx103_11
        try clear hx103_12
        try clear hx103_13
        try clear hx103_14
        try clear hx103_15
        try clear hx103_16
        try clear hx103_17
        try clear hx103_18
        try clear hx103_19
        try clear hx103_2
        try clear hx103_20
        try clear hx103_21
        try clear hx103_22
        try clear hx103_23
        try clear hx103_24
        try clear hx103_3
        try clear hx103_4
        try clear hx103_5
        try clear hx103_6
        try clear hx103_7
        try clear hx103_8
        try clear hx103_9
        try clear p101
        try clear p103
        try clear q101
        try clear q103
        obtain ⟨kq, x6_11, x7_11, rfl, rfl, HA, HJ11, HB⟩ := hcut
        cases kq with
        | zero => exact absurd HA.out (by simp [aodv_Encode.j1])
        | succ kj11 =>
         have H := HA.out
         clear HA
         simp only [aodv_Encode.j1] at H
         by_cases iL : x7_11 = true
         ·subst iL
          have H1 : (if (x6_11.size : Int) > 65535 then (none) else (some (x6_11, 0, 0))) = some (r1, r2, r3) := by rw [if_pos rfl] at H; exact H
          clear H
          have H := H1
          clear H1
          by_cases gu : (x6_11.size : Int) > 65535
          ·rw [if_pos gu] at H
           exact absurd H Z59
          ·rw [if_neg gu] at H
           have iV : decide (65535 < (x6_11.size : Int)) = false := decide_eq_false gu
           have kw : decide (65535 < x6_11.size) = false := decide_eq_false Z34
           clear gu
           simp only [Option.some.injEq, Prod.mk.injEq] at H
           obtain ⟨rfl, rfl, rfl⟩ := H
           go_wp2_with (first | ((with_reducible refine Pre.gate_load 25 rfl ?_); (try (refine gate_guard Z22 ?_; dsimp only)); refine Pre.load_event_a rfl rfl rfl Z22 Pre.range25 Try.underlying25 rfl Z14 ?_))
           go_ret3
           exact ⟨Z5, Z1⟩
         ·replace iL := Bool.eq_false_iff.mpr iL
          subst iL
          have H1 : (none) = some (r1, r2, r3) := by rw [if_neg (show ¬ (false = true) by decide)] at H; exact H
          clear H
          have H := H1
          clear H1
          exact absurd H Z59
      ·rw [if_neg en] at H
       exact absurd H Z59

end Go.Proofs.Ytccjakjjaemmkaa.PAP
