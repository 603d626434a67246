-- Written by mp.py, a program of this work (wip/tools), out of the translation; Lean checks it.
import Derived.Test.YtccjakjjaemmkaaPAPxZ
import Derived.Test.YtccjakjjaemmkaaPAPxroadbookref14Get
import Derived.Test.YtccjakjjaemmkaaPAPxroadbookref15Get
import Derived.Test.YtccjakjjaemmkaaPAPxroadbookref16Get
namespace Go.Proofs.Ytccjakjjaemmkaa.PAP
open Go.RowKit Go.Proofs.YtccjakjjaemmkaaW.PrintWords Go.Proofs.YtccjakjjaemmkaaW.PrintLast Go.Proofs.YtccjakjjaemmkaaW.PrintMore
attribute [local go_sem] max2_int min2_int max_two min_two max_three min_three max_four min_four   -- for this text's walks alone
set_option linter.unusedVariables false
set_option linter.unusedSimpArgs false

/-! ### roadbookref17_get: function 70 -/
def roadbookref17_get.f (k : Nat) (a0 : ByteArray) : Option (Int × Int × Int × ByteArray × Int × Int × ByteArray × Int × Int × ByteArray × Int × ByteArray × Int × Int × Int × Int × Int × Int × Int × ByteArray × ByteArray × (List (S46)) × Int × ByteArray × (List (S48)) × Int × Int) := if 0 < (a0.size : Int) then (if (bt a0 0) = 1 then ((roadbookref14_Get.f k a0).bind fun aE => (some (aE.1, aE.2.1, aE.2.2.1, aE.2.2.2.1, aE.2.2.2.2.1, aE.2.2.2.2.2.1, aE.2.2.2.2.2.2.1, aE.2.2.2.2.2.2.2.1, aE.2.2.2.2.2.2.2.2.1, aE.2.2.2.2.2.2.2.2.2.1, aE.2.2.2.2.2.2.2.2.2.2.1, aE.2.2.2.2.2.2.2.2.2.2.2.1, aE.2.2.2.2.2.2.2.2.2.2.2.2.1, aE.2.2.2.2.2.2.2.2.2.2.2.2.2.1, aE.2.2.2.2.2.2.2.2.2.2.2.2.2.2.1, aE.2.2.2.2.2.2.2.2.2.2.2.2.2.2.2.1, aE.2.2.2.2.2.2.2.2.2.2.2.2.2.2.2.2.1, aE.2.2.2.2.2.2.2.2.2.2.2.2.2.2.2.2.2.1, aE.2.2.2.2.2.2.2.2.2.2.2.2.2.2.2.2.2.2.1, aE.2.2.2.2.2.2.2.2.2.2.2.2.2.2.2.2.2.2.2.1, aE.2.2.2.2.2.2.2.2.2.2.2.2.2.2.2.2.2.2.2.2.1, aE.2.2.2.2.2.2.2.2.2.2.2.2.2.2.2.2.2.2.2.2.2.1, aE.2.2.2.2.2.2.2.2.2.2.2.2.2.2.2.2.2.2.2.2.2.2.1, aE.2.2.2.2.2.2.2.2.2.2.2.2.2.2.2.2.2.2.2.2.2.2.2.1, aE.2.2.2.2.2.2.2.2.2.2.2.2.2.2.2.2.2.2.2.2.2.2.2.2.1, aE.2.2.2.2.2.2.2.2.2.2.2.2.2.2.2.2.2.2.2.2.2.2.2.2.2.1, aE.2.2.2.2.2.2.2.2.2.2.2.2.2.2.2.2.2.2.2.2.2.2.2.2.2.2))) else (if (bt a0 0) = 3 then ((roadbookref16_Get.f k a0).bind fun aK => (some (aK.1, aK.2.1, aK.2.2.1, aK.2.2.2.1, aK.2.2.2.2.1, aK.2.2.2.2.2.1, aK.2.2.2.2.2.2.1, aK.2.2.2.2.2.2.2.1, aK.2.2.2.2.2.2.2.2.1, aK.2.2.2.2.2.2.2.2.2.1, aK.2.2.2.2.2.2.2.2.2.2.1, aK.2.2.2.2.2.2.2.2.2.2.2.1, aK.2.2.2.2.2.2.2.2.2.2.2.2.1, aK.2.2.2.2.2.2.2.2.2.2.2.2.2.1, aK.2.2.2.2.2.2.2.2.2.2.2.2.2.2.1, aK.2.2.2.2.2.2.2.2.2.2.2.2.2.2.2.1, aK.2.2.2.2.2.2.2.2.2.2.2.2.2.2.2.2.1, aK.2.2.2.2.2.2.2.2.2.2.2.2.2.2.2.2.2.1, aK.2.2.2.2.2.2.2.2.2.2.2.2.2.2.2.2.2.2.1, aK.2.2.2.2.2.2.2.2.2.2.2.2.2.2.2.2.2.2.2.1, aK.2.2.2.2.2.2.2.2.2.2.2.2.2.2.2.2.2.2.2.2.1, aK.2.2.2.2.2.2.2.2.2.2.2.2.2.2.2.2.2.2.2.2.2.1, aK.2.2.2.2.2.2.2.2.2.2.2.2.2.2.2.2.2.2.2.2.2.2.1, aK.2.2.2.2.2.2.2.2.2.2.2.2.2.2.2.2.2.2.2.2.2.2.2.1, aK.2.2.2.2.2.2.2.2.2.2.2.2.2.2.2.2.2.2.2.2.2.2.2.2.1, aK.2.2.2.2.2.2.2.2.2.2.2.2.2.2.2.2.2.2.2.2.2.2.2.2.2.1, aK.2.2.2.2.2.2.2.2.2.2.2.2.2.2.2.2.2.2.2.2.2.2.2.2.2.2))) else ((roadbookref15_Get.f k a0).bind fun aY => (some (aY.1, aY.2.1, aY.2.2.1, aY.2.2.2.1, aY.2.2.2.2.1, aY.2.2.2.2.2.1, aY.2.2.2.2.2.2.1, aY.2.2.2.2.2.2.2.1, aY.2.2.2.2.2.2.2.2.1, aY.2.2.2.2.2.2.2.2.2.1, aY.2.2.2.2.2.2.2.2.2.2.1, aY.2.2.2.2.2.2.2.2.2.2.2.1, aY.2.2.2.2.2.2.2.2.2.2.2.2.1, aY.2.2.2.2.2.2.2.2.2.2.2.2.2.1, aY.2.2.2.2.2.2.2.2.2.2.2.2.2.2.1, aY.2.2.2.2.2.2.2.2.2.2.2.2.2.2.2.1, aY.2.2.2.2.2.2.2.2.2.2.2.2.2.2.2.2.1, aY.2.2.2.2.2.2.2.2.2.2.2.2.2.2.2.2.2.1, aY.2.2.2.2.2.2.2.2.2.2.2.2.2.2.2.2.2.2.1, aY.2.2.2.2.2.2.2.2.2.2.2.2.2.2.2.2.2.2.2.1, aY.2.2.2.2.2.2.2.2.2.2.2.2.2.2.2.2.2.2.2.2.1, aY.2.2.2.2.2.2.2.2.2.2.2.2.2.2.2.2.2.2.2.2.2.1, aY.2.2.2.2.2.2.2.2.2.2.2.2.2.2.2.2.2.2.2.2.2.2.1, aY.2.2.2.2.2.2.2.2.2.2.2.2.2.2.2.2.2.2.2.2.2.2.2.1, aY.2.2.2.2.2.2.2.2.2.2.2.2.2.2.2.2.2.2.2.2.2.2.2.2.1, aY.2.2.2.2.2.2.2.2.2.2.2.2.2.2.2.2.2.2.2.2.2.2.2.2.2.1, aY.2.2.2.2.2.2.2.2.2.2.2.2.2.2.2.2.2.2.2.2.2.2.2.2.2.2))))) else (none)
theorem roadbookref17_get.mono : ∀ a0 k, LeO (roadbookref17_get.f k a0) (roadbookref17_get.f (k + 1) a0) := by
 intro a0 k
 unfold roadbookref17_get.f
 repeat' first
   | (with_reducible exact roadbookref14_Get.mono _ _)
   | (with_reducible exact roadbookref15_Get.mono _ _)
   | (with_reducible exact roadbookref16_Get.mono _ _)
   | (with_reducible exact LeO.refl _)
   | (with_reducible exact LeO.none _)
   | (with_reducible refine LeO.ite ?_ ?_)
   | (with_reducible refine LeO.bind ?_ (fun _ => ?_))
   | exact roadbookref14_Get.mono _ _
   | exact roadbookref15_Get.mono _ _
   | exact roadbookref16_Get.mono _ _
   | exact LeO.none _
   | refine LeO.ite ?_ ?_
   | refine LeO.bind ?_ (fun _ => ?_)
set_option maxHeartbeats 8000000 in
set_option maxRecDepth 100000 in
theorem roadbookref17_get.calls (k : Nat) (a0 : ByteArray) (r1 : Int) (r2 : Int) (r3 : Int) (r4 : ByteArray) (r5 : Int) (r6 : Int) (r7 : ByteArray) (r8 : Int) (r9 : Int) (r10 : ByteArray) (r11 : Int) (r12 : ByteArray) (r13 : Int) (r14 : Int) (r15 : Int) (r16 : Int) (r17 : Int) (r18 : Int) (r19 : Int) (r20 : ByteArray) (r21 : ByteArray) (r22 : List (S46)) (r23 : Int) (r24 : ByteArray) (r25 : List (S48)) (r26 : Int) (r27 : Int) (w : World) (h : roadbookref17_get.f k a0 = some (r1, r2, r3, r4, r5, r6, r7, r8, r9, r10, r11, r12, r13, r14, r15, r16, r17, r18, r19, r20, r21, r22, r23, r24, r25, r26, r27)) :
  Calls Try.prog 70 #[.string a0] w fun e w' => ∃ v21_ v24_ : Value, e = .returned (.tuple #[.agg #[.int .i64 r1, .int .i64 r2, .int .i64 r3, .string r4, .int .i64 r5, .int .i64 r6, .string r7, .int .i64 r8, .int .i64 r9, .string r10, .int .i64 r11, .string r12, .int .i64 r13, .int .i64 r14, .int .i64 r15, .int .i64 r16, .int .i64 r17, .int .i64 r18, .int .i64 r19, .string r20, .string r21, v21_, .int .i64 r23, .string r24, v24_], .int .i64 r26, .int .i64 r27]) ∧ Kd.R k46 46 w' w.heap.size (fun _ => True) v21_ r22 ∧ Kd.R k48 48 w' w.heap.size (fun _ => True) v24_ r25 ∧ Below w.heap.size w w' := by
 have fn := Try.underlying25
 have HB := Aside0.mk (Below.refl w.heap.size w)
 have H : (if 0 < (a0.size : Int) then (if (bt a0 0) = 1 then ((roadbookref14_Get.f k a0).bind fun aE => (some (aE.1, aE.2.1, aE.2.2.1, aE.2.2.2.1, aE.2.2.2.2.1, aE.2.2.2.2.2.1, aE.2.2.2.2.2.2.1, aE.2.2.2.2.2.2.2.1, aE.2.2.2.2.2.2.2.2.1, aE.2.2.2.2.2.2.2.2.2.1, aE.2.2.2.2.2.2.2.2.2.2.1, aE.2.2.2.2.2.2.2.2.2.2.2.1, aE.2.2.2.2.2.2.2.2.2.2.2.2.1, aE.2.2.2.2.2.2.2.2.2.2.2.2.2.1, aE.2.2.2.2.2.2.2.2.2.2.2.2.2.2.1, aE.2.2.2.2.2.2.2.2.2.2.2.2.2.2.2.1, aE.2.2.2.2.2.2.2.2.2.2.2.2.2.2.2.2.1, aE.2.2.2.2.2.2.2.2.2.2.2.2.2.2.2.2.2.1, aE.2.2.2.2.2.2.2.2.2.2.2.2.2.2.2.2.2.2.1, aE.2.2.2.2.2.2.2.2.2.2.2.2.2.2.2.2.2.2.2.1, aE.2.2.2.2.2.2.2.2.2.2.2.2.2.2.2.2.2.2.2.2.1, aE.2.2.2.2.2.2.2.2.2.2.2.2.2.2.2.2.2.2.2.2.2.1, aE.2.2.2.2.2.2.2.2.2.2.2.2.2.2.2.2.2.2.2.2.2.2.1, aE.2.2.2.2.2.2.2.2.2.2.2.2.2.2.2.2.2.2.2.2.2.2.2.1, aE.2.2.2.2.2.2.2.2.2.2.2.2.2.2.2.2.2.2.2.2.2.2.2.2.1, aE.2.2.2.2.2.2.2.2.2.2.2.2.2.2.2.2.2.2.2.2.2.2.2.2.2.1, aE.2.2.2.2.2.2.2.2.2.2.2.2.2.2.2.2.2.2.2.2.2.2.2.2.2.2))) else (if (bt a0 0) = 3 then ((roadbookref16_Get.f k a0).bind fun aK => (some (aK.1, aK.2.1, aK.2.2.1, aK.2.2.2.1, aK.2.2.2.2.1, aK.2.2.2.2.2.1, aK.2.2.2.2.2.2.1, aK.2.2.2.2.2.2.2.1, aK.2.2.2.2.2.2.2.2.1, aK.2.2.2.2.2.2.2.2.2.1, aK.2.2.2.2.2.2.2.2.2.2.1, aK.2.2.2.2.2.2.2.2.2.2.2.1, aK.2.2.2.2.2.2.2.2.2.2.2.2.1, aK.2.2.2.2.2.2.2.2.2.2.2.2.2.1, aK.2.2.2.2.2.2.2.2.2.2.2.2.2.2.1, aK.2.2.2.2.2.2.2.2.2.2.2.2.2.2.2.1, aK.2.2.2.2.2.2.2.2.2.2.2.2.2.2.2.2.1, aK.2.2.2.2.2.2.2.2.2.2.2.2.2.2.2.2.2.1, aK.2.2.2.2.2.2.2.2.2.2.2.2.2.2.2.2.2.2.1, aK.2.2.2.2.2.2.2.2.2.2.2.2.2.2.2.2.2.2.2.1, aK.2.2.2.2.2.2.2.2.2.2.2.2.2.2.2.2.2.2.2.2.1, aK.2.2.2.2.2.2.2.2.2.2.2.2.2.2.2.2.2.2.2.2.2.1, aK.2.2.2.2.2.2.2.2.2.2.2.2.2.2.2.2.2.2.2.2.2.2.1, aK.2.2.2.2.2.2.2.2.2.2.2.2.2.2.2.2.2.2.2.2.2.2.2.1, aK.2.2.2.2.2.2.2.2.2.2.2.2.2.2.2.2.2.2.2.2.2.2.2.2.1, aK.2.2.2.2.2.2.2.2.2.2.2.2.2.2.2.2.2.2.2.2.2.2.2.2.2.1, aK.2.2.2.2.2.2.2.2.2.2.2.2.2.2.2.2.2.2.2.2.2.2.2.2.2.2))) else ((roadbookref15_Get.f k a0).bind fun aY => (some (aY.1, aY.2.1, aY.2.2.1, aY.2.2.2.1, aY.2.2.2.2.1, aY.2.2.2.2.2.1, aY.2.2.2.2.2.2.1, aY.2.2.2.2.2.2.2.1, aY.2.2.2.2.2.2.2.2.1, aY.2.2.2.2.2.2.2.2.2.1, aY.2.2.2.2.2.2.2.2.2.2.1, aY.2.2.2.2.2.2.2.2.2.2.2.1, aY.2.2.2.2.2.2.2.2.2.2.2.2.1, aY.2.2.2.2.2.2.2.2.2.2.2.2.2.1, aY.2.2.2.2.2.2.2.2.2.2.2.2.2.2.1, aY.2.2.2.2.2.2.2.2.2.2.2.2.2.2.2.1, aY.2.2.2.2.2.2.2.2.2.2.2.2.2.2.2.2.1, aY.2.2.2.2.2.2.2.2.2.2.2.2.2.2.2.2.2.1, aY.2.2.2.2.2.2.2.2.2.2.2.2.2.2.2.2.2.2.1, aY.2.2.2.2.2.2.2.2.2.2.2.2.2.2.2.2.2.2.2.1, aY.2.2.2.2.2.2.2.2.2.2.2.2.2.2.2.2.2.2.2.2.1, aY.2.2.2.2.2.2.2.2.2.2.2.2.2.2.2.2.2.2.2.2.2.1, aY.2.2.2.2.2.2.2.2.2.2.2.2.2.2.2.2.2.2.2.2.2.2.1, aY.2.2.2.2.2.2.2.2.2.2.2.2.2.2.2.2.2.2.2.2.2.2.2.1, aY.2.2.2.2.2.2.2.2.2.2.2.2.2.2.2.2.2.2.2.2.2.2.2.2.1, aY.2.2.2.2.2.2.2.2.2.2.2.2.2.2.2.2.2.2.2.2.2.2.2.2.2.1, aY.2.2.2.2.2.2.2.2.2.2.2.2.2.2.2.2.2.2.2.2.2.2.2.2.2.2))))) else (none)) = some (r1, r2, r3, r4, r5, r6, r7, r8, r9, r10, r11, r12, r13, r14, r15, r16, r17, r18, r19, r20, r21, r22, r23, r24, r25, r26, r27) := h
 clear h
 by_cases c2 : 0 < (a0.size : Int)
 ·rw [if_pos c2] at H
  have eE : decide (0 < (a0.size : Int)) = true := decide_eq_true c2
  have fo : decide (0 < a0.size) = true := decide_eq_true Z34
  clear c2
  by_cases c4 : (bt a0 0) = 1
  ·rw [if_pos c4] at H
   have dL : ((bt a0 0) == 1) = true := beq_iff_eq.mpr c4
   have gh : ((bt a0 0) != 1) = false := bne_eq_false_iff_eq.mpr c4
   clear c4
   replace H := Option.bind_eq_some_iff.mp H
   obtain ⟨⟨aM, aX, aV, bi, aU, bp, aQ, ba, bk, bK, cj, bL, bP, bF, bO, cC, bE, bS, bZ, ca, ck, dV, dM, cb, es, ex, hF⟩, jt, H⟩ := H
   replace H : (some (aM, aX, aV, bi, aU, bp, aQ, ba, bk, bK, cj, bL, bP, bF, bO, cC, bE, bS, bZ, ca, ck, dV, dM, cb, es, ex, hF)) = some (r1, r2, r3, r4, r5, r6, r7, r8, r9, r10, r11, r12, r13, r14, r15, r16, r17, r18, r19, r20, r21, r22, r23, r24, r25, r26, r27) := H
   have A5 := Aside0.mk jt
   clear jt
   simp only [Option.some.injEq, Prod.mk.injEq] at H
   obtain ⟨rfl, rfl, rfl, rfl, rfl, rfl, rfl, rfl, rfl, rfl, rfl, rfl, rfl, rfl, rfl, rfl, rfl, rfl, rfl, rfl, rfl, rfl, rfl, rfl, rfl, rfl, rfl⟩ := H
   go_enter Try.func70, Try.ntmps70
   go_wp2_with (first | ((with_reducible refine gate_dst (N := 2) rfl ?_); refine Sq.box 2 #[.int .i64 0, .int .i64 0, .int .i64 0, .string ⟨#[]⟩, .int .i64 0, .int .i64 0, .string ⟨#[]⟩, .int .i64 0, .int .i64 0, .string ⟨#[]⟩, .int .i64 0, .string ⟨#[]⟩, .int .i64 0, .int .i64 0, .int .i64 0, .int .i64 0, .int .i64 0, .int .i64 0, .int .i64 0, .string ⟨#[]⟩, .string ⟨#[]⟩, .slice none 0 0, .int .i64 0, .string ⟨#[]⟩, .slice none 0 0] 25 ?_; intro ab hg w6 hbox hb; have aa := Aside0.mk (hbox); have bR := Aside0.mk (Sq.ge hg Z1); have bf := Aside0.mk (Sq.ge hg Z1); replace HB := Aside0.mk (below_step Z1 hb); clear hb hbox hg; have p3 : 0 ≤ (0 : Int) := Z34; have q3 : 0 < a0.size := (by have : (0 : Int) < (a0.size : Int) := of_decide_eq_true Z6; omega); have hx3 : ∀ h : 0 < a0.size, ((a0[0]'h).toNat : Int) = bt a0 0 := bt_at a0 0; clear p3; have qi3 : (0 < (a0.size : Int)) = True := eq_true (of_decide_eq_true Z6); replace q3 := eq_true q3) | ((with_reducible refine gate_callee (f := 23) rfl ?_); refine goesL_ (some 10) rfl rfl Try.func23 Z14 rfl #[.string a0] rfl Z4 ?_; (with_reducible refine (roadbookref14_Get.calls k a0 aM aX aV bi aU bp aQ ba bk bK cj bL bP bF bO cC bE bS bZ ca ck dV dM cb es ex hF _ A5.out).mono ?_); rintro e w7 ⟨ph, qM, rfl, ho0, ho1, hb⟩; refine ⟨_, rfl, ?_⟩; have fq := Aside0.mk (Kd.R_lower ho0 (below_size Z0)); have fY := Aside0.mk (Kd.R_lower ho1 (below_size Z0)); replace aa := Aside0.mk (blk_below (g := ab) Z2 hb); replace HB := Aside0.mk (below_step Z0 hb); clear hb ho0 ho1; have nL := cells_25 aa.out; obtain ⟨pq, pr, eo9⟩ := Kd.R_slice fq.out; subst eo9; obtain ⟨la, lb, eo10⟩ := Kd.R_slice fY.out; subst eo10) | ((with_reducible refine Pre.gate_store 25 rfl ?_); refine Pre.store_abs (cur := #[.int .i64 0, .int .i64 0, .int .i64 0, .string ⟨#[]⟩, .int .i64 0, .int .i64 0, .string ⟨#[]⟩, .int .i64 0, .int .i64 0, .string ⟨#[]⟩, .int .i64 0, .string ⟨#[]⟩, .int .i64 0, .int .i64 0, .int .i64 0, .int .i64 0, .int .i64 0, .int .i64 0, .int .i64 0, .string ⟨#[]⟩, .string ⟨#[]⟩, .slice none 0 0, .int .i64 0, .string ⟨#[]⟩, .slice none 0 0]) (e := 25) rfl rfl rfl Z22 Z22 Z2 Z14 Z22 Z22 ?_; intro jQ hbS_ sS_; have bl : Aside0 (Kd.R k46 46 jQ w.heap.size (fun _ => True) (.slice pq dV.length pr) dV) := ⟨Kd.R_mono (Pre.R_sets sS_ (Kd.R_types fq.out aa.out Z27) (fun _ hk => hk.2)) (fun _ hk => trivial)⟩; have bm : Aside0 (Kd.R k48 48 jQ w.heap.size (fun _ => True) (.slice la es.length lb) es) := ⟨Kd.R_mono (Pre.R_sets sS_ (Kd.R_types fY.out aa.out Z27) (fun _ hk => hk.2)) (fun _ hk => trivial)⟩; have bI : Aside0 (jQ.heap[ab]? = some (.cells #[.int .i64 aM, .int .i64 aX, .int .i64 aV, .string bi, .int .i64 aU, .int .i64 bp, .string aQ, .int .i64 ba, .int .i64 bk, .string bK, .int .i64 cj, .string bL, .int .i64 bP, .int .i64 bF, .int .i64 bO, .int .i64 cC, .int .i64 bE, .int .i64 bS, .int .i64 bZ, .string ca, .string ck, .slice pq dV.length pr, .int .i64 dM, .string cb, .slice la es.length lb] 25 (0, 0))) := ⟨hbS_⟩; have dU : Aside0 (Below w.heap.size w jQ) := ⟨sS_.below Z0 bf.out⟩; clear hbS_ sS_; replace fq := bl; replace fY := bm; replace aa := bI; replace HB := dU; clear bl bm bI dU))
   refine bodyPost_ret (results_ctt rfl _ _ ab 25 #[.int .i64 aM, .int .i64 aX, .int .i64 aV, .string bi, .int .i64 aU, .int .i64 bp, .string aQ, .int .i64 ba, .int .i64 bk, .string bK, .int .i64 cj, .string bL, .int .i64 bP, .int .i64 bF, .int .i64 bO, .int .i64 cC, .int .i64 bE, .int .i64 bS, .int .i64 bZ, .string ca, .string ck, .slice pq dV.length pr, .int .i64 dM, .string cb, .slice la es.length lb] (0, 0) _ rfl Z2 Try.underlying25 rfl Z14) rfl ?_
   exact ⟨_, _, Z5, Z80, Z92, Z0⟩
  ·rw [if_neg c4] at H
   have dL : ((bt a0 0) == 1) = false := beq_eq_false_iff_ne.mpr c4
   have gh : ((bt a0 0) != 1) = true := bne_iff_ne.mpr c4
   by_cases gd : (bt a0 0) = 3
   ·rw [if_pos gd] at H
    have jv : ((bt a0 0) == 3) = true := beq_iff_eq.mpr gd
    have li : ((bt a0 0) != 3) = false := bne_eq_false_iff_eq.mpr gd
    clear gd
    replace H := Option.bind_eq_some_iff.mp H
    obtain ⟨⟨dN, fA, eS, gi, gj, gR, gB, gC, gD, gE, iZ, gF, gG, gH, gI, jR, fc, gJ, gK, gL, gM, eX, gN, gO, fr, io, ip⟩, kF, H⟩ := H
    replace H : (some (dN, fA, eS, gi, gj, gR, gB, gC, gD, gE, iZ, gF, gG, gH, gI, jR, fc, gJ, gK, gL, gM, eX, gN, gO, fr, io, ip)) = some (r1, r2, r3, r4, r5, r6, r7, r8, r9, r10, r11, r12, r13, r14, r15, r16, r17, r18, r19, r20, r21, r22, r23, r24, r25, r26, r27) := H
    have rn := Aside0.mk kF
    clear kF
    simp only [Option.some.injEq, Prod.mk.injEq] at H
    obtain ⟨rfl, rfl, rfl, rfl, rfl, rfl, rfl, rfl, rfl, rfl, rfl, rfl, rfl, rfl, rfl, rfl, rfl, rfl, rfl, rfl, rfl, rfl, rfl, rfl, rfl, rfl, rfl⟩ := H
    go_enter Try.func70, Try.ntmps70
    go_wp2_with (first | ((with_reducible refine gate_dst (N := 2) rfl ?_); refine Sq.box 2 #[.int .i64 0, .int .i64 0, .int .i64 0, .string ⟨#[]⟩, .int .i64 0, .int .i64 0, .string ⟨#[]⟩, .int .i64 0, .int .i64 0, .string ⟨#[]⟩, .int .i64 0, .string ⟨#[]⟩, .int .i64 0, .int .i64 0, .int .i64 0, .int .i64 0, .int .i64 0, .int .i64 0, .int .i64 0, .string ⟨#[]⟩, .string ⟨#[]⟩, .slice none 0 0, .int .i64 0, .string ⟨#[]⟩, .slice none 0 0] 25 ?_; intro ab hg lM hbox hb; have aa := Aside0.mk (hbox); have bR := Aside0.mk (Sq.ge hg Z1); have bf := Aside0.mk (Sq.ge hg Z1); replace HB := Aside0.mk (below_step Z1 hb); clear hb hbox hg; have p3 : 0 ≤ (0 : Int) := Z34; have q3 : 0 < a0.size := (by have : (0 : Int) < (a0.size : Int) := of_decide_eq_true Z6; omega); have hx3 : ∀ h : 0 < a0.size, ((a0[0]'h).toNat : Int) = bt a0 0 := bt_at a0 0; clear p3; have qi3 : (0 < (a0.size : Int)) = True := eq_true (of_decide_eq_true Z6); replace q3 := eq_true q3) | ((with_reducible refine gate_callee (f := 31) rfl ?_); refine goesL_ (some 17) rfl rfl Try.func31 Z14 rfl #[.string a0] rfl Z4 ?_; (with_reducible refine (roadbookref16_Get.calls k a0 dN fA eS gi gj gR gB gC gD gE iZ gF gG gH gI jR fc gJ gK gL gM eX gN gO fr io ip _ rn.out).mono ?_); rintro e mj ⟨tc, td, rfl, ho0, ho1, hb⟩; refine ⟨_, rfl, ?_⟩; have hN := Aside0.mk (Kd.R_lower ho0 (below_size Z0)); have hO := Aside0.mk (Kd.R_lower ho1 (below_size Z0)); replace aa := Aside0.mk (blk_below (g := ab) Z2 hb); replace HB := Aside0.mk (below_step Z0 hb); clear hb ho0 ho1; have jD := cells_25 aa.out; obtain ⟨lc, ld, eo17⟩ := Kd.R_slice hN.out; subst eo17; obtain ⟨lf, lg, eo18⟩ := Kd.R_slice hO.out; subst eo18) | ((with_reducible refine Pre.gate_store 25 rfl ?_); refine Pre.store_abs (cur := #[.int .i64 0, .int .i64 0, .int .i64 0, .string ⟨#[]⟩, .int .i64 0, .int .i64 0, .string ⟨#[]⟩, .int .i64 0, .int .i64 0, .string ⟨#[]⟩, .int .i64 0, .string ⟨#[]⟩, .int .i64 0, .int .i64 0, .int .i64 0, .int .i64 0, .int .i64 0, .int .i64 0, .int .i64 0, .string ⟨#[]⟩, .string ⟨#[]⟩, .slice none 0 0, .int .i64 0, .string ⟨#[]⟩, .slice none 0 0]) (e := 25) rfl rfl rfl Z22 Z22 Z2 Z14 Z22 Z22 ?_; intro me hbS_ sS_; have bl : Aside0 (Kd.R k46 46 me w.heap.size (fun _ => True) (.slice lc eX.length ld) eX) := ⟨Kd.R_mono (Pre.R_sets sS_ (Kd.R_types hN.out aa.out Z27) (fun _ hk => hk.2)) (fun _ hk => trivial)⟩; have bm : Aside0 (Kd.R k48 48 me w.heap.size (fun _ => True) (.slice lf fr.length lg) fr) := ⟨Kd.R_mono (Pre.R_sets sS_ (Kd.R_types hO.out aa.out Z27) (fun _ hk => hk.2)) (fun _ hk => trivial)⟩; have bI : Aside0 (me.heap[ab]? = some (.cells #[.int .i64 dN, .int .i64 fA, .int .i64 eS, .string gi, .int .i64 gj, .int .i64 gR, .string gB, .int .i64 gC, .int .i64 gD, .string gE, .int .i64 iZ, .string gF, .int .i64 gG, .int .i64 gH, .int .i64 gI, .int .i64 jR, .int .i64 fc, .int .i64 gJ, .int .i64 gK, .string gL, .string gM, .slice lc eX.length ld, .int .i64 gN, .string gO, .slice lf fr.length lg] 25 (0, 0))) := ⟨hbS_⟩; have dU : Aside0 (Below w.heap.size w me) := ⟨sS_.below Z0 bf.out⟩; clear hbS_ sS_; replace hN := bl; replace hO := bm; replace aa := bI; replace HB := dU; clear bl bm bI dU))
    refine bodyPost_ret (results_ctt rfl _ _ ab 25 #[.int .i64 dN, .int .i64 fA, .int .i64 eS, .string gi, .int .i64 gj, .int .i64 gR, .string gB, .int .i64 gC, .int .i64 gD, .string gE, .int .i64 iZ, .string gF, .int .i64 gG, .int .i64 gH, .int .i64 gI, .int .i64 jR, .int .i64 fc, .int .i64 gJ, .int .i64 gK, .string gL, .string gM, .slice lc eX.length ld, .int .i64 gN, .string gO, .slice lf fr.length lg] (0, 0) _ rfl Z2 Try.underlying25 rfl Z14) rfl ?_
    exact ⟨_, _, Z5, by (with_reducible repeat (first | apply Kd.R_alloc | apply Kd.R_drewN | apply Kd.R_drew)); exact hN.out, by (with_reducible repeat (first | apply Kd.R_alloc | apply Kd.R_drewN | apply Kd.R_drew)); exact hO.out, Z0⟩
   ·rw [if_neg gd] at H
    have jv : ((bt a0 0) == 3) = false := beq_eq_false_iff_ne.mpr gd
    have li : ((bt a0 0) != 3) = true := bne_iff_ne.mpr gd
    replace H := Option.bind_eq_some_iff.mp H
    obtain ⟨⟨gP, ja, jb, jc, jd, jS, jT, jU, jV, jW, jX, jY, jZ, ka, kb, kc, kd, ke, kf, kg, kh, iv, ki, kj, iw, mI, mJ⟩, je, H⟩ := H
    replace H : (some (gP, ja, jb, jc, jd, jS, jT, jU, jV, jW, jX, jY, jZ, ka, kb, kc, kd, ke, kf, kg, kh, iv, ki, kj, iw, mI, mJ)) = some (r1, r2, r3, r4, r5, r6, r7, r8, r9, r10, r11, r12, r13, r14, r15, r16, r17, r18, r19, r20, r21, r22, r23, r24, r25, r26, r27) := H
    have gr := Aside0.mk je
    clear je
    simp only [Option.some.injEq, Prod.mk.injEq] at H
    obtain ⟨rfl, rfl, rfl, rfl, rfl, rfl, rfl, rfl, rfl, rfl, rfl, rfl, rfl, rfl, rfl, rfl, rfl, rfl, rfl, rfl, rfl, rfl, rfl, rfl, rfl, rfl, rfl⟩ := H
    go_enter Try.func70, Try.ntmps70
    go_wp2_with (first | ((with_reducible refine gate_dst (N := 2) rfl ?_); refine Sq.box 2 #[.int .i64 0, .int .i64 0, .int .i64 0, .string ⟨#[]⟩, .int .i64 0, .int .i64 0, .string ⟨#[]⟩, .int .i64 0, .int .i64 0, .string ⟨#[]⟩, .int .i64 0, .string ⟨#[]⟩, .int .i64 0, .int .i64 0, .int .i64 0, .int .i64 0, .int .i64 0, .int .i64 0, .int .i64 0, .string ⟨#[]⟩, .string ⟨#[]⟩, .slice none 0 0, .int .i64 0, .string ⟨#[]⟩, .slice none 0 0] 25 ?_; intro ab hg oB hbox hb; have aa := Aside0.mk (hbox); have bR := Aside0.mk (Sq.ge hg Z1); have bf := Aside0.mk (Sq.ge hg Z1); replace HB := Aside0.mk (below_step Z1 hb); clear hb hbox hg; have p3 : 0 ≤ (0 : Int) := Z34; have q3 : 0 < a0.size := (by have : (0 : Int) < (a0.size : Int) := of_decide_eq_true Z6; omega); have hx3 : ∀ h : 0 < a0.size, ((a0[0]'h).toNat : Int) = bt a0 0 := bt_at a0 0; clear p3; have qi3 : (0 < (a0.size : Int)) = True := eq_true (of_decide_eq_true Z6); replace q3 := eq_true q3) | ((with_reducible refine gate_callee (f := 39) rfl ?_); refine goesL_ (some 22) rfl rfl Try.func39 Z14 rfl #[.string a0] rfl Z4 ?_; (with_reducible refine (roadbookref15_Get.calls k a0 gP ja jb jc jd jS jT jU jV jW jX jY jZ ka kb kc kd ke kf kg kh iv ki kj iw mI mJ _ gr.out).mono ?_); rintro e nH ⟨te, tf, rfl, ho0, ho1, hb⟩; refine ⟨_, rfl, ?_⟩; have hP := Aside0.mk (Kd.R_lower ho0 (below_size Z0)); have hQ := Aside0.mk (Kd.R_lower ho1 (below_size Z0)); replace aa := Aside0.mk (blk_below (g := ab) Z2 hb); replace HB := Aside0.mk (below_step Z0 hb); clear hb ho0 ho1; have kG := cells_25 aa.out; obtain ⟨ix, iy, eo24⟩ := Kd.R_slice hP.out; subst eo24; obtain ⟨iz, iA, eo25⟩ := Kd.R_slice hQ.out; subst eo25) | ((with_reducible refine Pre.gate_store 25 rfl ?_); refine Pre.store_abs (cur := #[.int .i64 0, .int .i64 0, .int .i64 0, .string ⟨#[]⟩, .int .i64 0, .int .i64 0, .string ⟨#[]⟩, .int .i64 0, .int .i64 0, .string ⟨#[]⟩, .int .i64 0, .string ⟨#[]⟩, .int .i64 0, .int .i64 0, .int .i64 0, .int .i64 0, .int .i64 0, .int .i64 0, .int .i64 0, .string ⟨#[]⟩, .string ⟨#[]⟩, .slice none 0 0, .int .i64 0, .string ⟨#[]⟩, .slice none 0 0]) (e := 25) rfl rfl rfl Z22 Z22 Z2 Z14 Z22 Z22 ?_; intro iR hbS_ sS_; have bl : Aside0 (Kd.R k46 46 iR w.heap.size (fun _ => True) (.slice ix iv.length iy) iv) := ⟨Kd.R_mono (Pre.R_sets sS_ (Kd.R_types hP.out aa.out Z27) (fun _ hk => hk.2)) (fun _ hk => trivial)⟩; have bm : Aside0 (Kd.R k48 48 iR w.heap.size (fun _ => True) (.slice iz iw.length iA) iw) := ⟨Kd.R_mono (Pre.R_sets sS_ (Kd.R_types hQ.out aa.out Z27) (fun _ hk => hk.2)) (fun _ hk => trivial)⟩; have bI : Aside0 (iR.heap[ab]? = some (.cells #[.int .i64 gP, .int .i64 ja, .int .i64 jb, .string jc, .int .i64 jd, .int .i64 jS, .string jT, .int .i64 jU, .int .i64 jV, .string jW, .int .i64 jX, .string jY, .int .i64 jZ, .int .i64 ka, .int .i64 kb, .int .i64 kc, .int .i64 kd, .int .i64 ke, .int .i64 kf, .string kg, .string kh, .slice ix iv.length iy, .int .i64 ki, .string kj, .slice iz iw.length iA] 25 (0, 0))) := ⟨hbS_⟩; have dU : Aside0 (Below w.heap.size w iR) := ⟨sS_.below Z0 bf.out⟩; clear hbS_ sS_; replace hP := bl; replace hQ := bm; replace aa := bI; replace HB := dU; clear bl bm bI dU))
    refine bodyPost_ret (results_ctt rfl _ _ ab 25 #[.int .i64 gP, .int .i64 ja, .int .i64 jb, .string jc, .int .i64 jd, .int .i64 jS, .string jT, .int .i64 jU, .int .i64 jV, .string jW, .int .i64 jX, .string jY, .int .i64 jZ, .int .i64 ka, .int .i64 kb, .int .i64 kc, .int .i64 kd, .int .i64 ke, .int .i64 kf, .string kg, .string kh, .slice ix iv.length iy, .int .i64 ki, .string kj, .slice iz iw.length iA] (0, 0) _ rfl Z2 Try.underlying25 rfl Z14) rfl ?_
    exact ⟨_, _, Z5, by (with_reducible repeat (first | apply Kd.R_alloc | apply Kd.R_drewN | apply Kd.R_drew)); exact hP.out, by (with_reducible repeat (first | apply Kd.R_alloc | apply Kd.R_drewN | apply Kd.R_drew)); exact hQ.out, Z0⟩
 ·rw [if_neg c2] at H
  exact absurd H Z59

/-! ### roadbookref17_Parse: function 42 -/
def roadbookref17_Parse.j0 : Nat → ByteArray → Bool → Option ((List (S25)) × Int × Int)
 | 0, _, _ => none
 | k + 1, x0, ro => if ro = true then (some (([] : List (S25)), 0, 4)) else ((roadbookref17_get.f k x0).bind fun aT => (if aT.2.2.2.2.2.2.2.2.2.2.2.2.2.2.2.2.2.2.2.2.2.2.2.2.2.2 = 0 then (some ((([(⟨aT.1, aT.2.1, aT.2.2.1, aT.2.2.2.1, aT.2.2.2.2.1, aT.2.2.2.2.2.1, aT.2.2.2.2.2.2.1, aT.2.2.2.2.2.2.2.1, aT.2.2.2.2.2.2.2.2.1, aT.2.2.2.2.2.2.2.2.2.1, aT.2.2.2.2.2.2.2.2.2.2.1, aT.2.2.2.2.2.2.2.2.2.2.2.1, aT.2.2.2.2.2.2.2.2.2.2.2.2.1, aT.2.2.2.2.2.2.2.2.2.2.2.2.2.1, aT.2.2.2.2.2.2.2.2.2.2.2.2.2.2.1, aT.2.2.2.2.2.2.2.2.2.2.2.2.2.2.2.1, aT.2.2.2.2.2.2.2.2.2.2.2.2.2.2.2.2.1, aT.2.2.2.2.2.2.2.2.2.2.2.2.2.2.2.2.2.1, aT.2.2.2.2.2.2.2.2.2.2.2.2.2.2.2.2.2.2.1, aT.2.2.2.2.2.2.2.2.2.2.2.2.2.2.2.2.2.2.2.1, aT.2.2.2.2.2.2.2.2.2.2.2.2.2.2.2.2.2.2.2.2.1, aT.2.2.2.2.2.2.2.2.2.2.2.2.2.2.2.2.2.2.2.2.2.1, aT.2.2.2.2.2.2.2.2.2.2.2.2.2.2.2.2.2.2.2.2.2.2.1, aT.2.2.2.2.2.2.2.2.2.2.2.2.2.2.2.2.2.2.2.2.2.2.2.1, aT.2.2.2.2.2.2.2.2.2.2.2.2.2.2.2.2.2.2.2.2.2.2.2.2.1⟩ : S25)] : List (S25))), 0, 0)) else (some (([] : List (S25)), aT.2.2.2.2.2.2.2.2.2.2.2.2.2.2.2.2.2.2.2.2.2.2.2.2.2.1, aT.2.2.2.2.2.2.2.2.2.2.2.2.2.2.2.2.2.2.2.2.2.2.2.2.2.2))))
def roadbookref17_Parse.f (k : Nat) (a0 : ByteArray) : Option ((List (S25)) × Int × Int) := if (a0.size : Int) > 65535 then (some (([] : List (S25)), 65535, 10)) else (if (a0.size : Int) = 0 then (some (([] : List (S25)), 0, 2)) else (if 0 < (a0.size : Int) then (if (bt a0 0) < 1 then (roadbookref17_Parse.j0 k a0 true) else (roadbookref17_Parse.j0 k a0 (decide ((bt a0 0) > 4)))) else (none)))
theorem roadbookref17_Parse.mono_l : ∀ k, (∀ y0 y1, LeO (roadbookref17_Parse.j0 k y0 y1) (roadbookref17_Parse.j0 (k + 1) y0 y1))
 | 0 => fun _ _ r h => by simp [roadbookref17_Parse.j0] at h
 | k + 1 => by
  have ih0 := roadbookref17_Parse.mono_l k
  ·intro y0 y1
   unfold roadbookref17_Parse.j0
   repeat' first
   | (with_reducible exact ih0 _ _)
   | (with_reducible exact roadbookref17_get.mono _ _)
   | (with_reducible exact LeO.refl _)
   | (with_reducible exact LeO.none _)
   | (with_reducible refine LeO.ite ?_ ?_)
   | (with_reducible refine LeO.bind ?_ (fun _ => ?_))
   | exact ih0 _ _
   | exact roadbookref17_get.mono _ _
   | exact LeO.none _
   | refine LeO.ite ?_ ?_
   | refine LeO.bind ?_ (fun _ => ?_)
theorem roadbookref17_Parse.mono : ∀ a0 k, LeO (roadbookref17_Parse.f k a0) (roadbookref17_Parse.f (k + 1) a0) := by
 intro a0 k
 have ih0 := roadbookref17_Parse.mono_l k
 unfold roadbookref17_Parse.f
 repeat' first
   | (with_reducible exact ih0 _ _)
   | (with_reducible exact roadbookref17_get.mono _ _)
   | (with_reducible exact LeO.refl _)
   | (with_reducible exact LeO.none _)
   | (with_reducible refine LeO.ite ?_ ?_)
   | (with_reducible refine LeO.bind ?_ (fun _ => ?_))
   | exact ih0 _ _
   | exact roadbookref17_get.mono _ _
   | exact LeO.none _
   | refine LeO.ite ?_ ?_
   | refine LeO.bind ?_ (fun _ => ?_)

set_option maxHeartbeats 8000000 in
set_option maxRecDepth 100000 in
theorem roadbookref17_Parse.calls (k : Nat) (a0 : ByteArray) (r1 : List (S25)) (r2 : Int) (r3 : Int) (w : World) (h : roadbookref17_Parse.f k a0 = some (r1, r2, r3)) :
  Calls Try.prog 42 #[.string a0] w fun e w' => ∃ v0_ : Value, e = .returned (.tuple #[v0_, .int .i64 r2, .int .i64 r3]) ∧ Kd.N k25 25 w' w.heap.size (fun k_ => (w.heap.size ≤ k_)) v0_ r1 ∧ Below w.heap.size w w' := by
 have fn := Try.underlying25
 have HB := Aside0.mk (Below.refl w.heap.size w)
 have H : (if (a0.size : Int) > 65535 then (some (([] : List (S25)), 65535, 10)) else (if (a0.size : Int) = 0 then (some (([] : List (S25)), 0, 2)) else (if 0 < (a0.size : Int) then (if (bt a0 0) < 1 then (roadbookref17_Parse.j0 k a0 true) else (roadbookref17_Parse.j0 k a0 (decide ((bt a0 0) > 4)))) else (none)))) = some (r1, r2, r3) := h
 clear h
 by_cases c2 : (a0.size : Int) > 65535
 ·rw [if_pos c2] at H
  have eE : decide (65535 < (a0.size : Int)) = true := decide_eq_true c2
  have fo : decide (65535 < a0.size) = true := decide_eq_true Z34
  clear c2
  simp only [Option.some.injEq, Prod.mk.injEq] at H
  obtain ⟨rfl, rfl, rfl⟩ := H
  go_enter Try.func42, Try.ntmps42
  go_wp2_with (first | ((with_reducible refine Pre.gate_load 25 rfl ?_); (try (refine gate_guard Z22 ?_; dsimp only)); refine Pre.load_event rfl rfl rfl Z22 Z9 Try.underlying25 rfl Z14 ?_))
  go_ret3
  exact ⟨_, Z5, Z40, Z1⟩
 ·rw [if_neg c2] at H
  have eE : decide (65535 < (a0.size : Int)) = false := decide_eq_false c2
  have fo : decide (65535 < a0.size) = false := decide_eq_false Z34
  clear c2
  by_cases c3 : (a0.size : Int) = 0
  ·rw [if_pos c3] at H
   have fs : ((a0.size : Int) == 0) = true := beq_iff_eq.mpr c3
   have hR : ((a0.size : Int) != 0) = false := bne_eq_false_iff_eq.mpr c3
   clear c3
   simp only [Option.some.injEq, Prod.mk.injEq] at H
   obtain ⟨rfl, rfl, rfl⟩ := H
   go_enter Try.func42, Try.ntmps42
   go_wp2_with (first | ((with_reducible refine Pre.gate_load 25 rfl ?_); (try (refine gate_guard Z22 ?_; dsimp only)); refine Pre.load_event rfl rfl rfl Z22 Z9 Try.underlying25 rfl Z14 ?_))
   go_ret3
   exact ⟨_, Z5, Z40, Z1⟩
  ·rw [if_neg c3] at H
   have fs : ((a0.size : Int) == 0) = false := beq_eq_false_iff_ne.mpr c3
   have hR : ((a0.size : Int) != 0) = true := bne_iff_ne.mpr c3
   have ps := Aside0.mk H
   clear H
   go_enter Try.func42, Try.ntmps42
   go_upto_region 5 with (first | ((with_reducible refine Pre.gate_load 25 rfl ?_); (try (refine gate_guard Z22 ?_; dsimp only)); refine Pre.load_event rfl rfl rfl Z22 Z9 Try.underlying25 rfl Z14 ?_))
   go_cut [16] (fun iF wc => ∃ (kq : Nat) (hS : Bool), iF = .bool hS ∧ Aside0 (roadbookref17_Parse.j0 kq a0 hS = some (r1, r2, r3)) ∧ Aside0 (kq ≤ k) ∧ Aside0 (Below w.heap.size w wc))
   case first =>
    have H := ps.out
    clear ps
    by_cases c5 : 0 < (a0.size : Int)
    ·rw [if_pos c5] at H
     have fg : decide (0 < (a0.size : Int)) = true := decide_eq_true c5
     have im : decide (0 < a0.size) = true := decide_eq_true Z34
     clear c5
     (first | rw [fg] | (simp only [i64_w, i32_w]; rw [fg]) | skip)
     by_cases c7 : (bt a0 0) < 1
     ·rw [if_pos c7] at H
      have fz : decide ((bt a0 0) < 1) = true := decide_eq_true c7
      clear c7
      have H' := Aside0.mk H
      clear H
      have p6 : 0 ≤ (0 : Int) := Z34
      have q6 : 0 < a0.size := (by have : (0 : Int) < (a0.size : Int) := of_decide_eq_true Z6; omega)
      have hx6 : ∀ h : 0 < a0.size, ((a0[0]'h).toNat : Int) = bt a0 0 := bt_at a0 0
      clear p6
      have qi6 : (0 < (a0.size : Int)) = True := eq_true (of_decide_eq_true Z6)
      replace q6 := eq_true q6
      go_wp2_with (first | ((with_reducible refine Pre.gate_load 25 rfl ?_); (try (refine gate_guard Z22 ?_; dsimp only)); refine Pre.load_event rfl rfl rfl Z22 Z9 Try.underlying25 rfl Z14 ?_))
      go_meet
      case rel => exact ⟨_, (true), Z17, H', ⟨Z43⟩, ⟨Z1⟩⟩
     ·rw [if_neg c7] at H
      have fz : decide ((bt a0 0) < 1) = false := decide_eq_false c7
      clear c7
      have H' := Aside0.mk H
      clear H
      have p6 : 0 ≤ (0 : Int) := Z34
      have q6 : 0 < a0.size := (by have : (0 : Int) < (a0.size : Int) := of_decide_eq_true Z6; omega)
      have hx6 : ∀ h : 0 < a0.size, ((a0[0]'h).toNat : Int) = bt a0 0 := bt_at a0 0
      clear p6
      have qi6 : (0 < (a0.size : Int)) = True := eq_true (of_decide_eq_true Z6)
      replace q6 := eq_true q6
      have p8 : 0 ≤ (0 : Int) := Z34
      have q8 : 0 < a0.size := (by have : (0 : Int) < (a0.size : Int) := of_decide_eq_true Z6; omega)
      have hx8 : ∀ h : 0 < a0.size, ((a0[0]'h).toNat : Int) = bt a0 0 := bt_at a0 0
      clear p8
      have qi8 : (0 < (a0.size : Int)) = True := eq_true (of_decide_eq_true Z6)
      replace q8 := eq_true q8
      go_wp2_with (first | ((with_reducible refine Pre.gate_load 25 rfl ?_); (try (refine gate_guard Z22 ?_; dsimp only)); refine Pre.load_event rfl rfl rfl Z22 Z9 Try.underlying25 rfl Z14 ?_))
      go_meet
      case rel => exact ⟨_, (decide ((bt a0 0) > 4)), Z17, H', ⟨Z43⟩, ⟨Z1⟩⟩
    ·rw [if_neg c5] at H
     exact absurd H Z59
   case rest =>
    clear ps
    try clear c2
    try clear eE
    try clear fo
    try clear p2
    try clear c3
    try clear fs
    try clear hR
    try clear c4
    obtain ⟨kq, hS, rfl, HA, uF, HB⟩ := hcut
    cases kq with
    | zero => exact absurd HA.out (by simp [roadbookref17_Parse.j0])
    | succ kj3 =>
     have H := HA.out
     clear HA
     simp only [roadbookref17_Parse.j0] at H
     by_cases c9 : hS = true
     ·subst c9
      have H1 : (some (([] : List (S25)), 0, 4)) = some (r1, r2, r3) := by rw [if_pos rfl] at H; exact H
      clear H
      have H := H1
      clear H1
      simp only [Option.some.injEq, Prod.mk.injEq] at H
      obtain ⟨rfl, rfl, rfl⟩ := H
      go_wp2_with (first | ((with_reducible refine Pre.gate_load 25 rfl ?_); (try (refine gate_guard Z22 ?_; dsimp only)); refine Pre.load_event rfl rfl rfl Z22 Z9 Try.underlying25 rfl Z14 ?_))
      go_ret3
      exact ⟨_, Z5, Z40, Z1⟩
     ·replace c9 := Bool.eq_false_iff.mpr c9
      subst c9
      have H1 : ((roadbookref17_get.f kj3 a0).bind fun aT => (if aT.2.2.2.2.2.2.2.2.2.2.2.2.2.2.2.2.2.2.2.2.2.2.2.2.2.2 = 0 then (some ((([(⟨aT.1, aT.2.1, aT.2.2.1, aT.2.2.2.1, aT.2.2.2.2.1, aT.2.2.2.2.2.1, aT.2.2.2.2.2.2.1, aT.2.2.2.2.2.2.2.1, aT.2.2.2.2.2.2.2.2.1, aT.2.2.2.2.2.2.2.2.2.1, aT.2.2.2.2.2.2.2.2.2.2.1, aT.2.2.2.2.2.2.2.2.2.2.2.1, aT.2.2.2.2.2.2.2.2.2.2.2.2.1, aT.2.2.2.2.2.2.2.2.2.2.2.2.2.1, aT.2.2.2.2.2.2.2.2.2.2.2.2.2.2.1, aT.2.2.2.2.2.2.2.2.2.2.2.2.2.2.2.1, aT.2.2.2.2.2.2.2.2.2.2.2.2.2.2.2.2.1, aT.2.2.2.2.2.2.2.2.2.2.2.2.2.2.2.2.2.1, aT.2.2.2.2.2.2.2.2.2.2.2.2.2.2.2.2.2.2.1, aT.2.2.2.2.2.2.2.2.2.2.2.2.2.2.2.2.2.2.2.1, aT.2.2.2.2.2.2.2.2.2.2.2.2.2.2.2.2.2.2.2.2.1, aT.2.2.2.2.2.2.2.2.2.2.2.2.2.2.2.2.2.2.2.2.2.1, aT.2.2.2.2.2.2.2.2.2.2.2.2.2.2.2.2.2.2.2.2.2.2.1, aT.2.2.2.2.2.2.2.2.2.2.2.2.2.2.2.2.2.2.2.2.2.2.2.1, aT.2.2.2.2.2.2.2.2.2.2.2.2.2.2.2.2.2.2.2.2.2.2.2.2.1⟩ : S25)] : List (S25))), 0, 0)) else (some (([] : List (S25)), aT.2.2.2.2.2.2.2.2.2.2.2.2.2.2.2.2.2.2.2.2.2.2.2.2.2.1, aT.2.2.2.2.2.2.2.2.2.2.2.2.2.2.2.2.2.2.2.2.2.2.2.2.2.2)))) = some (r1, r2, r3) := by rw [if_neg (show ¬ (false = true) by decide)] at H; exact H
      clear H
      have H := H1
      clear H1
      replace H := Option.bind_eq_some_iff.mp H
      obtain ⟨⟨bB, aM, aX, aV, bi, aU, bp, aQ, ba, bk, bK, cj, bL, bP, bF, bO, cC, bE, bS, bZ, ca, ck, eI, dM, cb, hM, ex⟩, jf, H⟩ := H
      replace H : (if ex = 0 then (some ((([(⟨bB, aM, aX, aV, bi, aU, bp, aQ, ba, bk, bK, cj, bL, bP, bF, bO, cC, bE, bS, bZ, ca, ck, eI, dM, cb⟩ : S25)] : List (S25))), 0, 0)) else (some (([] : List (S25)), hM, ex))) = some (r1, r2, r3) := H
      have lA := Aside0.mk jf
      clear jf
      by_cases dK : ex = 0
      ·rw [if_pos dK] at H
       have eB : (ex == 0) = true := beq_iff_eq.mpr dK
       have fp : (ex != 0) = false := bne_eq_false_iff_eq.mpr dK
       clear dK
       obtain ⟨pt, hy133⟩ : ∃ y_ : List (S25), y_ = (([(⟨bB, aM, aX, aV, bi, aU, bp, aQ, ba, bk, bK, cj, bL, bP, bF, bO, cC, bE, bS, bZ, ca, ck, eI, dM, cb⟩ : S25)] : List (S25))) := ⟨_, rfl⟩
       replace H : (some (pt, 0, 0)) = some (r1, r2, r3) := by first | (rw [hy133]; with_reducible exact H) | (have H2_ := (Option.bind_some _ _).symm.trans H; rw [hy133]; with_reducible exact H2_) | (have H2_ := (Option.bind_some _ _).symm.trans H; with_reducible exact H2_) | with_reducible exact H | (rw [hy133]; exact H) | exact H
       have Ny133 := Aside0.mk hy133
       clear hy133
       simp only [Option.some.injEq, Prod.mk.injEq] at H
       obtain ⟨rfl, rfl, rfl⟩ := H
       go_wp2_with (first | ((with_reducible refine Pre.gate_load 25 rfl ?_); (try (refine gate_guard Z22 ?_; dsimp only)); refine Pre.load_event rfl rfl rfl Z22 Z9 Try.underlying25 rfl Z14 ?_) | ((with_reducible refine gate_callee (f := 70) rfl ?_); refine goesL_ (some 27) rfl rfl Try.func70 Z14 rfl #[.string a0] rfl Z4 ?_; (with_reducible refine (roadbookref17_get.calls kj3 a0 bB aM aX aV bi aU bp aQ ba bk bK cj bL bP bF bO cC bE bS bZ ca ck eI dM cb hM ex _ lA.out).mono ?_); rintro e po ⟨pu, pv, rfl, ho0, ho1, hb⟩; refine ⟨_, rfl, ?_⟩; have ek := Aside0.mk (Kd.R_lower (Kd.R_newM (M := fun k_ => (w.heap.size ≤ k_)) ho0 (below_size Z1) (fun k_ h_ => h_)) (below_size Z1)); have el := Aside0.mk (Kd.R_lower (Kd.R_newM (M := fun k_ => (w.heap.size ≤ k_)) ho1 (below_size Z1) (fun k_ h_ => h_)) (below_size Z1)); replace HB := Aside0.mk (below_step Z1 hb); clear hb ho0 ho1) | ((with_reducible refine gate_dst (N := 5) rfl ?_); refine Sq.box 5 #[.int .i64 0, .int .i64 0, .int .i64 0, .string ⟨#[]⟩, .int .i64 0, .int .i64 0, .string ⟨#[]⟩, .int .i64 0, .int .i64 0, .string ⟨#[]⟩, .int .i64 0, .string ⟨#[]⟩, .int .i64 0, .int .i64 0, .int .i64 0, .int .i64 0, .int .i64 0, .int .i64 0, .int .i64 0, .string ⟨#[]⟩, .string ⟨#[]⟩, .slice none 0 0, .int .i64 0, .string ⟨#[]⟩, .slice none 0 0] 25 ?_; intro eo hg jP hbox hb; have dw := Aside0.mk (hbox); have mK := Aside0.mk (Sq.ge hg Z1); have iI := Aside0.mk (Sq.ge hg Z1); replace ek := Aside0.mk (Kd.R_below Z81 hb); replace el := Aside0.mk (Kd.R_below Z79 hb); replace HB := Aside0.mk (below_step Z1 hb); clear hb hbox hg; have iC := cells_25 dw.out; obtain ⟨iN, iO, eo15⟩ := Kd.R_slice ek.out; subst eo15; obtain ⟨iP, iQ, eo16⟩ := Kd.R_slice el.out; subst eo16) | ((with_reducible refine Pre.gate_store 25 rfl ?_); refine Pre.store_abs (cur := #[.int .i64 0, .int .i64 0, .int .i64 0, .string ⟨#[]⟩, .int .i64 0, .int .i64 0, .string ⟨#[]⟩, .int .i64 0, .int .i64 0, .string ⟨#[]⟩, .int .i64 0, .string ⟨#[]⟩, .int .i64 0, .int .i64 0, .int .i64 0, .int .i64 0, .int .i64 0, .int .i64 0, .int .i64 0, .string ⟨#[]⟩, .string ⟨#[]⟩, .slice none 0 0, .int .i64 0, .string ⟨#[]⟩, .slice none 0 0]) (e := 25) rfl rfl rfl Z22 Z22 Z50 Z14 Z22 Z22 ?_; intro iE hbS_ sS_; have bl : Aside0 (Kd.R k46 46 iE w.heap.size (fun k_ => (w.heap.size ≤ k_)) (.slice iN ck.length iO) ck) := ⟨Kd.R_mono (Pre.R_sets sS_ (Kd.R_types ek.out dw.out Z27) (fun _ hk => hk.2)) (fun _ hk => hk.1.1)⟩; have bm : Aside0 (Kd.R k48 48 iE w.heap.size (fun k_ => (w.heap.size ≤ k_)) (.slice iP cb.length iQ) cb) := ⟨Kd.R_mono (Pre.R_sets sS_ (Kd.R_types el.out dw.out Z27) (fun _ hk => hk.2)) (fun _ hk => hk.1.1)⟩; have bI : Aside0 (iE.heap[eo]? = some (.cells #[.int .i64 bB, .int .i64 aM, .int .i64 aX, .string aV, .int .i64 bi, .int .i64 aU, .string bp, .int .i64 aQ, .int .i64 ba, .string bk, .int .i64 bK, .string cj, .int .i64 bL, .int .i64 bP, .int .i64 bF, .int .i64 bO, .int .i64 cC, .int .i64 bE, .int .i64 bS, .string bZ, .string ca, .slice iN ck.length iO, .int .i64 eI, .string dM, .slice iP cb.length iQ] 25 (0, 0))) := ⟨hbS_⟩; have dU : Aside0 (Below w.heap.size w iE) := ⟨sS_.below Z26 iI.out⟩; clear hbS_ sS_; replace ek := bl; replace el := bm; replace dw := bI; replace HB := dU; clear bl bm bI dU; have mL := cells_25 dw.out) | ((with_reducible refine gate_dst (N := 36) rfl ?_); refine Kd.N_lit k25 _ 25 ?hg (N' := 36) ?hd (xs := ([(⟨bB, aM, aX, aV, bi, aU, bp, aQ, ba, bk, bK, cj, bL, bP, bF, bO, cC, bE, bS, bZ, ca, ck, eI, dM, cb⟩ : S25)] : List (S25))) (inner := [.int .i64 bB, .int .i64 aM, .int .i64 aX, .string aV, .int .i64 bi, .int .i64 aU, .string bp, .int .i64 aQ, .int .i64 ba, .string bk, .int .i64 bK, .string cj, .int .i64 bL, .int .i64 bP, .int .i64 bF, .int .i64 bO, .int .i64 cC, .int .i64 bE, .int .i64 bS, .string bZ, .string ca, .slice iN ck.length iO, .int .i64 eI, .string dM, .slice iP cb.length iQ]) (ok := (fun k_ => (w.heap.size ≤ k_) ∧ k_ ≠ eo)) (okp := (fun k_ => (w.heap.size ≤ k_) ∧ k_ ≠ eo)) ?hr ?hp (fun _ hk => hk) ((show ∀ k_, iE.heap.size ≤ k_ → (fun k_ => (w.heap.size ≤ k_) ∧ k_ ≠ eo) k_ from fun k_ hk => ⟨(Nat.le_trans (below_size Z26) hk), Kd.freshB (g := eo) (o := .cells #[.int .i64 bB, .int .i64 aM, .int .i64 aX, .string aV, .int .i64 bi, .int .i64 aU, .string bp, .int .i64 aQ, .int .i64 ba, .string bk, .int .i64 bK, .string cj, .int .i64 bL, .int .i64 bP, .int .i64 bF, .int .i64 bO, .int .i64 cC, .int .i64 bE, .int .i64 bS, .string bZ, .string ca, .slice iN ck.length iO, .int .i64 eI, .string dM, .slice iP cb.length iQ] 25 (0, 0)) Z50 k_ hk⟩) _ (Nat.le_refl _)) (Below.refl _ _) (Nat.le_refl _) Z59 ?_; (case hd => rfl); (case hg => rfl); (case hr => first | (go_simp; done) | (go_simp; rfl)); (case hp => exact (Reps.front (show Kd.FK k25 _ _ (⟨bB, aM, aX, aV, bi, aU, bp, aQ, ba, bk, bK, cj, bL, bP, bF, bO, cC, bE, bS, bZ, ca, ck, eI, dM, cb⟩ : S25) [.int .i64 bB, .int .i64 aM, .int .i64 aX, .string aV, .int .i64 bi, .int .i64 aU, .string bp, .int .i64 aQ, .int .i64 ba, .string bk, .int .i64 bK, .string cj, .int .i64 bL, .int .i64 bP, .int .i64 bF, .int .i64 bO, .int .i64 cC, .int .i64 bE, .int .i64 bS, .string bZ, .string ca, .slice iN ck.length iO, .int .i64 eI, .string dM, .slice iP cb.length iQ] from (k25_mkF _ _ (⟨bB, aM, aX, aV, bi, aU, bp, aQ, ba, bk, bK, cj, bL, bP, bF, bO, cC, bE, bS, bZ, ca, ck, eI, dM, cb⟩ : S25) (Kd.R_reads' (Kd.R_mono (ok' := (fun k_ => (w.heap.size ≤ k_) ∧ k_ ≠ eo)) (Kd.R_types (ek.out) dw.out Z27) (fun k_ hk => ⟨hk.1, hk.2⟩))).2.1 (Kd.R_F (Kd.R_mono (ok' := (fun k_ => (w.heap.size ≤ k_) ∧ k_ ≠ eo)) (Kd.R_types (ek.out) dw.out Z27) (fun k_ hk => ⟨hk.1, hk.2⟩))) (Kd.R_reads' (Kd.R_mono (ok' := (fun k_ => (w.heap.size ≤ k_) ∧ k_ ≠ eo)) (Kd.R_types (el.out) dw.out Z27) (fun k_ hk => ⟨hk.1, hk.2⟩))).2.1 (Kd.R_F (Kd.R_mono (ok' := (fun k_ => (w.heap.size ≤ k_) ∧ k_ ≠ eo)) (Kd.R_types (el.out) dw.out Z27) (fun k_ hk => ⟨hk.1, hk.2⟩))))) rfl (Reps.none _ _) rfl)); intro tg me ho20 hb hg_ hnew_; clear hg_ hnew_; (first | rw [← Ny133.out] at ho20 | (simp only [Int.reduceToNat] at ho20; rw [← Ny133.out] at ho20)); clear ek; clear el; have oG := Aside0.mk (Kd.N_lower ho20 (below_size Z26)); replace dw := Aside0.mk (blk_below (g := eo) Z50 hb); replace HB := Aside0.mk (below_step Z26 hb); clear hb ho20))
       go_ret3
       exact ⟨_, Z5, Z108, Z26⟩
      ·rw [if_neg dK] at H
       have eB : (ex == 0) = false := beq_eq_false_iff_ne.mpr dK
       have fp : (ex != 0) = true := bne_iff_ne.mpr dK
       simp only [Option.some.injEq, Prod.mk.injEq] at H
       obtain ⟨rfl, rfl, rfl⟩ := H
       go_wp2_with (first | ((with_reducible refine Pre.gate_load 25 rfl ?_); (try (refine gate_guard Z22 ?_; dsimp only)); refine Pre.load_event rfl rfl rfl Z22 Z9 Try.underlying25 rfl Z14 ?_) | ((with_reducible refine gate_callee (f := 70) rfl ?_); refine goesL_ (some 27) rfl rfl Try.func70 Z14 rfl #[.string a0] rfl Z4 ?_; (with_reducible refine (roadbookref17_get.calls kj3 a0 bB aM aX aV bi aU bp aQ ba bk bK cj bL bP bF bO cC bE bS bZ ca ck eI dM cb hM ex _ lA.out).mono ?_); rintro e oB ⟨pu, pv, rfl, ho0, ho1, hb⟩; refine ⟨_, rfl, ?_⟩; have ek := Aside0.mk (Kd.R_lower (Kd.R_newM (M := fun k_ => (w.heap.size ≤ k_)) ho0 (below_size Z1) (fun k_ h_ => h_)) (below_size Z1)); have el := Aside0.mk (Kd.R_lower (Kd.R_newM (M := fun k_ => (w.heap.size ≤ k_)) ho1 (below_size Z1) (fun k_ h_ => h_)) (below_size Z1)); replace HB := Aside0.mk (below_step Z1 hb); clear hb ho0 ho1) | ((with_reducible refine gate_dst (N := 5) rfl ?_); refine Sq.box 5 #[.int .i64 0, .int .i64 0, .int .i64 0, .string ⟨#[]⟩, .int .i64 0, .int .i64 0, .string ⟨#[]⟩, .int .i64 0, .int .i64 0, .string ⟨#[]⟩, .int .i64 0, .string ⟨#[]⟩, .int .i64 0, .int .i64 0, .int .i64 0, .int .i64 0, .int .i64 0, .int .i64 0, .int .i64 0, .string ⟨#[]⟩, .string ⟨#[]⟩, .slice none 0 0, .int .i64 0, .string ⟨#[]⟩, .slice none 0 0] 25 ?_; intro eo hg nH hbox hb; have dw := Aside0.mk (hbox); have mK := Aside0.mk (Sq.ge hg Z1); have iI := Aside0.mk (Sq.ge hg Z1); replace ek := Aside0.mk (Kd.R_below Z81 hb); replace el := Aside0.mk (Kd.R_below Z79 hb); replace HB := Aside0.mk (below_step Z1 hb); clear hb hbox hg; have kG := cells_25 dw.out; obtain ⟨ix, iy, eo24⟩ := Kd.R_slice ek.out; subst eo24; obtain ⟨iz, iA, eo25⟩ := Kd.R_slice el.out; subst eo25) | ((with_reducible refine Pre.gate_store 25 rfl ?_); refine Pre.store_abs (cur := #[.int .i64 0, .int .i64 0, .int .i64 0, .string ⟨#[]⟩, .int .i64 0, .int .i64 0, .string ⟨#[]⟩, .int .i64 0, .int .i64 0, .string ⟨#[]⟩, .int .i64 0, .string ⟨#[]⟩, .int .i64 0, .int .i64 0, .int .i64 0, .int .i64 0, .int .i64 0, .int .i64 0, .int .i64 0, .string ⟨#[]⟩, .string ⟨#[]⟩, .slice none 0 0, .int .i64 0, .string ⟨#[]⟩, .slice none 0 0]) (e := 25) rfl rfl rfl Z22 Z22 Z50 Z14 Z22 Z22 ?_; intro iR hbS_ sS_; have bl : Aside0 (Kd.R k46 46 iR w.heap.size (fun k_ => (w.heap.size ≤ k_)) (.slice ix ck.length iy) ck) := ⟨Kd.R_mono (Pre.R_sets sS_ (Kd.R_types ek.out dw.out Z27) (fun _ hk => hk.2)) (fun _ hk => hk.1.1)⟩; have bm : Aside0 (Kd.R k48 48 iR w.heap.size (fun k_ => (w.heap.size ≤ k_)) (.slice iz cb.length iA) cb) := ⟨Kd.R_mono (Pre.R_sets sS_ (Kd.R_types el.out dw.out Z27) (fun _ hk => hk.2)) (fun _ hk => hk.1.1)⟩; have bI : Aside0 (iR.heap[eo]? = some (.cells #[.int .i64 bB, .int .i64 aM, .int .i64 aX, .string aV, .int .i64 bi, .int .i64 aU, .string bp, .int .i64 aQ, .int .i64 ba, .string bk, .int .i64 bK, .string cj, .int .i64 bL, .int .i64 bP, .int .i64 bF, .int .i64 bO, .int .i64 cC, .int .i64 bE, .int .i64 bS, .string bZ, .string ca, .slice ix ck.length iy, .int .i64 eI, .string dM, .slice iz cb.length iA] 25 (0, 0))) := ⟨hbS_⟩; have dU : Aside0 (Below w.heap.size w iR) := ⟨sS_.below Z26 iI.out⟩; clear hbS_ sS_; replace ek := bl; replace el := bm; replace dw := bI; replace HB := dU; clear bl bm bI dU))
       go_ret3
       exact ⟨_, Z5, Z40, Z26⟩

end Go.Proofs.Ytccjakjjaemmkaa.PAP
