-- Written by mp.py, a program of this work (wip/tools), out of the translation; Lean checks it.
import Derived.Test.YtccjakjjaemmkaaPABxZ
import Derived.Test.YtccjakjjaemmkaaPABxrerr
import Derived.Test.YtccjakjjaemmkaaPABxrerrGet
import Derived.Test.YtccjakjjaemmkaaPABxrrep
import Derived.Test.YtccjakjjaemmkaaPABxrrepGet
import Derived.Test.YtccjakjjaemmkaaPABxrreq
import Derived.Test.YtccjakjjaemmkaaPABxrreqGet
namespace Go.Proofs.Ytccjakjjaemmkaa.PAB
open Go.RowKit Go.Proofs.YtccjakjjaemmkaaW.PrintWords Go.Proofs.YtccjakjjaemmkaaW.PrintLast Go.Proofs.YtccjakjjaemmkaaW.PrintMore
attribute [local go_sem] max2_int min2_int max_two min_two max_three min_three max_four min_four   -- for this text's walks alone
set_option linter.unusedVariables false
set_option linter.unusedSimpArgs false

/-! ### aodv_get: function 69 -/
def aodv_get.f (k : Nat) (a0 : ByteArray) : Option (Int × Int × Int × ByteArray × Int × Int × ByteArray × Int × Int × ByteArray × Int × ByteArray × Int × Int × Int × Int × Int × Int × Int × ByteArray × ByteArray × (List (S46)) × Int × ByteArray × (List (S48)) × Int × Int) := if 0 < (a0.size : Int) then (if (bt a0 0) = 1 then ((rreq_Get.f k a0).bind fun aJ => (some (aJ.1, aJ.2.1, aJ.2.2.1, aJ.2.2.2.1, aJ.2.2.2.2.1, aJ.2.2.2.2.2.1, aJ.2.2.2.2.2.2.1, aJ.2.2.2.2.2.2.2.1, aJ.2.2.2.2.2.2.2.2.1, aJ.2.2.2.2.2.2.2.2.2.1, aJ.2.2.2.2.2.2.2.2.2.2.1, aJ.2.2.2.2.2.2.2.2.2.2.2.1, aJ.2.2.2.2.2.2.2.2.2.2.2.2.1, aJ.2.2.2.2.2.2.2.2.2.2.2.2.2.1, aJ.2.2.2.2.2.2.2.2.2.2.2.2.2.2.1, aJ.2.2.2.2.2.2.2.2.2.2.2.2.2.2.2.1, aJ.2.2.2.2.2.2.2.2.2.2.2.2.2.2.2.2.1, aJ.2.2.2.2.2.2.2.2.2.2.2.2.2.2.2.2.2.1, aJ.2.2.2.2.2.2.2.2.2.2.2.2.2.2.2.2.2.2.1, aJ.2.2.2.2.2.2.2.2.2.2.2.2.2.2.2.2.2.2.2.1, aJ.2.2.2.2.2.2.2.2.2.2.2.2.2.2.2.2.2.2.2.2.1, aJ.2.2.2.2.2.2.2.2.2.2.2.2.2.2.2.2.2.2.2.2.2.1, aJ.2.2.2.2.2.2.2.2.2.2.2.2.2.2.2.2.2.2.2.2.2.2.1, aJ.2.2.2.2.2.2.2.2.2.2.2.2.2.2.2.2.2.2.2.2.2.2.2.1, aJ.2.2.2.2.2.2.2.2.2.2.2.2.2.2.2.2.2.2.2.2.2.2.2.2.1, aJ.2.2.2.2.2.2.2.2.2.2.2.2.2.2.2.2.2.2.2.2.2.2.2.2.2.1, aJ.2.2.2.2.2.2.2.2.2.2.2.2.2.2.2.2.2.2.2.2.2.2.2.2.2.2))) else (if (bt a0 0) = 3 then ((rerr_Get.f k a0).bind fun aU => (some (aU.1, aU.2.1, aU.2.2.1, aU.2.2.2.1, aU.2.2.2.2.1, aU.2.2.2.2.2.1, aU.2.2.2.2.2.2.1, aU.2.2.2.2.2.2.2.1, aU.2.2.2.2.2.2.2.2.1, aU.2.2.2.2.2.2.2.2.2.1, aU.2.2.2.2.2.2.2.2.2.2.1, aU.2.2.2.2.2.2.2.2.2.2.2.1, aU.2.2.2.2.2.2.2.2.2.2.2.2.1, aU.2.2.2.2.2.2.2.2.2.2.2.2.2.1, aU.2.2.2.2.2.2.2.2.2.2.2.2.2.2.1, aU.2.2.2.2.2.2.2.2.2.2.2.2.2.2.2.1, aU.2.2.2.2.2.2.2.2.2.2.2.2.2.2.2.2.1, aU.2.2.2.2.2.2.2.2.2.2.2.2.2.2.2.2.2.1, aU.2.2.2.2.2.2.2.2.2.2.2.2.2.2.2.2.2.2.1, aU.2.2.2.2.2.2.2.2.2.2.2.2.2.2.2.2.2.2.2.1, aU.2.2.2.2.2.2.2.2.2.2.2.2.2.2.2.2.2.2.2.2.1, aU.2.2.2.2.2.2.2.2.2.2.2.2.2.2.2.2.2.2.2.2.2.1, aU.2.2.2.2.2.2.2.2.2.2.2.2.2.2.2.2.2.2.2.2.2.2.1, aU.2.2.2.2.2.2.2.2.2.2.2.2.2.2.2.2.2.2.2.2.2.2.2.1, aU.2.2.2.2.2.2.2.2.2.2.2.2.2.2.2.2.2.2.2.2.2.2.2.2.1, aU.2.2.2.2.2.2.2.2.2.2.2.2.2.2.2.2.2.2.2.2.2.2.2.2.2.1, aU.2.2.2.2.2.2.2.2.2.2.2.2.2.2.2.2.2.2.2.2.2.2.2.2.2.2))) else ((rrep_Get.f k a0).bind fun bo => (some (bo.1, bo.2.1, bo.2.2.1, bo.2.2.2.1, bo.2.2.2.2.1, bo.2.2.2.2.2.1, bo.2.2.2.2.2.2.1, bo.2.2.2.2.2.2.2.1, bo.2.2.2.2.2.2.2.2.1, bo.2.2.2.2.2.2.2.2.2.1, bo.2.2.2.2.2.2.2.2.2.2.1, bo.2.2.2.2.2.2.2.2.2.2.2.1, bo.2.2.2.2.2.2.2.2.2.2.2.2.1, bo.2.2.2.2.2.2.2.2.2.2.2.2.2.1, bo.2.2.2.2.2.2.2.2.2.2.2.2.2.2.1, bo.2.2.2.2.2.2.2.2.2.2.2.2.2.2.2.1, bo.2.2.2.2.2.2.2.2.2.2.2.2.2.2.2.2.1, bo.2.2.2.2.2.2.2.2.2.2.2.2.2.2.2.2.2.1, bo.2.2.2.2.2.2.2.2.2.2.2.2.2.2.2.2.2.2.1, bo.2.2.2.2.2.2.2.2.2.2.2.2.2.2.2.2.2.2.2.1, bo.2.2.2.2.2.2.2.2.2.2.2.2.2.2.2.2.2.2.2.2.1, bo.2.2.2.2.2.2.2.2.2.2.2.2.2.2.2.2.2.2.2.2.2.1, bo.2.2.2.2.2.2.2.2.2.2.2.2.2.2.2.2.2.2.2.2.2.2.1, bo.2.2.2.2.2.2.2.2.2.2.2.2.2.2.2.2.2.2.2.2.2.2.2.1, bo.2.2.2.2.2.2.2.2.2.2.2.2.2.2.2.2.2.2.2.2.2.2.2.2.1, bo.2.2.2.2.2.2.2.2.2.2.2.2.2.2.2.2.2.2.2.2.2.2.2.2.2.1, bo.2.2.2.2.2.2.2.2.2.2.2.2.2.2.2.2.2.2.2.2.2.2.2.2.2.2))))) else (none)
theorem aodv_get.mono : ∀ a0 k, LeO (aodv_get.f k a0) (aodv_get.f (k + 1) a0) := by
 intro a0 k
 unfold aodv_get.f
 have m0 := rerr_Get.mono
 have m1 := rrep_Get.mono
 have m2 := rreq_Get.mono
 exact Sq.mo
set_option maxHeartbeats 8000000 in
set_option maxRecDepth 100000 in
theorem aodv_get.calls (k : Nat) (a0 : ByteArray) (r1 : Int) (r2 : Int) (r3 : Int) (r4 : ByteArray) (r5 : Int) (r6 : Int) (r7 : ByteArray) (r8 : Int) (r9 : Int) (r10 : ByteArray) (r11 : Int) (r12 : ByteArray) (r13 : Int) (r14 : Int) (r15 : Int) (r16 : Int) (r17 : Int) (r18 : Int) (r19 : Int) (r20 : ByteArray) (r21 : ByteArray) (r22 : List (S46)) (r23 : Int) (r24 : ByteArray) (r25 : List (S48)) (r26 : Int) (r27 : Int) (w : World) (h : aodv_get.f k a0 = some (r1, r2, r3, r4, r5, r6, r7, r8, r9, r10, r11, r12, r13, r14, r15, r16, r17, r18, r19, r20, r21, r22, r23, r24, r25, r26, r27)) :
  Calls Try.prog 69 #[.string a0] w fun e w' => ∃ v21_ v24_ : Value, e = .returned (.tuple #[.agg #[.int .i64 r1, .int .i64 r2, .int .i64 r3, .string r4, .int .i64 r5, .int .i64 r6, .string r7, .int .i64 r8, .int .i64 r9, .string r10, .int .i64 r11, .string r12, .int .i64 r13, .int .i64 r14, .int .i64 r15, .int .i64 r16, .int .i64 r17, .int .i64 r18, .int .i64 r19, .string r20, .string r21, v21_, .int .i64 r23, .string r24, v24_], .int .i64 r26, .int .i64 r27]) ∧ Kd.R k46 46 w' w.heap.size (fun _ => True) v21_ r22 ∧ Kd.R k48 48 w' w.heap.size (fun _ => True) v24_ r25 ∧ Below w.heap.size w w' := by
 have fi := Try.underlying25
 have HB := Aside0.mk (Below.refl w.heap.size w)
 have H : (if 0 < (a0.size : Int) then (if (bt a0 0) = 1 then ((rreq_Get.f k a0).bind fun aJ => (some (aJ.1, aJ.2.1, aJ.2.2.1, aJ.2.2.2.1, aJ.2.2.2.2.1, aJ.2.2.2.2.2.1, aJ.2.2.2.2.2.2.1, aJ.2.2.2.2.2.2.2.1, aJ.2.2.2.2.2.2.2.2.1, aJ.2.2.2.2.2.2.2.2.2.1, aJ.2.2.2.2.2.2.2.2.2.2.1, aJ.2.2.2.2.2.2.2.2.2.2.2.1, aJ.2.2.2.2.2.2.2.2.2.2.2.2.1, aJ.2.2.2.2.2.2.2.2.2.2.2.2.2.1, aJ.2.2.2.2.2.2.2.2.2.2.2.2.2.2.1, aJ.2.2.2.2.2.2.2.2.2.2.2.2.2.2.2.1, aJ.2.2.2.2.2.2.2.2.2.2.2.2.2.2.2.2.1, aJ.2.2.2.2.2.2.2.2.2.2.2.2.2.2.2.2.2.1, aJ.2.2.2.2.2.2.2.2.2.2.2.2.2.2.2.2.2.2.1, aJ.2.2.2.2.2.2.2.2.2.2.2.2.2.2.2.2.2.2.2.1, aJ.2.2.2.2.2.2.2.2.2.2.2.2.2.2.2.2.2.2.2.2.1, aJ.2.2.2.2.2.2.2.2.2.2.2.2.2.2.2.2.2.2.2.2.2.1, aJ.2.2.2.2.2.2.2.2.2.2.2.2.2.2.2.2.2.2.2.2.2.2.1, aJ.2.2.2.2.2.2.2.2.2.2.2.2.2.2.2.2.2.2.2.2.2.2.2.1, aJ.2.2.2.2.2.2.2.2.2.2.2.2.2.2.2.2.2.2.2.2.2.2.2.2.1, aJ.2.2.2.2.2.2.2.2.2.2.2.2.2.2.2.2.2.2.2.2.2.2.2.2.2.1, aJ.2.2.2.2.2.2.2.2.2.2.2.2.2.2.2.2.2.2.2.2.2.2.2.2.2.2))) else (if (bt a0 0) = 3 then ((rerr_Get.f k a0).bind fun aU => (some (aU.1, aU.2.1, aU.2.2.1, aU.2.2.2.1, aU.2.2.2.2.1, aU.2.2.2.2.2.1, aU.2.2.2.2.2.2.1, aU.2.2.2.2.2.2.2.1, aU.2.2.2.2.2.2.2.2.1, aU.2.2.2.2.2.2.2.2.2.1, aU.2.2.2.2.2.2.2.2.2.2.1, aU.2.2.2.2.2.2.2.2.2.2.2.1, aU.2.2.2.2.2.2.2.2.2.2.2.2.1, aU.2.2.2.2.2.2.2.2.2.2.2.2.2.1, aU.2.2.2.2.2.2.2.2.2.2.2.2.2.2.1, aU.2.2.2.2.2.2.2.2.2.2.2.2.2.2.2.1, aU.2.2.2.2.2.2.2.2.2.2.2.2.2.2.2.2.1, aU.2.2.2.2.2.2.2.2.2.2.2.2.2.2.2.2.2.1, aU.2.2.2.2.2.2.2.2.2.2.2.2.2.2.2.2.2.2.1, aU.2.2.2.2.2.2.2.2.2.2.2.2.2.2.2.2.2.2.2.1, aU.2.2.2.2.2.2.2.2.2.2.2.2.2.2.2.2.2.2.2.2.1, aU.2.2.2.2.2.2.2.2.2.2.2.2.2.2.2.2.2.2.2.2.2.1, aU.2.2.2.2.2.2.2.2.2.2.2.2.2.2.2.2.2.2.2.2.2.2.1, aU.2.2.2.2.2.2.2.2.2.2.2.2.2.2.2.2.2.2.2.2.2.2.2.1, aU.2.2.2.2.2.2.2.2.2.2.2.2.2.2.2.2.2.2.2.2.2.2.2.2.1, aU.2.2.2.2.2.2.2.2.2.2.2.2.2.2.2.2.2.2.2.2.2.2.2.2.2.1, aU.2.2.2.2.2.2.2.2.2.2.2.2.2.2.2.2.2.2.2.2.2.2.2.2.2.2))) else ((rrep_Get.f k a0).bind fun bo => (some (bo.1, bo.2.1, bo.2.2.1, bo.2.2.2.1, bo.2.2.2.2.1, bo.2.2.2.2.2.1, bo.2.2.2.2.2.2.1, bo.2.2.2.2.2.2.2.1, bo.2.2.2.2.2.2.2.2.1, bo.2.2.2.2.2.2.2.2.2.1, bo.2.2.2.2.2.2.2.2.2.2.1, bo.2.2.2.2.2.2.2.2.2.2.2.1, bo.2.2.2.2.2.2.2.2.2.2.2.2.1, bo.2.2.2.2.2.2.2.2.2.2.2.2.2.1, bo.2.2.2.2.2.2.2.2.2.2.2.2.2.2.1, bo.2.2.2.2.2.2.2.2.2.2.2.2.2.2.2.1, bo.2.2.2.2.2.2.2.2.2.2.2.2.2.2.2.2.1, bo.2.2.2.2.2.2.2.2.2.2.2.2.2.2.2.2.2.1, bo.2.2.2.2.2.2.2.2.2.2.2.2.2.2.2.2.2.2.1, bo.2.2.2.2.2.2.2.2.2.2.2.2.2.2.2.2.2.2.2.1, bo.2.2.2.2.2.2.2.2.2.2.2.2.2.2.2.2.2.2.2.2.1, bo.2.2.2.2.2.2.2.2.2.2.2.2.2.2.2.2.2.2.2.2.2.1, bo.2.2.2.2.2.2.2.2.2.2.2.2.2.2.2.2.2.2.2.2.2.2.1, bo.2.2.2.2.2.2.2.2.2.2.2.2.2.2.2.2.2.2.2.2.2.2.2.1, bo.2.2.2.2.2.2.2.2.2.2.2.2.2.2.2.2.2.2.2.2.2.2.2.2.1, bo.2.2.2.2.2.2.2.2.2.2.2.2.2.2.2.2.2.2.2.2.2.2.2.2.2.1, bo.2.2.2.2.2.2.2.2.2.2.2.2.2.2.2.2.2.2.2.2.2.2.2.2.2.2))))) else (none)) = some (r1, r2, r3, r4, r5, r6, r7, r8, r9, r10, r11, r12, r13, r14, r15, r16, r17, r18, r19, r20, r21, r22, r23, r24, r25, r26, r27) := h
 clear h
 by_cases c2 : 0 < (a0.size : Int)
 ·rw [if_pos c2] at H
  have gj : decide (0 < (a0.size : Int)) = true := decide_eq_true c2
  have ig : decide (0 < a0.size) = true := decide_eq_true Z40
  clear c2
  by_cases c4 : (bt a0 0) = 1
  ·rw [if_pos c4] at H
   have dg : ((bt a0 0) == 1) = true := beq_iff_eq.mpr c4
   have gi : ((bt a0 0) != 1) = false := bne_eq_false_iff_eq.mpr c4
   clear c4
   replace H := Option.bind_eq_some_iff.mp H
   obtain ⟨⟨aM, aW, aY, bq, aT, cu, aV, bi, bl, cK, el, dy, cT, cn, cY, dZ, cv, cm, co, dc, dB, df, ej, de, ef, fb, hq⟩, jc, H⟩ := H
   replace H : (some (aM, aW, aY, bq, aT, cu, aV, bi, bl, cK, el, dy, cT, cn, cY, dZ, cv, cm, co, dc, dB, df, ej, de, ef, fb, hq)) = some (r1, r2, r3, r4, r5, r6, r7, r8, r9, r10, r11, r12, r13, r14, r15, r16, r17, r18, r19, r20, r21, r22, r23, r24, r25, r26, r27) := H
   have A5 := Aside0.mk jc
   clear jc
   simp only [Option.some.injEq, Prod.mk.injEq] at H
   obtain ⟨rfl, rfl, rfl, rfl, rfl, rfl, rfl, rfl, rfl, rfl, rfl, rfl, rfl, rfl, rfl, rfl, rfl, rfl, rfl, rfl, rfl, rfl, rfl, rfl, rfl, rfl, rfl⟩ := H
   go_enter Try.func69, Try.ntmps69
   go_wp2_with (first | ((with_reducible refine gate_dst (N := 2) rfl ?_); refine Sq.box 2 #[.int .i64 0, .int .i64 0, .int .i64 0, .string ⟨#[]⟩, .int .i64 0, .int .i64 0, .string ⟨#[]⟩, .int .i64 0, .int .i64 0, .string ⟨#[]⟩, .int .i64 0, .string ⟨#[]⟩, .int .i64 0, .int .i64 0, .int .i64 0, .int .i64 0, .int .i64 0, .int .i64 0, .int .i64 0, .string ⟨#[]⟩, .string ⟨#[]⟩, .slice none 0 0, .int .i64 0, .string ⟨#[]⟩, .slice none 0 0] 25 ?_; intro ag hg w6 hbox hb; have ae := Aside0.mk (hbox); have cp := Aside0.mk (Sq.ge hg Z1); have bm := Aside0.mk (Sq.ge hg Z1); replace HB := Aside0.mk (below_step Z1 hb); clear hb hbox hg; have p3 : 0 ≤ (0 : Int) := Z40; have q3 : 0 < a0.size := (by have : (0 : Int) < (a0.size : Int) := of_decide_eq_true Z6; omega); have hx3 : ∀ h : 0 < a0.size, ((a0[0]'h).toNat : Int) = bt a0 0 := bt_at a0 0; clear p3; have qi3 : (0 < (a0.size : Int)) = True := eq_true (of_decide_eq_true Z6); replace q3 := eq_true q3) | ((with_reducible refine gate_callee (f := 22) rfl ?_); refine goesL_ (some 10) rfl rfl Try.func22 Z14 rfl #[.string a0] rfl Z4 ?_; (with_reducible refine (rreq_Get.calls k a0 aM aW aY bq aT cu aV bi bl cK el dy cT cn cY dZ cv cm co dc dB df ej de ef fb hq _ A5.out).mono ?_); rintro e w7 ⟨qs, sy, rfl, ho0, ho1, hb⟩; refine ⟨_, rfl, ?_⟩; have fU := Aside0.mk (Kd.R_lower ho0 (below_size Z0)); have gO := Aside0.mk (Kd.R_lower ho1 (below_size Z0)); replace ae := Aside0.mk (blk_below (g := ag) Z2 hb); replace HB := Aside0.mk (below_step Z0 hb); clear hb ho0 ho1; have nX := cells_25 ae.out; obtain ⟨tE, tF, eo9⟩ := Kd.R_slice fU.out; subst eo9; obtain ⟨qt, qu, eo10⟩ := Kd.R_slice gO.out; subst eo10) | ((with_reducible refine Pre.gate_store 25 rfl ?_); refine Pre.store_abs (cur := #[.int .i64 0, .int .i64 0, .int .i64 0, .string ⟨#[]⟩, .int .i64 0, .int .i64 0, .string ⟨#[]⟩, .int .i64 0, .int .i64 0, .string ⟨#[]⟩, .int .i64 0, .string ⟨#[]⟩, .int .i64 0, .int .i64 0, .int .i64 0, .int .i64 0, .int .i64 0, .int .i64 0, .int .i64 0, .string ⟨#[]⟩, .string ⟨#[]⟩, .slice none 0 0, .int .i64 0, .string ⟨#[]⟩, .slice none 0 0]) (e := 25) rfl rfl rfl Z23 Z23 Z2 Z14 Z23 Z23 ?_; intro ln hbS_ sS_; have bY : Aside0 (Kd.R k46 46 ln w.heap.size (fun _ => True) (.slice tE df.length tF) df) := ⟨Kd.R_mono (Pre.R_sets sS_ (Kd.R_types fU.out ae.out Z29) (fun _ hk => hk.2)) (fun _ hk => trivial)⟩; have ca : Aside0 (Kd.R k48 48 ln w.heap.size (fun _ => True) (.slice qt ef.length qu) ef) := ⟨Kd.R_mono (Pre.R_sets sS_ (Kd.R_types gO.out ae.out Z29) (fun _ hk => hk.2)) (fun _ hk => trivial)⟩; have cZ : Aside0 (ln.heap[ag]? = some (.cells #[.int .i64 aM, .int .i64 aW, .int .i64 aY, .string bq, .int .i64 aT, .int .i64 cu, .string aV, .int .i64 bi, .int .i64 bl, .string cK, .int .i64 el, .string dy, .int .i64 cT, .int .i64 cn, .int .i64 cY, .int .i64 dZ, .int .i64 cv, .int .i64 cm, .int .i64 co, .string dc, .string dB, .slice tE df.length tF, .int .i64 ej, .string de, .slice qt ef.length qu] 25 (0, 0))) := ⟨hbS_⟩; have ex : Aside0 (Below w.heap.size w ln) := ⟨sS_.below Z0 bm.out⟩; clear hbS_ sS_; replace fU := bY; replace gO := ca; replace ae := cZ; replace HB := ex; clear bY ca cZ ex))
   refine bodyPost_ret (results_ctt rfl _ _ ag 25 _ (0, 0) _ rfl Z2 Try.underlying25 rfl Z14) rfl ?_
   exact ⟨_, _, Z5, Z87, by (with_reducible repeat (first | apply Kd.R_alloc | apply Kd.R_drewN | apply Kd.R_drew)); exact gO.out, Z0⟩
  ·rw [if_neg c4] at H
   have dg : ((bt a0 0) == 1) = false := beq_eq_false_iff_ne.mpr c4
   have gi : ((bt a0 0) != 1) = true := bne_iff_ne.mpr c4
   by_cases fR : (bt a0 0) = 3
   ·rw [if_pos fR] at H
    have hG : ((bt a0 0) == 3) = true := beq_iff_eq.mpr fR
    have np : ((bt a0 0) != 3) = false := bne_eq_false_iff_eq.mpr fR
    clear fR
    replace H := Option.bind_eq_some_iff.mp H
    obtain ⟨⟨dX, gl, fh, hN, hO, ii, ij, ik, il, im, lp, io, ip, iq, ir, ob, fq, iu, iv, iw, ix, fN, iy, iz, gn, iA, iB⟩, lq, H⟩ := H
    replace H : (some (dX, gl, fh, hN, hO, ii, ij, ik, il, im, lp, io, ip, iq, ir, ob, fq, iu, iv, iw, ix, fN, iy, iz, gn, iA, iB)) = some (r1, r2, r3, r4, r5, r6, r7, r8, r9, r10, r11, r12, r13, r14, r15, r16, r17, r18, r19, r20, r21, r22, r23, r24, r25, r26, r27) := H
    have sz := Aside0.mk lq
    clear lq
    simp only [Option.some.injEq, Prod.mk.injEq] at H
    obtain ⟨rfl, rfl, rfl, rfl, rfl, rfl, rfl, rfl, rfl, rfl, rfl, rfl, rfl, rfl, rfl, rfl, rfl, rfl, rfl, rfl, rfl, rfl, rfl, rfl, rfl, rfl, rfl⟩ := H
    go_enter Try.func69, Try.ntmps69
    go_wp2_with (first | ((with_reducible refine gate_dst (N := 2) rfl ?_); refine Sq.box 2 #[.int .i64 0, .int .i64 0, .int .i64 0, .string ⟨#[]⟩, .int .i64 0, .int .i64 0, .string ⟨#[]⟩, .int .i64 0, .int .i64 0, .string ⟨#[]⟩, .int .i64 0, .string ⟨#[]⟩, .int .i64 0, .int .i64 0, .int .i64 0, .int .i64 0, .int .i64 0, .int .i64 0, .int .i64 0, .string ⟨#[]⟩, .string ⟨#[]⟩, .slice none 0 0, .int .i64 0, .string ⟨#[]⟩, .slice none 0 0] 25 ?_; intro ag hg lr hbox hb; have ae := Aside0.mk (hbox); have cp := Aside0.mk (Sq.ge hg Z1); have bm := Aside0.mk (Sq.ge hg Z1); replace HB := Aside0.mk (below_step Z1 hb); clear hb hbox hg; have p3 : 0 ≤ (0 : Int) := Z40; have q3 : 0 < a0.size := (by have : (0 : Int) < (a0.size : Int) := of_decide_eq_true Z6; omega); have hx3 : ∀ h : 0 < a0.size, ((a0[0]'h).toNat : Int) = bt a0 0 := bt_at a0 0; clear p3; have qi3 : (0 < (a0.size : Int)) = True := eq_true (of_decide_eq_true Z6); replace q3 := eq_true q3) | ((with_reducible refine gate_callee (f := 30) rfl ?_); refine goesL_ (some 17) rfl rfl Try.func30 Z14 rfl #[.string a0] rfl Z4 ?_; (with_reducible refine (rerr_Get.calls k a0 dX gl fh hN hO ii ij ik il im lp io ip iq ir ob fq iu iv iw ix fN iy iz gn iA iB _ sz.out).mono ?_); rintro e rR ⟨v155, v160, rfl, ho0, ho1, hb⟩; refine ⟨_, rfl, ?_⟩; have kf := Aside0.mk (Kd.R_lower ho0 (below_size Z0)); have kg := Aside0.mk (Kd.R_lower ho1 (below_size Z0)); replace ae := Aside0.mk (blk_below (g := ag) Z2 hb); replace HB := Aside0.mk (below_step Z0 hb); clear hb ho0 ho1; have jn := cells_25 ae.out; obtain ⟨qv, qw, eo17⟩ := Kd.R_slice kf.out; subst eo17; obtain ⟨qx, qy, eo18⟩ := Kd.R_slice kg.out; subst eo18) | ((with_reducible refine Pre.gate_store 25 rfl ?_); refine Pre.store_abs (cur := #[.int .i64 0, .int .i64 0, .int .i64 0, .string ⟨#[]⟩, .int .i64 0, .int .i64 0, .string ⟨#[]⟩, .int .i64 0, .int .i64 0, .string ⟨#[]⟩, .int .i64 0, .string ⟨#[]⟩, .int .i64 0, .int .i64 0, .int .i64 0, .int .i64 0, .int .i64 0, .int .i64 0, .int .i64 0, .string ⟨#[]⟩, .string ⟨#[]⟩, .slice none 0 0, .int .i64 0, .string ⟨#[]⟩, .slice none 0 0]) (e := 25) rfl rfl rfl Z23 Z23 Z2 Z14 Z23 Z23 ?_; intro oP hbS_ sS_; have bY : Aside0 (Kd.R k46 46 oP w.heap.size (fun _ => True) (.slice qv fN.length qw) fN) := ⟨Kd.R_mono (Pre.R_sets sS_ (Kd.R_types kf.out ae.out Z29) (fun _ hk => hk.2)) (fun _ hk => trivial)⟩; have ca : Aside0 (Kd.R k48 48 oP w.heap.size (fun _ => True) (.slice qx gn.length qy) gn) := ⟨Kd.R_mono (Pre.R_sets sS_ (Kd.R_types kg.out ae.out Z29) (fun _ hk => hk.2)) (fun _ hk => trivial)⟩; have cZ : Aside0 (oP.heap[ag]? = some (.cells #[.int .i64 dX, .int .i64 gl, .int .i64 fh, .string hN, .int .i64 hO, .int .i64 ii, .string ij, .int .i64 ik, .int .i64 il, .string im, .int .i64 lp, .string io, .int .i64 ip, .int .i64 iq, .int .i64 ir, .int .i64 ob, .int .i64 fq, .int .i64 iu, .int .i64 iv, .string iw, .string ix, .slice qv fN.length qw, .int .i64 iy, .string iz, .slice qx gn.length qy] 25 (0, 0))) := ⟨hbS_⟩; have ex : Aside0 (Below w.heap.size w oP) := ⟨sS_.below Z0 bm.out⟩; clear hbS_ sS_; replace kf := bY; replace kg := ca; replace ae := cZ; replace HB := ex; clear bY ca cZ ex))
    refine bodyPost_ret (results_ctt rfl _ _ ag 25 _ (0, 0) _ rfl Z2 Try.underlying25 rfl Z14) rfl ?_
    exact ⟨_, _, Z5, by (with_reducible repeat (first | apply Kd.R_alloc | apply Kd.R_drewN | apply Kd.R_drew)); exact kf.out, by (with_reducible repeat (first | apply Kd.R_alloc | apply Kd.R_drewN | apply Kd.R_drew)); exact kg.out, Z0⟩
   ·rw [if_neg fR] at H
    have hG : ((bt a0 0) == 3) = false := beq_eq_false_iff_ne.mpr fR
    have np : ((bt a0 0) != 3) = true := bne_iff_ne.mpr fR
    replace H := Option.bind_eq_some_iff.mp H
    obtain ⟨⟨iC, ls, lu, lv, lw, oc, od, oe, og, oh, oi, oj, ol, om, oo, oq, ot, ou, ov, ow, ox, lx, oy, oz, ly, qz, qA⟩, jq, H⟩ := H
    replace H : (some (iC, ls, lu, lv, lw, oc, od, oe, og, oh, oi, oj, ol, om, oo, oq, ot, ou, ov, ow, ox, lx, oy, oz, ly, qz, qA)) = some (r1, r2, r3, r4, r5, r6, r7, r8, r9, r10, r11, r12, r13, r14, r15, r16, r17, r18, r19, r20, r21, r22, r23, r24, r25, r26, r27) := H
    have gb := Aside0.mk jq
    clear jq
    simp only [Option.some.injEq, Prod.mk.injEq] at H
    obtain ⟨rfl, rfl, rfl, rfl, rfl, rfl, rfl, rfl, rfl, rfl, rfl, rfl, rfl, rfl, rfl, rfl, rfl, rfl, rfl, rfl, rfl, rfl, rfl, rfl, rfl, rfl, rfl⟩ := H
    go_enter Try.func69, Try.ntmps69
    go_wp2_with (first | ((with_reducible refine gate_dst (N := 2) rfl ?_); refine Sq.box 2 #[.int .i64 0, .int .i64 0, .int .i64 0, .string ⟨#[]⟩, .int .i64 0, .int .i64 0, .string ⟨#[]⟩, .int .i64 0, .int .i64 0, .string ⟨#[]⟩, .int .i64 0, .string ⟨#[]⟩, .int .i64 0, .int .i64 0, .int .i64 0, .int .i64 0, .int .i64 0, .int .i64 0, .int .i64 0, .string ⟨#[]⟩, .string ⟨#[]⟩, .slice none 0 0, .int .i64 0, .string ⟨#[]⟩, .slice none 0 0] 25 ?_; intro ag hg oN hbox hb; have ae := Aside0.mk (hbox); have cp := Aside0.mk (Sq.ge hg Z1); have bm := Aside0.mk (Sq.ge hg Z1); replace HB := Aside0.mk (below_step Z1 hb); clear hb hbox hg; have p3 : 0 ≤ (0 : Int) := Z40; have q3 : 0 < a0.size := (by have : (0 : Int) < (a0.size : Int) := of_decide_eq_true Z6; omega); have hx3 : ∀ h : 0 < a0.size, ((a0[0]'h).toNat : Int) = bt a0 0 := bt_at a0 0; clear p3; have qi3 : (0 < (a0.size : Int)) = True := eq_true (of_decide_eq_true Z6); replace q3 := eq_true q3) | ((with_reducible refine gate_callee (f := 38) rfl ?_); refine goesL_ (some 22) rfl rfl Try.func38 Z14 rfl #[.string a0] rfl Z4 ?_; (with_reducible refine (rrep_Get.calls k a0 iC ls lu lv lw oc od oe og oh oi oj ol om oo oq ot ou ov ow ox lx oy oz ly qz qA _ gb.out).mono ?_); rintro e mN ⟨v186, v191, rfl, ho0, ho1, hb⟩; refine ⟨_, rfl, ?_⟩; have kh := Aside0.mk (Kd.R_lower ho0 (below_size Z0)); have ki := Aside0.mk (Kd.R_lower ho1 (below_size Z0)); replace ae := Aside0.mk (blk_below (g := ag) Z2 hb); replace HB := Aside0.mk (below_step Z0 hb); clear hb ho0 ho1; have lj := cells_25 ae.out; obtain ⟨lz, lA, eo24⟩ := Kd.R_slice kh.out; subst eo24; obtain ⟨lB, lC, eo25⟩ := Kd.R_slice ki.out; subst eo25) | ((with_reducible refine Pre.gate_store 25 rfl ?_); refine Pre.store_abs (cur := #[.int .i64 0, .int .i64 0, .int .i64 0, .string ⟨#[]⟩, .int .i64 0, .int .i64 0, .string ⟨#[]⟩, .int .i64 0, .int .i64 0, .string ⟨#[]⟩, .int .i64 0, .string ⟨#[]⟩, .int .i64 0, .int .i64 0, .int .i64 0, .int .i64 0, .int .i64 0, .int .i64 0, .int .i64 0, .string ⟨#[]⟩, .string ⟨#[]⟩, .slice none 0 0, .int .i64 0, .string ⟨#[]⟩, .slice none 0 0]) (e := 25) rfl rfl rfl Z23 Z23 Z2 Z14 Z23 Z23 ?_; intro jM hbS_ sS_; have bY : Aside0 (Kd.R k46 46 jM w.heap.size (fun _ => True) (.slice lz lx.length lA) lx) := ⟨Kd.R_mono (Pre.R_sets sS_ (Kd.R_types kh.out ae.out Z29) (fun _ hk => hk.2)) (fun _ hk => trivial)⟩; have ca : Aside0 (Kd.R k48 48 jM w.heap.size (fun _ => True) (.slice lB ly.length lC) ly) := ⟨Kd.R_mono (Pre.R_sets sS_ (Kd.R_types ki.out ae.out Z29) (fun _ hk => hk.2)) (fun _ hk => trivial)⟩; have cZ : Aside0 (jM.heap[ag]? = some (.cells #[.int .i64 iC, .int .i64 ls, .int .i64 lu, .string lv, .int .i64 lw, .int .i64 oc, .string od, .int .i64 oe, .int .i64 og, .string oh, .int .i64 oi, .string oj, .int .i64 ol, .int .i64 om, .int .i64 oo, .int .i64 oq, .int .i64 ot, .int .i64 ou, .int .i64 ov, .string ow, .string ox, .slice lz lx.length lA, .int .i64 oy, .string oz, .slice lB ly.length lC] 25 (0, 0))) := ⟨hbS_⟩; have ex : Aside0 (Below w.heap.size w jM) := ⟨sS_.below Z0 bm.out⟩; clear hbS_ sS_; replace kh := bY; replace ki := ca; replace ae := cZ; replace HB := ex; clear bY ca cZ ex))
    refine bodyPost_ret (results_ctt rfl _ _ ag 25 _ (0, 0) _ rfl Z2 Try.underlying25 rfl Z14) rfl ?_
    exact ⟨_, _, Z5, by (with_reducible repeat (first | apply Kd.R_alloc | apply Kd.R_drewN | apply Kd.R_drew)); exact kh.out, by (with_reducible repeat (first | apply Kd.R_alloc | apply Kd.R_drewN | apply Kd.R_drew)); exact ki.out, Z0⟩
 ·rw [if_neg c2] at H
  exact absurd H Z71

/-! ### aodv_Parse: function 41 -/
def aodv_Parse.j0 : Nat → ByteArray → Bool → Option ((List (S25)) × Int × Int)
 | 0, _, _ => none
 | k + 1, x0, uj => if uj = true then (some (([] : List (S25)), 0, 4)) else ((aodv_get.f k x0).bind fun bk => (if bk.2.2.2.2.2.2.2.2.2.2.2.2.2.2.2.2.2.2.2.2.2.2.2.2.2.2 = 0 then (some ((([(⟨bk.1, bk.2.1, bk.2.2.1, bk.2.2.2.1, bk.2.2.2.2.1, bk.2.2.2.2.2.1, bk.2.2.2.2.2.2.1, bk.2.2.2.2.2.2.2.1, bk.2.2.2.2.2.2.2.2.1, bk.2.2.2.2.2.2.2.2.2.1, bk.2.2.2.2.2.2.2.2.2.2.1, bk.2.2.2.2.2.2.2.2.2.2.2.1, bk.2.2.2.2.2.2.2.2.2.2.2.2.1, bk.2.2.2.2.2.2.2.2.2.2.2.2.2.1, bk.2.2.2.2.2.2.2.2.2.2.2.2.2.2.1, bk.2.2.2.2.2.2.2.2.2.2.2.2.2.2.2.1, bk.2.2.2.2.2.2.2.2.2.2.2.2.2.2.2.2.1, bk.2.2.2.2.2.2.2.2.2.2.2.2.2.2.2.2.2.1, bk.2.2.2.2.2.2.2.2.2.2.2.2.2.2.2.2.2.2.1, bk.2.2.2.2.2.2.2.2.2.2.2.2.2.2.2.2.2.2.2.1, bk.2.2.2.2.2.2.2.2.2.2.2.2.2.2.2.2.2.2.2.2.1, bk.2.2.2.2.2.2.2.2.2.2.2.2.2.2.2.2.2.2.2.2.2.1, bk.2.2.2.2.2.2.2.2.2.2.2.2.2.2.2.2.2.2.2.2.2.2.1, bk.2.2.2.2.2.2.2.2.2.2.2.2.2.2.2.2.2.2.2.2.2.2.2.1, bk.2.2.2.2.2.2.2.2.2.2.2.2.2.2.2.2.2.2.2.2.2.2.2.2.1⟩ : S25)] : List (S25))), 0, 0)) else (some (([] : List (S25)), bk.2.2.2.2.2.2.2.2.2.2.2.2.2.2.2.2.2.2.2.2.2.2.2.2.2.1, bk.2.2.2.2.2.2.2.2.2.2.2.2.2.2.2.2.2.2.2.2.2.2.2.2.2.2))))
def aodv_Parse.f (k : Nat) (a0 : ByteArray) : Option ((List (S25)) × Int × Int) := if (a0.size : Int) > 65535 then (some (([] : List (S25)), 65535, 10)) else (if (a0.size : Int) = 0 then (some (([] : List (S25)), 0, 2)) else (if 0 < (a0.size : Int) then (if (bt a0 0) < 1 then (aodv_Parse.j0 k a0 true) else (aodv_Parse.j0 k a0 (decide ((bt a0 0) > 4)))) else (none)))
theorem aodv_Parse.mono_l : ∀ k, (∀ y0 y1, LeO (aodv_Parse.j0 k y0 y1) (aodv_Parse.j0 (k + 1) y0 y1))
 | 0 => Sq.mz
 | k + 1 => by
  have ih0 := aodv_Parse.mono_l k
  ·intros
   unfold aodv_Parse.j0
   have m0 := aodv_get.mono
   exact Sq.mo
theorem aodv_Parse.mono : ∀ a0 k, LeO (aodv_Parse.f k a0) (aodv_Parse.f (k + 1) a0) := by
 intro a0 k
 have ih0 := aodv_Parse.mono_l k
 unfold aodv_Parse.f
 have m0 := aodv_get.mono
 exact Sq.mo

set_option maxHeartbeats 8000000 in
set_option maxRecDepth 100000 in
theorem aodv_Parse.calls (k : Nat) (a0 : ByteArray) (r1 : List (S25)) (r2 : Int) (r3 : Int) (w : World) (h : aodv_Parse.f k a0 = some (r1, r2, r3)) :
  Calls Try.prog 41 #[.string a0] w fun e w' => ∃ v0_ : Value, e = .returned (.tuple #[v0_, .int .i64 r2, .int .i64 r3]) ∧ Kd.N k25 25 w' w.heap.size (fun k_ => (w.heap.size ≤ k_)) v0_ r1 ∧ Below w.heap.size w w' := by
 have fi := Try.underlying25
 have HB := Aside0.mk (Below.refl w.heap.size w)
 have H : (if (a0.size : Int) > 65535 then (some (([] : List (S25)), 65535, 10)) else (if (a0.size : Int) = 0 then (some (([] : List (S25)), 0, 2)) else (if 0 < (a0.size : Int) then (if (bt a0 0) < 1 then (aodv_Parse.j0 k a0 true) else (aodv_Parse.j0 k a0 (decide ((bt a0 0) > 4)))) else (none)))) = some (r1, r2, r3) := h
 clear h
 by_cases c2 : (a0.size : Int) > 65535
 ·rw [if_pos c2] at H
  have gj : decide (65535 < (a0.size : Int)) = true := decide_eq_true c2
  have ig : decide (65535 < a0.size) = true := decide_eq_true Z40
  clear c2
  simp only [Option.some.injEq, Prod.mk.injEq] at H
  obtain ⟨rfl, rfl, rfl⟩ := H
  go_enter Try.func41, Try.ntmps41
  go_wp2_with (first | ((with_reducible refine Pre.gate_load 25 rfl ?_); (try (refine gate_guard Z23 ?_; dsimp only)); refine Pre.load_event rfl rfl rfl Z23 Z17 Try.underlying25 rfl Z14 ?_))
  go_ret3
  exact ⟨_, Z5, Z68, Z1⟩
 ·rw [if_neg c2] at H
  have gj : decide (65535 < (a0.size : Int)) = false := decide_eq_false c2
  have ig : decide (65535 < a0.size) = false := decide_eq_false Z40
  clear c2
  by_cases c3 : (a0.size : Int) = 0
  ·rw [if_pos c3] at H
   have fZ : ((a0.size : Int) == 0) = true := beq_iff_eq.mpr c3
   have hT : ((a0.size : Int) != 0) = false := bne_eq_false_iff_eq.mpr c3
   clear c3
   simp only [Option.some.injEq, Prod.mk.injEq] at H
   obtain ⟨rfl, rfl, rfl⟩ := H
   go_enter Try.func41, Try.ntmps41
   go_wp2_with (first | ((with_reducible refine Pre.gate_load 25 rfl ?_); (try (refine gate_guard Z23 ?_; dsimp only)); refine Pre.load_event rfl rfl rfl Z23 Z17 Try.underlying25 rfl Z14 ?_))
   go_ret3
   exact ⟨_, Z5, Z68, Z1⟩
  ·rw [if_neg c3] at H
   have fZ : ((a0.size : Int) == 0) = false := beq_eq_false_iff_ne.mpr c3
   have hT : ((a0.size : Int) != 0) = true := bne_iff_ne.mpr c3
   have sA := Aside0.mk H
   clear H
   go_enter Try.func41, Try.ntmps41
   go_upto_region 5 with (first | ((with_reducible refine Pre.gate_load 25 rfl ?_); (try (refine gate_guard Z23 ?_; dsimp only)); refine Pre.load_event rfl rfl rfl Z23 Z17 Try.underlying25 rfl Z14 ?_))
   go_cut [16] (fun jE wc => ∃ (kq : Nat) (kj : Bool), jE = .bool kj ∧ Aside0 (aodv_Parse.j0 kq a0 kj = some (r1, r2, r3)) ∧ Aside0 (kq ≤ k) ∧ Aside0 (Below w.heap.size w wc))
   case first =>
    have H := sA.out
    clear sA
    by_cases c5 : 0 < (a0.size : Int)
    ·rw [if_pos c5] at H
     have fM : decide (0 < (a0.size : Int)) = true := decide_eq_true c5
     have ib : decide (0 < a0.size) = true := decide_eq_true Z40
     clear c5
     (first | rw [fM] | (simp only [i64_w, i32_w]; rw [fM]) | skip)
     by_cases c7 : (bt a0 0) < 1
     ·rw [if_pos c7] at H
      have fp : decide ((bt a0 0) < 1) = true := decide_eq_true c7
      clear c7
      have H' := Aside0.mk H
      clear H
      have p6 : 0 ≤ (0 : Int) := Z40
      have q6 : 0 < a0.size := (by have : (0 : Int) < (a0.size : Int) := of_decide_eq_true Z6; omega)
      have hx6 : ∀ h : 0 < a0.size, ((a0[0]'h).toNat : Int) = bt a0 0 := bt_at a0 0
      clear p6
      have qi6 : (0 < (a0.size : Int)) = True := eq_true (of_decide_eq_true Z6)
      replace q6 := eq_true q6
      go_wp2_with (first | ((with_reducible refine Pre.gate_load 25 rfl ?_); (try (refine gate_guard Z23 ?_; dsimp only)); refine Pre.load_event rfl rfl rfl Z23 Z17 Try.underlying25 rfl Z14 ?_))
      go_meet
      case rel => exact ⟨_, (true), Z16, H', ⟨Z39⟩, ⟨Z1⟩⟩
     ·rw [if_neg c7] at H
      have fp : decide ((bt a0 0) < 1) = false := decide_eq_false c7
      clear c7
      have H' := Aside0.mk H
      clear H
      have p6 : 0 ≤ (0 : Int) := Z40
      have q6 : 0 < a0.size := (by have : (0 : Int) < (a0.size : Int) := of_decide_eq_true Z6; omega)
      have hx6 : ∀ h : 0 < a0.size, ((a0[0]'h).toNat : Int) = bt a0 0 := bt_at a0 0
      clear p6
      have qi6 : (0 < (a0.size : Int)) = True := eq_true (of_decide_eq_true Z6)
      replace q6 := eq_true q6
      have p8 : 0 ≤ (0 : Int) := Z40
      have q8 : 0 < a0.size := (by have : (0 : Int) < (a0.size : Int) := of_decide_eq_true Z6; omega)
      have hx8 : ∀ h : 0 < a0.size, ((a0[0]'h).toNat : Int) = bt a0 0 := bt_at a0 0
      clear p8
      have qi8 : (0 < (a0.size : Int)) = True := eq_true (of_decide_eq_true Z6)
      replace q8 := eq_true q8
      go_wp2_with (first | ((with_reducible refine Pre.gate_load 25 rfl ?_); (try (refine gate_guard Z23 ?_; dsimp only)); refine Pre.load_event rfl rfl rfl Z23 Z17 Try.underlying25 rfl Z14 ?_))
      go_meet
      case rel => exact ⟨_, (decide ((bt a0 0) > 4)), Z16, H', ⟨Z39⟩, ⟨Z1⟩⟩
    ·rw [if_neg c5] at H
     exact absurd H Z71
   case rest =>
    clear sA
    try clear c2
    try clear gj
    try clear ig
    try clear p2
    try clear c3
    try clear fZ
    try clear hT
    try clear c4
    obtain ⟨kq, kj, rfl, HA, HJ3, HB⟩ := hcut
    cases kq with
    | zero => exact absurd HA.out (by simp [aodv_Parse.j0])
    | succ kj3 =>
     have H := HA.out
     clear HA
     simp only [aodv_Parse.j0] at H
     by_cases c9 : kj = true
     ·subst c9
      have H1 : (some (([] : List (S25)), 0, 4)) = some (r1, r2, r3) := by rw [if_pos rfl] at H; exact H
      clear H
      have H := H1
      clear H1
      simp only [Option.some.injEq, Prod.mk.injEq] at H
      obtain ⟨rfl, rfl, rfl⟩ := H
      go_wp2_with (first | ((with_reducible refine Pre.gate_load 25 rfl ?_); (try (refine gate_guard Z23 ?_; dsimp only)); refine Pre.load_event rfl rfl rfl Z23 Z17 Try.underlying25 rfl Z14 ?_))
      go_ret3
      exact ⟨_, Z5, Z68, Z1⟩
     ·replace c9 := Bool.eq_false_iff.mpr c9
      subst c9
      have H1 : ((aodv_get.f kj3 a0).bind fun bk => (if bk.2.2.2.2.2.2.2.2.2.2.2.2.2.2.2.2.2.2.2.2.2.2.2.2.2.2 = 0 then (some ((([(⟨bk.1, bk.2.1, bk.2.2.1, bk.2.2.2.1, bk.2.2.2.2.1, bk.2.2.2.2.2.1, bk.2.2.2.2.2.2.1, bk.2.2.2.2.2.2.2.1, bk.2.2.2.2.2.2.2.2.1, bk.2.2.2.2.2.2.2.2.2.1, bk.2.2.2.2.2.2.2.2.2.2.1, bk.2.2.2.2.2.2.2.2.2.2.2.1, bk.2.2.2.2.2.2.2.2.2.2.2.2.1, bk.2.2.2.2.2.2.2.2.2.2.2.2.2.1, bk.2.2.2.2.2.2.2.2.2.2.2.2.2.2.1, bk.2.2.2.2.2.2.2.2.2.2.2.2.2.2.2.1, bk.2.2.2.2.2.2.2.2.2.2.2.2.2.2.2.2.1, bk.2.2.2.2.2.2.2.2.2.2.2.2.2.2.2.2.2.1, bk.2.2.2.2.2.2.2.2.2.2.2.2.2.2.2.2.2.2.1, bk.2.2.2.2.2.2.2.2.2.2.2.2.2.2.2.2.2.2.2.1, bk.2.2.2.2.2.2.2.2.2.2.2.2.2.2.2.2.2.2.2.2.1, bk.2.2.2.2.2.2.2.2.2.2.2.2.2.2.2.2.2.2.2.2.2.1, bk.2.2.2.2.2.2.2.2.2.2.2.2.2.2.2.2.2.2.2.2.2.2.1, bk.2.2.2.2.2.2.2.2.2.2.2.2.2.2.2.2.2.2.2.2.2.2.2.1, bk.2.2.2.2.2.2.2.2.2.2.2.2.2.2.2.2.2.2.2.2.2.2.2.2.1⟩ : S25)] : List (S25))), 0, 0)) else (some (([] : List (S25)), bk.2.2.2.2.2.2.2.2.2.2.2.2.2.2.2.2.2.2.2.2.2.2.2.2.2.1, bk.2.2.2.2.2.2.2.2.2.2.2.2.2.2.2.2.2.2.2.2.2.2.2.2.2.2)))) = some (r1, r2, r3) := by rw [if_neg (show ¬ (false = true) by decide)] at H; exact H
      clear H
      have H := H1
      clear H1
      replace H := Option.bind_eq_some_iff.mp H
      obtain ⟨⟨ck, aM, aW, aY, bq, aT, cu, aV, bi, bl, cK, el, dy, cT, cn, cY, dZ, cv, cm, co, dc, dB, eI, ej, de, ih, fb⟩, ju, H⟩ := H
      replace H : (if fb = 0 then (some ((([(⟨ck, aM, aW, aY, bq, aT, cu, aV, bi, bl, cK, el, dy, cT, cn, cY, dZ, cv, cm, co, dc, dB, eI, ej, de⟩ : S25)] : List (S25))), 0, 0)) else (some (([] : List (S25)), ih, fb))) = some (r1, r2, r3) := H
      have kO := Aside0.mk ju
      clear ju
      by_cases ee : fb = 0
      ·rw [if_pos ee] at H
       have eX : (fb == 0) = true := beq_iff_eq.mpr ee
       have hj : (fb != 0) = false := bne_eq_false_iff_eq.mpr ee
       clear ee
       obtain ⟨sB, hy133⟩ : ∃ y_ : List (S25), y_ = (([(⟨ck, aM, aW, aY, bq, aT, cu, aV, bi, bl, cK, el, dy, cT, cn, cY, dZ, cv, cm, co, dc, dB, eI, ej, de⟩ : S25)] : List (S25))) := ⟨_, rfl⟩
       replace H : (some (sB, 0, 0)) = some (r1, r2, r3) := by first | (rw [hy133]; with_reducible exact H) | (have H2_ := (Option.bind_some _ _).symm.trans H; rw [hy133]; with_reducible exact H2_) | (have H2_ := (Option.bind_some _ _).symm.trans H; with_reducible exact H2_) | with_reducible exact H | (rw [hy133]; exact H) | exact H
       have Ny133 := Aside0.mk hy133
       clear hy133
       simp only [Option.some.injEq, Prod.mk.injEq] at H
       obtain ⟨rfl, rfl, rfl⟩ := H
       go_wp2_with (first | ((with_reducible refine Pre.gate_load 25 rfl ?_); (try (refine gate_guard Z23 ?_; dsimp only)); refine Pre.load_event rfl rfl rfl Z23 Z17 Try.underlying25 rfl Z14 ?_) | ((with_reducible refine gate_callee (f := 69) rfl ?_); refine goesL_ (some 27) rfl rfl Try.func69 Z14 rfl #[.string a0] rfl Z4 ?_; (with_reducible refine (aodv_get.calls kj3 a0 ck aM aW aY bq aT cu aV bi bl cK el dy cT cn cY dZ cv cm co dc dB eI ej de ih fb _ kO.out).mono ?_); rintro e po ⟨sC, sD, rfl, ho0, ho1, hb⟩; refine ⟨_, rfl, ?_⟩; have fc := Aside0.mk (Kd.R_lower (Kd.R_newM (M := fun k_ => (w.heap.size ≤ k_)) ho0 (below_size Z1) (fun k_ h_ => h_)) (below_size Z1)); have fd := Aside0.mk (Kd.R_lower (Kd.R_newM (M := fun k_ => (w.heap.size ≤ k_)) ho1 (below_size Z1) (fun k_ h_ => h_)) (below_size Z1)); replace HB := Aside0.mk (below_step Z1 hb); clear hb ho0 ho1) | ((with_reducible refine gate_dst (N := 5) rfl ?_); refine Sq.box 5 #[.int .i64 0, .int .i64 0, .int .i64 0, .string ⟨#[]⟩, .int .i64 0, .int .i64 0, .string ⟨#[]⟩, .int .i64 0, .int .i64 0, .string ⟨#[]⟩, .int .i64 0, .string ⟨#[]⟩, .int .i64 0, .int .i64 0, .int .i64 0, .int .i64 0, .int .i64 0, .int .i64 0, .int .i64 0, .string ⟨#[]⟩, .string ⟨#[]⟩, .slice none 0 0, .int .i64 0, .string ⟨#[]⟩, .slice none 0 0] 25 ?_; intro fI hg ja hbox hb; have eD := Aside0.mk (hbox); have qB := Aside0.mk (Sq.ge hg Z1); have kk := Aside0.mk (Sq.ge hg Z1); replace fc := Aside0.mk (Kd.R_below (by (with_reducible repeat (first | apply Kd.R_alloc | apply Kd.R_drewN | apply Kd.R_drew)); exact fc.out) hb); replace fd := Aside0.mk (Kd.R_below (by (with_reducible repeat (first | apply Kd.R_alloc | apply Kd.R_drewN | apply Kd.R_drew)); exact fd.out) hb); replace HB := Aside0.mk (below_step Z1 hb); clear hb hbox hg; have iH := cells_25 eD.out; obtain ⟨lD, lE, eo15⟩ := Kd.R_slice fc.out; subst eo15; obtain ⟨lF, lG, eo16⟩ := Kd.R_slice fd.out; subst eo16) | ((with_reducible refine Pre.gate_store 25 rfl ?_); refine Pre.store_abs (cur := #[.int .i64 0, .int .i64 0, .int .i64 0, .string ⟨#[]⟩, .int .i64 0, .int .i64 0, .string ⟨#[]⟩, .int .i64 0, .int .i64 0, .string ⟨#[]⟩, .int .i64 0, .string ⟨#[]⟩, .int .i64 0, .int .i64 0, .int .i64 0, .int .i64 0, .int .i64 0, .int .i64 0, .int .i64 0, .string ⟨#[]⟩, .string ⟨#[]⟩, .slice none 0 0, .int .i64 0, .string ⟨#[]⟩, .slice none 0 0]) (e := 25) rfl rfl rfl Z23 Z23 Z75 Z14 Z23 Z23 ?_; intro iP hbS_ sS_; have bY : Aside0 (Kd.R k46 46 iP w.heap.size (fun k_ => (w.heap.size ≤ k_)) (.slice lD dB.length lE) dB) := ⟨Kd.R_mono (Pre.R_sets sS_ (Kd.R_types fc.out eD.out Z29) (fun _ hk => hk.2)) (fun _ hk => hk.1.1)⟩; have ca : Aside0 (Kd.R k48 48 iP w.heap.size (fun k_ => (w.heap.size ≤ k_)) (.slice lF de.length lG) de) := ⟨Kd.R_mono (Pre.R_sets sS_ (Kd.R_types fd.out eD.out Z29) (fun _ hk => hk.2)) (fun _ hk => hk.1.1)⟩; have cZ : Aside0 (iP.heap[fI]? = some (.cells #[.int .i64 ck, .int .i64 aM, .int .i64 aW, .string aY, .int .i64 bq, .int .i64 aT, .string cu, .int .i64 aV, .int .i64 bi, .string bl, .int .i64 cK, .string el, .int .i64 dy, .int .i64 cT, .int .i64 cn, .int .i64 cY, .int .i64 dZ, .int .i64 cv, .int .i64 cm, .string co, .string dc, .slice lD dB.length lE, .int .i64 eI, .string ej, .slice lF de.length lG] 25 (0, 0))) := ⟨hbS_⟩; have ex : Aside0 (Below w.heap.size w iP) := ⟨sS_.below Z36 kk.out⟩; clear hbS_ sS_; replace fc := bY; replace fd := ca; replace eD := cZ; replace HB := ex; clear bY ca cZ ex; have mU := cells_25 eD.out) | ((with_reducible refine gate_dst (N := 36) rfl ?_); refine Kd.N_lit k25 _ 25 ?hg (N' := 36) ?hd (xs := ([(⟨ck, aM, aW, aY, bq, aT, cu, aV, bi, bl, cK, el, dy, cT, cn, cY, dZ, cv, cm, co, dc, dB, eI, ej, de⟩ : S25)] : List (S25))) (inner := [.int .i64 ck, .int .i64 aM, .int .i64 aW, .string aY, .int .i64 bq, .int .i64 aT, .string cu, .int .i64 aV, .int .i64 bi, .string bl, .int .i64 cK, .string el, .int .i64 dy, .int .i64 cT, .int .i64 cn, .int .i64 cY, .int .i64 dZ, .int .i64 cv, .int .i64 cm, .string co, .string dc, .slice lD dB.length lE, .int .i64 eI, .string ej, .slice lF de.length lG]) (ok := (fun k_ => (w.heap.size ≤ k_) ∧ k_ ≠ fI)) (okp := (fun k_ => (w.heap.size ≤ k_) ∧ k_ ≠ fI)) ?hr ?hp (fun _ hk => hk) ((show ∀ k_, iP.heap.size ≤ k_ → (fun k_ => (w.heap.size ≤ k_) ∧ k_ ≠ fI) k_ from fun k_ hk => ⟨(Nat.le_trans (below_size Z36) hk), Kd.freshB (g := fI) (o := .cells #[.int .i64 ck, .int .i64 aM, .int .i64 aW, .string aY, .int .i64 bq, .int .i64 aT, .string cu, .int .i64 aV, .int .i64 bi, .string bl, .int .i64 cK, .string el, .int .i64 dy, .int .i64 cT, .int .i64 cn, .int .i64 cY, .int .i64 dZ, .int .i64 cv, .int .i64 cm, .string co, .string dc, .slice lD dB.length lE, .int .i64 eI, .string ej, .slice lF de.length lG] 25 (0, 0)) Z75 k_ hk⟩) _ (Nat.le_refl _)) (Below.refl _ _) (Nat.le_refl _) Z71 ?_; (case hd => rfl); (case hg => rfl); (case hr => first | (go_simp; done) | (go_simp; rfl)); (case hp => exact (Reps.front (show Kd.FK k25 _ _ (⟨ck, aM, aW, aY, bq, aT, cu, aV, bi, bl, cK, el, dy, cT, cn, cY, dZ, cv, cm, co, dc, dB, eI, ej, de⟩ : S25) [.int .i64 ck, .int .i64 aM, .int .i64 aW, .string aY, .int .i64 bq, .int .i64 aT, .string cu, .int .i64 aV, .int .i64 bi, .string bl, .int .i64 cK, .string el, .int .i64 dy, .int .i64 cT, .int .i64 cn, .int .i64 cY, .int .i64 dZ, .int .i64 cv, .int .i64 cm, .string co, .string dc, .slice lD dB.length lE, .int .i64 eI, .string ej, .slice lF de.length lG] from (k25_mkF _ _ (⟨ck, aM, aW, aY, bq, aT, cu, aV, bi, bl, cK, el, dy, cT, cn, cY, dZ, cv, cm, co, dc, dB, eI, ej, de⟩ : S25) (Kd.R_reads' (Kd.R_mono (ok' := (fun k_ => (w.heap.size ≤ k_) ∧ k_ ≠ fI)) (Kd.R_types (fc.out) eD.out Z29) (fun k_ hk => ⟨hk.1, hk.2⟩))).2.1 (Kd.R_F (Kd.R_mono (ok' := (fun k_ => (w.heap.size ≤ k_) ∧ k_ ≠ fI)) (Kd.R_types (fc.out) eD.out Z29) (fun k_ hk => ⟨hk.1, hk.2⟩))) (Kd.R_reads' (Kd.R_mono (ok' := (fun k_ => (w.heap.size ≤ k_) ∧ k_ ≠ fI)) (Kd.R_types (fd.out) eD.out Z29) (fun k_ hk => ⟨hk.1, hk.2⟩))).2.1 (Kd.R_F (Kd.R_mono (ok' := (fun k_ => (w.heap.size ≤ k_) ∧ k_ ≠ fI)) (Kd.R_types (fd.out) eD.out Z29) (fun k_ hk => ⟨hk.1, hk.2⟩))))) rfl (Reps.none _ _) rfl)); intro v134 oP ho20 hb hg_ hnew_; clear hg_ hnew_; (first | rw [← Ny133.out] at ho20 | (simp only [Int.reduceToNat] at ho20; rw [← Ny133.out] at ho20)); clear fc; clear fd; have qC := Aside0.mk (Kd.N_lower ho20 (below_size Z36)); replace eD := Aside0.mk (blk_below (g := fI) Z75 hb); replace HB := Aside0.mk (below_step Z36 hb); clear hb ho20))
       go_ret3
       exact ⟨_, Z5, by (with_reducible repeat (first | apply Kd.N_alloc | apply Kd.N_drewN | apply Kd.N_drew)); exact Kd.N_mono qC.out (fun _ hk => hk.1), Z36⟩
      ·rw [if_neg ee] at H
       have eX : (fb == 0) = false := beq_eq_false_iff_ne.mpr ee
       have hj : (fb != 0) = true := bne_iff_ne.mpr ee
       simp only [Option.some.injEq, Prod.mk.injEq] at H
       obtain ⟨rfl, rfl, rfl⟩ := H
       go_wp2_with (first | ((with_reducible refine Pre.gate_load 25 rfl ?_); (try (refine gate_guard Z23 ?_; dsimp only)); refine Pre.load_event rfl rfl rfl Z23 Z17 Try.underlying25 rfl Z14 ?_) | ((with_reducible refine gate_callee (f := 69) rfl ?_); refine goesL_ (some 27) rfl rfl Try.func69 Z14 rfl #[.string a0] rfl Z4 ?_; (with_reducible refine (aodv_get.calls kj3 a0 ck aM aW aY bq aT cu aV bi bl cK el dy cT cn cY dZ cv cm co dc dB eI ej de ih fb _ kO.out).mono ?_); rintro e oN ⟨sC, sD, rfl, ho0, ho1, hb⟩; refine ⟨_, rfl, ?_⟩; have fc := Aside0.mk (Kd.R_lower (Kd.R_newM (M := fun k_ => (w.heap.size ≤ k_)) ho0 (below_size Z1) (fun k_ h_ => h_)) (below_size Z1)); have fd := Aside0.mk (Kd.R_lower (Kd.R_newM (M := fun k_ => (w.heap.size ≤ k_)) ho1 (below_size Z1) (fun k_ h_ => h_)) (below_size Z1)); replace HB := Aside0.mk (below_step Z1 hb); clear hb ho0 ho1) | ((with_reducible refine gate_dst (N := 5) rfl ?_); refine Sq.box 5 #[.int .i64 0, .int .i64 0, .int .i64 0, .string ⟨#[]⟩, .int .i64 0, .int .i64 0, .string ⟨#[]⟩, .int .i64 0, .int .i64 0, .string ⟨#[]⟩, .int .i64 0, .string ⟨#[]⟩, .int .i64 0, .int .i64 0, .int .i64 0, .int .i64 0, .int .i64 0, .int .i64 0, .int .i64 0, .string ⟨#[]⟩, .string ⟨#[]⟩, .slice none 0 0, .int .i64 0, .string ⟨#[]⟩, .slice none 0 0] 25 ?_; intro fI hg mN hbox hb; have eD := Aside0.mk (hbox); have qB := Aside0.mk (Sq.ge hg Z1); have kk := Aside0.mk (Sq.ge hg Z1); replace fc := Aside0.mk (Kd.R_below (by (with_reducible repeat (first | apply Kd.R_alloc | apply Kd.R_drewN | apply Kd.R_drew)); exact fc.out) hb); replace fd := Aside0.mk (Kd.R_below (by (with_reducible repeat (first | apply Kd.R_alloc | apply Kd.R_drewN | apply Kd.R_drew)); exact fd.out) hb); replace HB := Aside0.mk (below_step Z1 hb); clear hb hbox hg; have lj := cells_25 eD.out; obtain ⟨lz, lA, eo24⟩ := Kd.R_slice fc.out; subst eo24; obtain ⟨lB, lC, eo25⟩ := Kd.R_slice fd.out; subst eo25) | ((with_reducible refine Pre.gate_store 25 rfl ?_); refine Pre.store_abs (cur := #[.int .i64 0, .int .i64 0, .int .i64 0, .string ⟨#[]⟩, .int .i64 0, .int .i64 0, .string ⟨#[]⟩, .int .i64 0, .int .i64 0, .string ⟨#[]⟩, .int .i64 0, .string ⟨#[]⟩, .int .i64 0, .int .i64 0, .int .i64 0, .int .i64 0, .int .i64 0, .int .i64 0, .int .i64 0, .string ⟨#[]⟩, .string ⟨#[]⟩, .slice none 0 0, .int .i64 0, .string ⟨#[]⟩, .slice none 0 0]) (e := 25) rfl rfl rfl Z23 Z23 Z75 Z14 Z23 Z23 ?_; intro jM hbS_ sS_; have bY : Aside0 (Kd.R k46 46 jM w.heap.size (fun k_ => (w.heap.size ≤ k_)) (.slice lz dB.length lA) dB) := ⟨Kd.R_mono (Pre.R_sets sS_ (Kd.R_types fc.out eD.out Z29) (fun _ hk => hk.2)) (fun _ hk => hk.1.1)⟩; have ca : Aside0 (Kd.R k48 48 jM w.heap.size (fun k_ => (w.heap.size ≤ k_)) (.slice lB de.length lC) de) := ⟨Kd.R_mono (Pre.R_sets sS_ (Kd.R_types fd.out eD.out Z29) (fun _ hk => hk.2)) (fun _ hk => hk.1.1)⟩; have cZ : Aside0 (jM.heap[fI]? = some (.cells #[.int .i64 ck, .int .i64 aM, .int .i64 aW, .string aY, .int .i64 bq, .int .i64 aT, .string cu, .int .i64 aV, .int .i64 bi, .string bl, .int .i64 cK, .string el, .int .i64 dy, .int .i64 cT, .int .i64 cn, .int .i64 cY, .int .i64 dZ, .int .i64 cv, .int .i64 cm, .string co, .string dc, .slice lz dB.length lA, .int .i64 eI, .string ej, .slice lB de.length lC] 25 (0, 0))) := ⟨hbS_⟩; have ex : Aside0 (Below w.heap.size w jM) := ⟨sS_.below Z36 kk.out⟩; clear hbS_ sS_; replace fc := bY; replace fd := ca; replace eD := cZ; replace HB := ex; clear bY ca cZ ex))
       go_ret3
       exact ⟨_, Z5, Z68, Z36⟩

/-! ### aodv_Right: function 45 -/
def aodv_Right.f (k : Nat) (ax : Int) (av : Int) (aw : Int) (ay : ByteArray) (az : Int) (aH : Int) (aE : ByteArray) (aA : Int) (aD : Int) (aC : ByteArray) (au : Int) (an : ByteArray) (al : Int) (ak : Int) (ar : Int) (af : Int) (ai : Int) (am : Int) (ao : Int) (aa : ByteArray) (ac : ByteArray) (ab : List (S46)) (ap : Int) (aq : ByteArray) (ah : List (S48)) : Option (Bool) := (rreq_Right.f k ax av aw ay az aH aE aA aD aC au an al ak ar af ai am ao aa ac ab ap aq ah).bind fun aM => (if aM = true then (some true) else ((rrep_Right.f k ax av aw ay az aH aE aA aD aC au an al ak ar af ai am ao aa ac ab ap aq ah).bind fun aW => (if aW = true then (some true) else ((rerr_Right.f k ax av aw ay az aH aE aA aD aC au an al ak ar af ai am ao aa ac ab ap aq ah).bind fun aY => (some aY)))))
theorem aodv_Right.mono : ∀ a0 a1 a2 a3 a4 a5 a6 a7 a8 a9 gs gu gv gw gy gz gA gB gC gD gE gF gG gH gI k, LeO (aodv_Right.f k a0 a1 a2 a3 a4 a5 a6 a7 a8 a9 gs gu gv gw gy gz gA gB gC gD gE gF gG gH gI) (aodv_Right.f (k + 1) a0 a1 a2 a3 a4 a5 a6 a7 a8 a9 gs gu gv gw gy gz gA gB gC gD gE gF gG gH gI) := by
 intros
 rename_i k
 unfold aodv_Right.f
 have m0 := rerr_Right.mono
 have m1 := rrep_Right.mono
 have m2 := rreq_Right.mono
 exact Sq.mo

set_option maxHeartbeats 8000000 in
set_option maxRecDepth 100000 in
theorem aodv_Right.calls (k : Nat) (ax : Int) (av : Int) (aw : Int) (ay : ByteArray) (az : Int) (aH : Int) (aE : ByteArray) (aA : Int) (aD : Int) (aC : ByteArray) (au : Int) (an : ByteArray) (al : Int) (ak : Int) (ar : Int) (af : Int) (ai : Int) (am : Int) (ao : Int) (aa : ByteArray) (ac : ByteArray) (bg : Option Addr) (bb : Nat) (ab : List (S46)) (ap : Int) (aq : ByteArray) (aZ : Option Addr) (ba : Nat) (ah : List (S48)) (r : Bool) (w : World) (cf : Kd.C k46 w bg ab.length ab) (cg : ab.length ≤ bb) (ch : Kd.C k48 w aZ ah.length ah) (ci : ah.length ≤ ba) (h : aodv_Right.f k ax av aw ay az aH aE aA aD aC au an al ak ar af ai am ao aa ac ab ap aq ah = some r) :
  Calls Try.prog 45 #[.agg #[.int .i64 ax, .int .i64 av, .int .i64 aw, .string ay, .int .i64 az, .int .i64 aH, .string aE, .int .i64 aA, .int .i64 aD, .string aC, .int .i64 au, .string an, .int .i64 al, .int .i64 ak, .int .i64 ar, .int .i64 af, .int .i64 ai, .int .i64 am, .int .i64 ao, .string aa, .string ac, .slice bg ab.length bb, .int .i64 ap, .string aq, .slice aZ ah.length ba]] w fun e w' => e = .returned (.bool r) ∧ Below w.heap.size w w' := by
 have fi := Try.underlying25
 have ed := Aside0.mk cf
 have bM := Aside0.mk cg
 clear cf cg
 have er := Aside0.mk ch
 have br := Aside0.mk ci
 clear ch ci
 have HB := Aside0.mk (Below.refl w.heap.size w)
 have H : ((rreq_Right.f k ax av aw ay az aH aE aA aD aC au an al ak ar af ai am ao aa ac ab ap aq ah).bind fun aM => (if aM = true then (some true) else ((rrep_Right.f k ax av aw ay az aH aE aA aD aC au an al ak ar af ai am ao aa ac ab ap aq ah).bind fun aW => (if aW = true then (some true) else ((rerr_Right.f k ax av aw ay az aH aE aA aD aC au an al ak ar af ai am ao aa ac ab ap aq ah).bind fun aY => (some aY)))))) = some r := h
 clear h
 replace H := Option.bind_eq_some_iff.mp H
 obtain ⟨aM, gb, H⟩ := H
 replace H : (if aM = true then (some true) else ((rrep_Right.f k ax av aw ay az aH aE aA aD aC au an al ak ar af ai am ao aa ac ab ap aq ah).bind fun aW => (if aW = true then (some true) else ((rerr_Right.f k ax av aw ay az aH aE aA aD aC au an al ak ar af ai am ao aa ac ab ap aq ah).bind fun aY => (some aY))))) = some r := H
 have A2 := Aside0.mk gb
 clear gb
 by_cases c3 : aM = true
 ·subst c3
  replace H := Sq.itT H
  obtain rfl := Option.some.inj H
  go_enter Try.func45, Try.ntmps45
  go_wp2_with (first | ((with_reducible refine Pre.gate_load 25 rfl ?_); (try (refine gate_guard Z23 ?_; dsimp only)); refine Pre.load_event rfl rfl rfl Z23 Z3 Try.underlying25 rfl Z14 ?_) | ((with_reducible refine gate_dst (N := 1) rfl ?_); refine Sq.box 1 #[.int .i64 ax, .int .i64 av, .int .i64 aw, .string ay, .int .i64 az, .int .i64 aH, .string aE, .int .i64 aA, .int .i64 aD, .string aC, .int .i64 au, .string an, .int .i64 al, .int .i64 ak, .int .i64 ar, .int .i64 af, .int .i64 ai, .int .i64 am, .int .i64 ao, .string aa, .string ac, .slice bg ab.length bb, .int .i64 ap, .string aq, .slice aZ ah.length ba] 25 ?_; intro ag hg w4 hbox hb; have ae := Aside0.mk (hbox); have cp := Aside0.mk (Sq.ge hg Z1); have bm := Aside0.mk (Sq.ge hg Z1); replace HB := Aside0.mk (below_step Z1 hb); clear hb hbox hg; have ji := cells_25 ae.out) | ((with_reducible refine gate_callee (f := 20) rfl ?_); refine goesL_ (some 4) rfl rfl Try.func20 Z14 rfl #[.agg #[.int .i64 ax, .int .i64 av, .int .i64 aw, .string ay, .int .i64 az, .int .i64 aH, .string aE, .int .i64 aA, .int .i64 aD, .string aC, .int .i64 au, .string an, .int .i64 al, .int .i64 ak, .int .i64 ar, .int .i64 af, .int .i64 ai, .int .i64 am, .int .i64 ao, .string aa, .string ac, .slice bg ab.length bb, .int .i64 ap, .string aq, .slice aZ ah.length ba]] rfl Z4 ?_; (with_reducible refine (rreq_Right.calls k ax av aw ay az aH aE aA aD aC au an al ak ar af ai am ao aa ac _ _ ab ap aq _ _ ah true _ ?side1 ?side2 ?side3 ?side4 A2.out).mono ?_); (case side1 => exact Z10); (case side2 => exact bM.out); (case side3 => exact Z7); (case side4 => exact br.out); rintro e w6 ⟨rfl, hb⟩; refine ⟨_, rfl, ?_⟩; replace ae := Aside0.mk (blk_below (g := ag) Z2 hb); replace HB := Aside0.mk (below_step Z0 hb); clear hb))
  go_ret
  exact ⟨Z5, Z0⟩
 ·replace c3 := Bool.eq_false_iff.mpr c3
  subst c3
  replace H := Sq.itF H
  replace H := Option.bind_eq_some_iff.mp H
  obtain ⟨aW, qD, H⟩ := H
  replace H : (if aW = true then (some true) else ((rerr_Right.f k ax av aw ay az aH aE aA aD aC au an al ak ar af ai am ao aa ac ab ap aq ah).bind fun aY => (some aY))) = some r := H
  have A7 := Aside0.mk qD
  clear qD
  by_cases c8 : aW = true
  ·subst c8
   replace H := Sq.itT H
   obtain rfl := Option.some.inj H
   go_enter Try.func45, Try.ntmps45
   go_wp2_with (first | ((with_reducible refine Pre.gate_load 25 rfl ?_); (try (refine gate_guard Z23 ?_; dsimp only)); refine Pre.load_event rfl rfl rfl Z23 Z3 Try.underlying25 rfl Z14 ?_) | ((with_reducible refine gate_dst (N := 1) rfl ?_); refine Sq.box 1 #[.int .i64 ax, .int .i64 av, .int .i64 aw, .string ay, .int .i64 az, .int .i64 aH, .string aE, .int .i64 aA, .int .i64 aD, .string aC, .int .i64 au, .string an, .int .i64 al, .int .i64 ak, .int .i64 ar, .int .i64 af, .int .i64 ai, .int .i64 am, .int .i64 ao, .string aa, .string ac, .slice bg ab.length bb, .int .i64 ap, .string aq, .slice aZ ah.length ba] 25 ?_; intro ag hg w9 hbox hb; have ae := Aside0.mk (hbox); have cp := Aside0.mk (Sq.ge hg Z1); have bm := Aside0.mk (Sq.ge hg Z1); replace HB := Aside0.mk (below_step Z1 hb); clear hb hbox hg; have jj := cells_25 ae.out) | ((with_reducible refine gate_callee (f := 20) rfl ?_); refine goesL_ (some 4) rfl rfl Try.func20 Z14 rfl #[.agg #[.int .i64 ax, .int .i64 av, .int .i64 aw, .string ay, .int .i64 az, .int .i64 aH, .string aE, .int .i64 aA, .int .i64 aD, .string aC, .int .i64 au, .string an, .int .i64 al, .int .i64 ak, .int .i64 ar, .int .i64 af, .int .i64 ai, .int .i64 am, .int .i64 ao, .string aa, .string ac, .slice bg ab.length bb, .int .i64 ap, .string aq, .slice aZ ah.length ba]] rfl Z4 ?_; (with_reducible refine (rreq_Right.calls k ax av aw ay az aH aE aA aD aC au an al ak ar af ai am ao aa ac _ _ ab ap aq _ _ ah false _ ?side1 ?side2 ?side3 ?side4 A2.out).mono ?_); (case side1 => exact Z10); (case side2 => exact bM.out); (case side3 => exact Z7); (case side4 => exact br.out); rintro e ln ⟨rfl, hb⟩; refine ⟨_, rfl, ?_⟩; replace ae := Aside0.mk (blk_below (g := ag) Z2 hb); replace HB := Aside0.mk (below_step Z0 hb); clear hb; have jU := cells_25 ae.out) | (go_at_call 36; (with_reducible refine (rrep_Right.calls k ax av aw ay az aH aE aA aD aC au an al ak ar af ai am ao aa ac _ _ ab ap aq _ _ ah true _ ?side1 ?side2 ?side3 ?side4 A7.out).mono ?_); (case side1 => exact Z10); (case side2 => exact bM.out); (case side3 => exact Z7); (case side4 => exact br.out); rintro e ja ⟨rfl, hb⟩; replace ae := Aside0.mk (blk_below (g := ag) Z2 hb); replace HB := Aside0.mk (below_step Z0 hb); clear hb))
   go_ret
   exact ⟨Z5, Z0⟩
  ·replace c8 := Bool.eq_false_iff.mpr c8
   subst c8
   replace H := Sq.itF H
   replace H := Option.bind_eq_some_iff.mp H
   obtain ⟨aY, hB, H⟩ := H
   replace H : (some aY) = some r := H
   have nL := Aside0.mk hB
   clear hB
   obtain rfl := Option.some.inj H
   go_enter Try.func45, Try.ntmps45
   go_wp2_with (first | ((with_reducible refine Pre.gate_load 25 rfl ?_); (try (refine gate_guard Z23 ?_; dsimp only)); refine Pre.load_event rfl rfl rfl Z23 Z3 Try.underlying25 rfl Z14 ?_) | ((with_reducible refine gate_dst (N := 1) rfl ?_); refine Sq.box 1 #[.int .i64 ax, .int .i64 av, .int .i64 aw, .string ay, .int .i64 az, .int .i64 aH, .string aE, .int .i64 aA, .int .i64 aD, .string aC, .int .i64 au, .string an, .int .i64 al, .int .i64 ak, .int .i64 ar, .int .i64 af, .int .i64 ai, .int .i64 am, .int .i64 ao, .string aa, .string ac, .slice bg ab.length bb, .int .i64 ap, .string aq, .slice aZ ah.length ba] 25 ?_; intro ag hg rR hbox hb; have ae := Aside0.mk (hbox); have cp := Aside0.mk (Sq.ge hg Z1); have bm := Aside0.mk (Sq.ge hg Z1); replace HB := Aside0.mk (below_step Z1 hb); clear hb hbox hg; have jn := cells_25 ae.out) | ((with_reducible refine gate_callee (f := 20) rfl ?_); refine goesL_ (some 4) rfl rfl Try.func20 Z14 rfl #[.agg #[.int .i64 ax, .int .i64 av, .int .i64 aw, .string ay, .int .i64 az, .int .i64 aH, .string aE, .int .i64 aA, .int .i64 aD, .string aC, .int .i64 au, .string an, .int .i64 al, .int .i64 ak, .int .i64 ar, .int .i64 af, .int .i64 ai, .int .i64 am, .int .i64 ao, .string aa, .string ac, .slice bg ab.length bb, .int .i64 ap, .string aq, .slice aZ ah.length ba]] rfl Z4 ?_; (with_reducible refine (rreq_Right.calls k ax av aw ay az aH aE aA aD aC au an al ak ar af ai am ao aa ac _ _ ab ap aq _ _ ah false _ ?side1 ?side2 ?side3 ?side4 A2.out).mono ?_); (case side1 => exact Z10); (case side2 => exact bM.out); (case side3 => exact Z7); (case side4 => exact br.out); rintro e iP ⟨rfl, hb⟩; refine ⟨_, rfl, ?_⟩; replace ae := Aside0.mk (blk_below (g := ag) Z2 hb); replace HB := Aside0.mk (below_step Z0 hb); clear hb; have mU := cells_25 ae.out) | (go_at_call 36; (with_reducible refine (rrep_Right.calls k ax av aw ay az aH aE aA aD aC au an al ak ar af ai am ao aa ac _ _ ab ap aq _ _ ah false _ ?side1 ?side2 ?side3 ?side4 A7.out).mono ?_); (case side1 => exact Z10); (case side2 => exact bM.out); (case side3 => exact Z7); (case side4 => exact br.out); rintro e oP ⟨rfl, hb⟩; replace ae := Aside0.mk (blk_below (g := ag) Z2 hb); replace HB := Aside0.mk (below_step Z0 hb); clear hb; have kb := cells_25 ae.out) | (go_at_call 28; (with_reducible refine (rerr_Right.calls k ax av aw ay az aH aE aA aD aC au an al ak ar af ai am ao aa ac _ _ ab ap aq _ _ ah aY _ ?side1 ?side2 ?side3 ?side4 nL.out).mono ?_); (case side1 => exact Z10); (case side2 => exact bM.out); (case side3 => exact Z7); (case side4 => exact br.out); rintro e oN ⟨rfl, hb⟩; replace ae := Aside0.mk (blk_below (g := ag) Z2 hb); replace HB := Aside0.mk (below_step Z0 hb); clear hb))
   go_ret
   exact ⟨Z5, Z0⟩

end Go.Proofs.Ytccjakjjaemmkaa.PAB
