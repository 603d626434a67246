-- Written by mp.py, a program of this work (wip/tools), out of the translation; Lean checks it.
import Derived.Test.YtccjakjjaemmkaaPABxZ
import Derived.Test.YtccjakjjaemmkaaPABxext
import Derived.Test.YtccjakjjaemmkaaPABxoctet
import Derived.Test.YtccjakjjaemmkaaAbs
namespace Go.Proofs.Ytccjakjjaemmkaa.PAB
open Go.RowKit Go.Proofs.YtccjakjjaemmkaaW.PrintWords Go.Proofs.YtccjakjjaemmkaaW.PrintLast Go.Proofs.YtccjakjjaemmkaaW.PrintMore
attribute [local go_sem] max2_int min2_int max_two min_two max_three min_three max_four min_four   -- for this text's walks alone
set_option linter.unusedVariables false
set_option linter.unusedSimpArgs false

/-! ### rreq_Get: function 22 -/
def rreq_Get.f (k : Nat) (a0 : ByteArray) : Option (Int × Int × Int × ByteArray × Int × Int × ByteArray × Int × Int × ByteArray × Int × ByteArray × Int × Int × Int × Int × Int × Int × Int × ByteArray × ByteArray × (List (S46)) × Int × ByteArray × (List (S48)) × Int × Int) := if (a0.size : Int) < 24 then (some (0, 0, 0, (⟨#[]⟩ : ByteArray), 0, 0, (⟨#[]⟩ : ByteArray), 0, 0, (⟨#[]⟩ : ByteArray), 0, (⟨#[]⟩ : ByteArray), 0, 0, 0, 0, 0, 0, 0, (⟨#[]⟩ : ByteArray), (⟨#[]⟩ : ByteArray), ([] : List (S46)), 0, (⟨#[]⟩ : ByteArray), ([] : List (S48)), (a0.size : Int), 2)) else (if 1 < (a0.size : Int) then (if 2 < (a0.size : Int) then (if (Go.bits .or .u8 (Go.bits .and .u8 (bt a0 1) 7) (bt a0 2)) = 0 then (if 24 ≤ (a0.size : Int) then ((ext_Get.f k (a0.extract 24 a0.size)).bind fun aJ => (if aJ.2.2 = 0 then (if 3 < (a0.size : Int) then ((cursor_New.f a0).bind fun dh => ((cursor_Text.f dh.1 dh.2.1 dh.2.2.1 dh.2.2.2 4).bind fun ez => ((cursor_Num.f ez.2.1 ez.2.2.1 ez.2.2.2.1 ez.2.2.2.2 4).bind fun bX => ((cursor_Text.f bX.2.1 bX.2.2.1 bX.2.2.2.1 bX.2.2.2.2 4).bind fun cV => ((cursor_Num.f cV.2.1 cV.2.2.1 cV.2.2.2.1 cV.2.2.2.2 4).bind fun cq => ((cursor_Text.f cq.2.1 cq.2.2.1 cq.2.2.2.1 cq.2.2.2.2 4).bind fun aU => ((cursor_Num.f aU.2.1 aU.2.2.1 aU.2.2.2.1 aU.2.2.2.2 4).bind fun eJ => (some (3, 0, 0, (⟨#[]⟩ : ByteArray), 0, 0, (⟨#[]⟩ : ByteArray), 0, 0, (⟨#[]⟩ : ByteArray), 0, (⟨#[]⟩ : ByteArray), cq.1, eJ.1, 0, wrap64 ((bt a0 1) / 8), wrap64 (bt a0 3), bX.1, 0, cV.1, aU.1, ([] : List (S46)), 0, (⟨#[]⟩ : ByteArray), aJ.1, 0, 0))))))))) else (none)) else (some (0, 0, 0, (⟨#[]⟩ : ByteArray), 0, 0, (⟨#[]⟩ : ByteArray), 0, 0, (⟨#[]⟩ : ByteArray), 0, (⟨#[]⟩ : ByteArray), 0, 0, 0, 0, 0, 0, 0, (⟨#[]⟩ : ByteArray), (⟨#[]⟩ : ByteArray), ([] : List (S46)), 0, (⟨#[]⟩ : ByteArray), ([] : List (S48)), wrap64 (aJ.2.1 + 24), aJ.2.2)))) else (none)) else (some (0, 0, 0, (⟨#[]⟩ : ByteArray), 0, 0, (⟨#[]⟩ : ByteArray), 0, 0, (⟨#[]⟩ : ByteArray), 0, (⟨#[]⟩ : ByteArray), 0, 0, 0, 0, 0, 0, 0, (⟨#[]⟩ : ByteArray), (⟨#[]⟩ : ByteArray), ([] : List (S46)), 0, (⟨#[]⟩ : ByteArray), ([] : List (S48)), 1, 5))) else (none)) else (none))
theorem rreq_Get.mono : ∀ a0 k, LeO (rreq_Get.f k a0) (rreq_Get.f (k + 1) a0) := by
 intro a0 k
 unfold rreq_Get.f
 have m0 := ext_Get.mono
 exact Sq.mo
def rreq_Get.T8 : Bool × List (List Nat × List Nat) := (true, [([], []), ([0], [0]), ([1], [1]), ([2], [2]), ([], []), ([4], [4]), ([5], [5]), ([], []), ([3, 6, 7], [3, 6, 7]), ([], []), ([9, 8, 0, 1, 2, 3, 4, 5, 6, 7, 8, 9], [8, 9])])
def rreq_Get.B8 : List Nat := [0, 1, 3, 7, 0, 16, 48, 0, 255, 0, 1023]
theorem rreq_Get.tab8 : rtab .any (opsOf Try.f22 8) = rreq_Get.T8 := by kernel_rfl
theorem rreq_Get.bits8 : waitsOk rreq_Get.T8.2 rreq_Get.B8 = true := by kernel_rfl
set_option maxRecDepth 100000 in
theorem rreq_Get.bd46 (v0 : Int) (iT : Int) (jE : Int) (ks : Option Addr) (n24 eb : Nat) : Try.prog.built 25 [(0, .int .i64 v0), (15, .int .i64 iT), (16, .int .i64 jE), (24, .slice ks n24 eb)] = some #[.int .i64 v0, .int .i64 0, .int .i64 0, .string ⟨#[]⟩, .int .i64 0, .int .i64 0, .string ⟨#[]⟩, .int .i64 0, .int .i64 0, .string ⟨#[]⟩, .int .i64 0, .string ⟨#[]⟩, .int .i64 0, .int .i64 0, .int .i64 0, .int .i64 iT, .int .i64 jE, .int .i64 0, .int .i64 0, .string ⟨#[]⟩, .string ⟨#[]⟩, .slice none 0 0, .int .i64 0, .string ⟨#[]⟩, .slice ks n24 eb] := by kernel_rfl
set_option maxHeartbeats 8000000 in
set_option maxRecDepth 100000 in
theorem rreq_Get.calls (k : Nat) (a0 : ByteArray) (r1 : Int) (r2 : Int) (r3 : Int) (r4 : ByteArray) (r5 : Int) (r6 : Int) (r7 : ByteArray) (r8 : Int) (r9 : Int) (r10 : ByteArray) (r11 : Int) (r12 : ByteArray) (r13 : Int) (r14 : Int) (r15 : Int) (r16 : Int) (r17 : Int) (r18 : Int) (r19 : Int) (r20 : ByteArray) (r21 : ByteArray) (r22 : List (S46)) (r23 : Int) (r24 : ByteArray) (r25 : List (S48)) (r26 : Int) (r27 : Int) (w : World) (h : rreq_Get.f k a0 = some (r1, r2, r3, r4, r5, r6, r7, r8, r9, r10, r11, r12, r13, r14, r15, r16, r17, r18, r19, r20, r21, r22, r23, r24, r25, r26, r27)) :
  Calls Try.prog 22 #[.string a0] w fun e w' => ∃ v21_ v24_ : Value, e = .returned (.tuple #[.agg #[.int .i64 r1, .int .i64 r2, .int .i64 r3, .string r4, .int .i64 r5, .int .i64 r6, .string r7, .int .i64 r8, .int .i64 r9, .string r10, .int .i64 r11, .string r12, .int .i64 r13, .int .i64 r14, .int .i64 r15, .int .i64 r16, .int .i64 r17, .int .i64 r18, .int .i64 r19, .string r20, .string r21, v21_, .int .i64 r23, .string r24, v24_], .int .i64 r26, .int .i64 r27]) ∧ Kd.R k46 46 w' w.heap.size (fun _ => True) v21_ r22 ∧ Kd.R k48 48 w' w.heap.size (fun _ => True) v24_ r25 ∧ Below w.heap.size w w' := by
 have fi := Try.underlying25
 have ie := Try.underlying60
 have HB := Aside0.mk (Below.refl w.heap.size w)
 have H : (if (a0.size : Int) < 24 then (some (0, 0, 0, (⟨#[]⟩ : ByteArray), 0, 0, (⟨#[]⟩ : ByteArray), 0, 0, (⟨#[]⟩ : ByteArray), 0, (⟨#[]⟩ : ByteArray), 0, 0, 0, 0, 0, 0, 0, (⟨#[]⟩ : ByteArray), (⟨#[]⟩ : ByteArray), ([] : List (S46)), 0, (⟨#[]⟩ : ByteArray), ([] : List (S48)), (a0.size : Int), 2)) else (if 1 < (a0.size : Int) then (if 2 < (a0.size : Int) then (if (Go.bits .or .u8 (Go.bits .and .u8 (bt a0 1) 7) (bt a0 2)) = 0 then (if 24 ≤ (a0.size : Int) then ((ext_Get.f k (a0.extract 24 a0.size)).bind fun aJ => (if aJ.2.2 = 0 then (if 3 < (a0.size : Int) then ((cursor_New.f a0).bind fun dh => ((cursor_Text.f dh.1 dh.2.1 dh.2.2.1 dh.2.2.2 4).bind fun ez => ((cursor_Num.f ez.2.1 ez.2.2.1 ez.2.2.2.1 ez.2.2.2.2 4).bind fun bX => ((cursor_Text.f bX.2.1 bX.2.2.1 bX.2.2.2.1 bX.2.2.2.2 4).bind fun cV => ((cursor_Num.f cV.2.1 cV.2.2.1 cV.2.2.2.1 cV.2.2.2.2 4).bind fun cq => ((cursor_Text.f cq.2.1 cq.2.2.1 cq.2.2.2.1 cq.2.2.2.2 4).bind fun aU => ((cursor_Num.f aU.2.1 aU.2.2.1 aU.2.2.2.1 aU.2.2.2.2 4).bind fun eJ => (some (3, 0, 0, (⟨#[]⟩ : ByteArray), 0, 0, (⟨#[]⟩ : ByteArray), 0, 0, (⟨#[]⟩ : ByteArray), 0, (⟨#[]⟩ : ByteArray), cq.1, eJ.1, 0, wrap64 ((bt a0 1) / 8), wrap64 (bt a0 3), bX.1, 0, cV.1, aU.1, ([] : List (S46)), 0, (⟨#[]⟩ : ByteArray), aJ.1, 0, 0))))))))) else (none)) else (some (0, 0, 0, (⟨#[]⟩ : ByteArray), 0, 0, (⟨#[]⟩ : ByteArray), 0, 0, (⟨#[]⟩ : ByteArray), 0, (⟨#[]⟩ : ByteArray), 0, 0, 0, 0, 0, 0, 0, (⟨#[]⟩ : ByteArray), (⟨#[]⟩ : ByteArray), ([] : List (S46)), 0, (⟨#[]⟩ : ByteArray), ([] : List (S48)), wrap64 (aJ.2.1 + 24), aJ.2.2)))) else (none)) else (some (0, 0, 0, (⟨#[]⟩ : ByteArray), 0, 0, (⟨#[]⟩ : ByteArray), 0, 0, (⟨#[]⟩ : ByteArray), 0, (⟨#[]⟩ : ByteArray), 0, 0, 0, 0, 0, 0, 0, (⟨#[]⟩ : ByteArray), (⟨#[]⟩ : ByteArray), ([] : List (S46)), 0, (⟨#[]⟩ : ByteArray), ([] : List (S48)), 1, 5))) else (none)) else (none))) = some (r1, r2, r3, r4, r5, r6, r7, r8, r9, r10, r11, r12, r13, r14, r15, r16, r17, r18, r19, r20, r21, r22, r23, r24, r25, r26, r27) := h
 clear h
 by_cases c2 : (a0.size : Int) < 24
 ·rw [if_pos c2] at H
  have gj : decide ((a0.size : Int) < 24) = true := decide_eq_true c2
  have ig : decide (a0.size < 24) = true := decide_eq_true Z40
  clear c2
  simp only [Option.some.injEq, Prod.mk.injEq] at H
  obtain ⟨rfl, rfl, rfl, rfl, rfl, rfl, rfl, rfl, rfl, rfl, rfl, rfl, rfl, rfl, rfl, rfl, rfl, rfl, rfl, rfl, rfl, rfl, rfl, rfl, rfl, rfl, rfl⟩ := H
  go_enter Try.func22, Try.ntmps22
  go_wp2_with (first | ((with_reducible refine gate_dst (N := 46) rfl ?_); refine Pre.build_event 46 25 [(0, Go.Operand.const (Go.Value.int Go.IntKind.i64 3)), (15, Go.Operand.tmp 41), (16, Go.Operand.tmp 44), (24, Go.Operand.tmp 45)] rfl rfl rfl (rreq_Get.bd46 _ _ _ _ _ _) ?_) | ((with_reducible refine Pre.gate_load 25 rfl ?_); (try (refine gate_guard Z23 ?_; dsimp only)); refine Pre.load_event rfl rfl rfl Z23 Z15 Try.underlying25 rfl Z14 ?_) | ((with_reducible refine gate_dst (N := 2) rfl ?_); refine Sq.box 2 #[.int .i64 0, .int .i64 0, .int .i64 0, .string ⟨#[]⟩, .int .i64 0, .int .i64 0, .string ⟨#[]⟩, .int .i64 0, .int .i64 0, .string ⟨#[]⟩, .int .i64 0, .string ⟨#[]⟩, .int .i64 0, .int .i64 0, .int .i64 0, .int .i64 0, .int .i64 0, .int .i64 0, .int .i64 0, .string ⟨#[]⟩, .string ⟨#[]⟩, .slice none 0 0, .int .i64 0, .string ⟨#[]⟩, .slice none 0 0] 25 ?_; intro ag hg w3 hbox hb; have ae := Aside0.mk (hbox); have cp := Aside0.mk (Sq.ge hg Z1); have bm := Aside0.mk (Sq.ge hg Z1); replace HB := Aside0.mk (below_step Z1 hb); clear hb hbox hg; have ml := cells_25 ae.out) | ((with_reducible refine Pre.gate_store 25 rfl ?_); refine Pre.store_abs (cur := #[.int .i64 0, .int .i64 0, .int .i64 0, .string ⟨#[]⟩, .int .i64 0, .int .i64 0, .string ⟨#[]⟩, .int .i64 0, .int .i64 0, .string ⟨#[]⟩, .int .i64 0, .string ⟨#[]⟩, .int .i64 0, .int .i64 0, .int .i64 0, .int .i64 0, .int .i64 0, .int .i64 0, .int .i64 0, .string ⟨#[]⟩, .string ⟨#[]⟩, .slice none 0 0, .int .i64 0, .string ⟨#[]⟩, .slice none 0 0]) (e := 25) rfl rfl rfl Z23 Z23 Z2 Z14 Z23 Z23 ?_; intro w5 hbS_ sS_; have bY : Aside0 (w5.heap[ag]? = some (.cells #[.int .i64 0, .int .i64 0, .int .i64 0, .string ⟨#[]⟩, .int .i64 0, .int .i64 0, .string ⟨#[]⟩, .int .i64 0, .int .i64 0, .string ⟨#[]⟩, .int .i64 0, .string ⟨#[]⟩, .int .i64 0, .int .i64 0, .int .i64 0, .int .i64 0, .int .i64 0, .int .i64 0, .int .i64 0, .string ⟨#[]⟩, .string ⟨#[]⟩, .slice none 0 0, .int .i64 0, .string ⟨#[]⟩, .slice none 0 0] 25 (0, 0))) := ⟨hbS_⟩; have ca : Aside0 (Below w.heap.size w w5) := ⟨sS_.below Z0 bm.out⟩; clear hbS_ sS_; replace ae := bY; replace HB := ca; clear bY ca))
  refine bodyPost_ret (results_ctt rfl _ _ ag 25 #[.int .i64 0, .int .i64 0, .int .i64 0, .string ⟨#[]⟩, .int .i64 0, .int .i64 0, .string ⟨#[]⟩, .int .i64 0, .int .i64 0, .string ⟨#[]⟩, .int .i64 0, .string ⟨#[]⟩, .int .i64 0, .int .i64 0, .int .i64 0, .int .i64 0, .int .i64 0, .int .i64 0, .int .i64 0, .string ⟨#[]⟩, .string ⟨#[]⟩, .slice none 0 0, .int .i64 0, .string ⟨#[]⟩, .slice none 0 0] (0, 0) _ rfl Z2 Try.underlying25 rfl Z14) rfl ?_
  exact ⟨_, _, Z5, Z13, Z24, Z0⟩
 ·rw [if_neg c2] at H
  have gj : decide ((a0.size : Int) < 24) = false := decide_eq_false c2
  have ig : decide (a0.size < 24) = false := decide_eq_false Z40
  clear c2
  by_cases c6 : 1 < (a0.size : Int)
  ·rw [if_pos c6] at H
   have fg : decide (1 < (a0.size : Int)) = true := decide_eq_true c6
   have fQ : decide (1 < a0.size) = true := decide_eq_true Z40
   clear c6
   by_cases c8 : 2 < (a0.size : Int)
   ·rw [if_pos c8] at H
    have hC : decide (2 < (a0.size : Int)) = true := decide_eq_true c8
    have jg : decide (2 < a0.size) = true := decide_eq_true Z40
    clear c8
    by_cases ey : (Go.bits .or .u8 (Go.bits .and .u8 (bt a0 1) 7) (bt a0 2)) = 0
    ·rw [if_pos ey] at H
     have eW : ((Go.bits .or .u8 (Go.bits .and .u8 (bt a0 1) 7) (bt a0 2)) == 0) = true := beq_iff_eq.mpr ey
     have gK : ((Go.bits .or .u8 (Go.bits .and .u8 (bt a0 1) 7) (bt a0 2)) != 0) = false := bne_eq_false_iff_eq.mpr ey
     clear ey
     by_cases ee : 24 ≤ (a0.size : Int)
     ·rw [if_pos ee] at H
      have eX := eq_true ee
      have hj : decide (24 ≤ (a0.size : Int)) = true := decide_eq_true ee
      clear ee
      replace H := Option.bind_eq_some_iff.mp H
      obtain ⟨⟨aM, aW, aY⟩, jd, H⟩ := H
      replace H : (if aY = 0 then (if 3 < (a0.size : Int) then ((cursor_New.f a0).bind fun dh => ((cursor_Text.f dh.1 dh.2.1 dh.2.2.1 dh.2.2.2 4).bind fun ez => ((cursor_Num.f ez.2.1 ez.2.2.1 ez.2.2.2.1 ez.2.2.2.2 4).bind fun bX => ((cursor_Text.f bX.2.1 bX.2.2.1 bX.2.2.2.1 bX.2.2.2.2 4).bind fun cV => ((cursor_Num.f cV.2.1 cV.2.2.1 cV.2.2.2.1 cV.2.2.2.2 4).bind fun cq => ((cursor_Text.f cq.2.1 cq.2.2.1 cq.2.2.2.1 cq.2.2.2.2 4).bind fun aU => ((cursor_Num.f aU.2.1 aU.2.2.1 aU.2.2.2.1 aU.2.2.2.2 4).bind fun eJ => (some (3, 0, 0, (⟨#[]⟩ : ByteArray), 0, 0, (⟨#[]⟩ : ByteArray), 0, 0, (⟨#[]⟩ : ByteArray), 0, (⟨#[]⟩ : ByteArray), cq.1, eJ.1, 0, wrap64 ((bt a0 1) / 8), wrap64 (bt a0 3), bX.1, 0, cV.1, aU.1, ([] : List (S46)), 0, (⟨#[]⟩ : ByteArray), aM, 0, 0))))))))) else (none)) else (some (0, 0, 0, (⟨#[]⟩ : ByteArray), 0, 0, (⟨#[]⟩ : ByteArray), 0, 0, (⟨#[]⟩ : ByteArray), 0, (⟨#[]⟩ : ByteArray), 0, 0, 0, 0, 0, 0, 0, (⟨#[]⟩ : ByteArray), (⟨#[]⟩ : ByteArray), ([] : List (S46)), 0, (⟨#[]⟩ : ByteArray), ([] : List (S48)), wrap64 (aW + 24), aY))) = some (r1, r2, r3, r4, r5, r6, r7, r8, r9, r10, r11, r12, r13, r14, r15, r16, r17, r18, r19, r20, r21, r22, r23, r24, r25, r26, r27) := H
      have oI := Aside0.mk jd
      clear jd
      by_cases eU : aY = 0
      ·rw [if_pos eU] at H
       have gL : (aY == 0) = true := beq_iff_eq.mpr eU
       have hM : (aY != 0) = false := bne_eq_false_iff_eq.mpr eU
       clear eU
       by_cases eB : 3 < (a0.size : Int)
       ·rw [if_pos eB] at H
        have hL : decide (3 < (a0.size : Int)) = true := decide_eq_true eB
        have jm : decide (3 < a0.size) = true := decide_eq_true Z40
        clear eB
        replace H := Option.bind_eq_some_iff.mp H
        obtain ⟨⟨aV, bi, bl, cK⟩, pZ, H⟩ := H
        replace H : ((cursor_Text.f aV bi bl cK 4).bind fun ez => ((cursor_Num.f ez.2.1 ez.2.2.1 ez.2.2.2.1 ez.2.2.2.2 4).bind fun bX => ((cursor_Text.f bX.2.1 bX.2.2.1 bX.2.2.2.1 bX.2.2.2.2 4).bind fun cV => ((cursor_Num.f cV.2.1 cV.2.2.1 cV.2.2.2.1 cV.2.2.2.2 4).bind fun cq => ((cursor_Text.f cq.2.1 cq.2.2.1 cq.2.2.2.1 cq.2.2.2.2 4).bind fun aU => ((cursor_Num.f aU.2.1 aU.2.2.1 aU.2.2.2.1 aU.2.2.2.2 4).bind fun eJ => (some (3, 0, 0, (⟨#[]⟩ : ByteArray), 0, 0, (⟨#[]⟩ : ByteArray), 0, 0, (⟨#[]⟩ : ByteArray), 0, (⟨#[]⟩ : ByteArray), cq.1, eJ.1, 0, wrap64 ((bt a0 1) / 8), wrap64 (bt a0 3), bX.1, 0, cV.1, aU.1, ([] : List (S46)), 0, (⟨#[]⟩ : ByteArray), aM, 0, 0)))))))) = some (r1, r2, r3, r4, r5, r6, r7, r8, r9, r10, r11, r12, r13, r14, r15, r16, r17, r18, r19, r20, r21, r22, r23, r24, r25, r26, r27) := H
        have tZ := Aside0.mk pZ
        clear pZ
        replace H := Option.bind_eq_some_iff.mp H
        obtain ⟨⟨el, dy, cT, cn, cY⟩, qa, H⟩ := H
        replace H : ((cursor_Num.f dy cT cn cY 4).bind fun bX => ((cursor_Text.f bX.2.1 bX.2.2.1 bX.2.2.2.1 bX.2.2.2.2 4).bind fun cV => ((cursor_Num.f cV.2.1 cV.2.2.1 cV.2.2.2.1 cV.2.2.2.2 4).bind fun cq => ((cursor_Text.f cq.2.1 cq.2.2.1 cq.2.2.2.1 cq.2.2.2.2 4).bind fun aU => ((cursor_Num.f aU.2.1 aU.2.2.1 aU.2.2.2.1 aU.2.2.2.2 4).bind fun eJ => (some (3, 0, 0, (⟨#[]⟩ : ByteArray), 0, 0, (⟨#[]⟩ : ByteArray), 0, 0, (⟨#[]⟩ : ByteArray), 0, (⟨#[]⟩ : ByteArray), cq.1, eJ.1, 0, wrap64 ((bt a0 1) / 8), wrap64 (bt a0 3), bX.1, 0, cV.1, aU.1, ([] : List (S46)), 0, (⟨#[]⟩ : ByteArray), aM, 0, 0))))))) = some (r1, r2, r3, r4, r5, r6, r7, r8, r9, r10, r11, r12, r13, r14, r15, r16, r17, r18, r19, r20, r21, r22, r23, r24, r25, r26, r27) := H
        have ua := Aside0.mk qa
        clear qa
        replace H := Option.bind_eq_some_iff.mp H
        obtain ⟨⟨cv, cm, co, dc, dB⟩, lc, H⟩ := H
        replace H : ((cursor_Text.f cm co dc dB 4).bind fun cV => ((cursor_Num.f cV.2.1 cV.2.2.1 cV.2.2.2.1 cV.2.2.2.2 4).bind fun cq => ((cursor_Text.f cq.2.1 cq.2.2.1 cq.2.2.2.1 cq.2.2.2.2 4).bind fun aU => ((cursor_Num.f aU.2.1 aU.2.2.1 aU.2.2.2.1 aU.2.2.2.2 4).bind fun eJ => (some (3, 0, 0, (⟨#[]⟩ : ByteArray), 0, 0, (⟨#[]⟩ : ByteArray), 0, 0, (⟨#[]⟩ : ByteArray), 0, (⟨#[]⟩ : ByteArray), cq.1, eJ.1, 0, wrap64 ((bt a0 1) / 8), wrap64 (bt a0 3), cv, 0, cV.1, aU.1, ([] : List (S46)), 0, (⟨#[]⟩ : ByteArray), aM, 0, 0)))))) = some (r1, r2, r3, r4, r5, r6, r7, r8, r9, r10, r11, r12, r13, r14, r15, r16, r17, r18, r19, r20, r21, r22, r23, r24, r25, r26, r27) := H
        have su := Aside0.mk lc
        clear lc
        replace H := Option.bind_eq_some_iff.mp H
        obtain ⟨⟨df, gh, eI, ej, de⟩, jq, H⟩ := H
        replace H : ((cursor_Num.f gh eI ej de 4).bind fun cq => ((cursor_Text.f cq.2.1 cq.2.2.1 cq.2.2.2.1 cq.2.2.2.2 4).bind fun aU => ((cursor_Num.f aU.2.1 aU.2.2.1 aU.2.2.2.1 aU.2.2.2.2 4).bind fun eJ => (some (3, 0, 0, (⟨#[]⟩ : ByteArray), 0, 0, (⟨#[]⟩ : ByteArray), 0, 0, (⟨#[]⟩ : ByteArray), 0, (⟨#[]⟩ : ByteArray), cq.1, eJ.1, 0, wrap64 ((bt a0 1) / 8), wrap64 (bt a0 3), cv, 0, df, aU.1, ([] : List (S46)), 0, (⟨#[]⟩ : ByteArray), aM, 0, 0))))) = some (r1, r2, r3, r4, r5, r6, r7, r8, r9, r10, r11, r12, r13, r14, r15, r16, r17, r18, r19, r20, r21, r22, r23, r24, r25, r26, r27) := H
        have gb := Aside0.mk jq
        clear jq
        replace H := Option.bind_eq_some_iff.mp H
        obtain ⟨⟨ef, eM, ih, fb, hq⟩, jr, H⟩ := H
        replace H : ((cursor_Text.f eM ih fb hq 4).bind fun aU => ((cursor_Num.f aU.2.1 aU.2.2.1 aU.2.2.2.1 aU.2.2.2.2 4).bind fun eJ => (some (3, 0, 0, (⟨#[]⟩ : ByteArray), 0, 0, (⟨#[]⟩ : ByteArray), 0, 0, (⟨#[]⟩ : ByteArray), 0, (⟨#[]⟩ : ByteArray), ef, eJ.1, 0, wrap64 ((bt a0 1) / 8), wrap64 (bt a0 3), cv, 0, df, aU.1, ([] : List (S46)), 0, (⟨#[]⟩ : ByteArray), aM, 0, 0)))) = some (r1, r2, r3, r4, r5, r6, r7, r8, r9, r10, r11, r12, r13, r14, r15, r16, r17, r18, r19, r20, r21, r22, r23, r24, r25, r26, r27) := H
        have eF := Aside0.mk jr
        clear jr
        replace H := Option.bind_eq_some_iff.mp H
        obtain ⟨⟨dX, gl, fh, hN, hO⟩, qb, H⟩ := H
        replace H : ((cursor_Num.f gl fh hN hO 4).bind fun eJ => (some (3, 0, 0, (⟨#[]⟩ : ByteArray), 0, 0, (⟨#[]⟩ : ByteArray), 0, 0, (⟨#[]⟩ : ByteArray), 0, (⟨#[]⟩ : ByteArray), ef, eJ.1, 0, wrap64 ((bt a0 1) / 8), wrap64 (bt a0 3), cv, 0, df, dX, ([] : List (S46)), 0, (⟨#[]⟩ : ByteArray), aM, 0, 0))) = some (r1, r2, r3, r4, r5, r6, r7, r8, r9, r10, r11, r12, r13, r14, r15, r16, r17, r18, r19, r20, r21, r22, r23, r24, r25, r26, r27) := H
        have ub := Aside0.mk qb
        clear qb
        replace H := Option.bind_eq_some_iff.mp H
        obtain ⟨⟨ii, ij, ik, il, im⟩, js, H⟩ := H
        replace H : (some (3, 0, 0, (⟨#[]⟩ : ByteArray), 0, 0, (⟨#[]⟩ : ByteArray), 0, 0, (⟨#[]⟩ : ByteArray), 0, (⟨#[]⟩ : ByteArray), ef, ii, 0, wrap64 ((bt a0 1) / 8), wrap64 (bt a0 3), cv, 0, df, dX, ([] : List (S46)), 0, (⟨#[]⟩ : ByteArray), aM, 0, 0)) = some (r1, r2, r3, r4, r5, r6, r7, r8, r9, r10, r11, r12, r13, r14, r15, r16, r17, r18, r19, r20, r21, r22, r23, r24, r25, r26, r27) := H
        have mm := Aside0.mk js
        clear js
        simp only [Option.some.injEq, Prod.mk.injEq] at H
        obtain ⟨rfl, rfl, rfl, rfl, rfl, rfl, rfl, rfl, rfl, rfl, rfl, rfl, rfl, rfl, rfl, rfl, rfl, rfl, rfl, rfl, rfl, rfl, rfl, rfl, rfl, rfl, rfl⟩ := H
        go_enter Try.func22, Try.ntmps22
        try go_wp2_with (first | ((with_reducible refine gate_dst (N := 46) rfl ?_); refine Pre.build_event 46 25 [(0, Go.Operand.const (Go.Value.int Go.IntKind.i64 3)), (15, Go.Operand.tmp 41), (16, Go.Operand.tmp 44), (24, Go.Operand.tmp 45)] rfl rfl rfl (rreq_Get.bd46 _ _ _ _ _ _) ?_) | ((with_reducible refine Pre.gate_load 25 rfl ?_); (try (refine gate_guard Z23 ?_; dsimp only)); refine Pre.load_event rfl rfl rfl Z23 Z15 Try.underlying25 rfl Z14 ?_) | ((with_reducible refine gate_dst (N := 2) rfl ?_); refine Sq.box 2 #[.int .i64 0, .int .i64 0, .int .i64 0, .string ⟨#[]⟩, .int .i64 0, .int .i64 0, .string ⟨#[]⟩, .int .i64 0, .int .i64 0, .string ⟨#[]⟩, .int .i64 0, .string ⟨#[]⟩, .int .i64 0, .int .i64 0, .int .i64 0, .int .i64 0, .int .i64 0, .int .i64 0, .int .i64 0, .string ⟨#[]⟩, .string ⟨#[]⟩, .slice none 0 0, .int .i64 0, .string ⟨#[]⟩, .slice none 0 0] 25 ?_; intro ag hg oa hbox hb; have ae := Aside0.mk (hbox); have cp := Aside0.mk (Sq.ge hg Z1); have bm := Aside0.mk (Sq.ge hg Z1); replace HB := Aside0.mk (below_step Z1 hb); clear hb hbox hg))
        have bY := Aside0.mk (blk_drew ae.out)
        have ca := Aside0.mk (below_drew1 HB.out)
        clear ae
        clear HB
        have ae := bY
        have HB := ca
        clear bY ca
        have p7 : 0 ≤ (1 : Int) := Z40
        have q7 : 1 < a0.size := (by have : (1 : Int) < (a0.size : Int) := of_decide_eq_true Z6; omega)
        have hx7 : ∀ h : 1 < a0.size, ((a0[1]'h).toNat : Int) = bt a0 1 := bt_at a0 1
        clear p7
        have qi7 : (1 < (a0.size : Int)) = True := eq_true (of_decide_eq_true Z6)
        replace q7 := eq_true q7
        have p9 : 0 ≤ (2 : Int) := Z40
        have q9 : 2 < a0.size := (by have : (2 : Int) < (a0.size : Int) := of_decide_eq_true Z6; omega)
        have hx9 : ∀ h : 2 < a0.size, ((a0[2]'h).toNat : Int) = bt a0 2 := bt_at a0 2
        clear p9
        have qi9 : (2 < (a0.size : Int)) = True := eq_true (of_decide_eq_true Z6)
        replace q9 := eq_true q9
        refine start_ (n := 7) (S := fun w' => True) (ds := []) (Sq.b 7 0) Z14 rfl rfl trivial (fun hHeld => ?_)
        generalize oa.drew = tw at ae HB hHeld ⊢
        refine pure_ (i := 0) (N := some 17) (v := ?_) (a' := ?_) (Sq.b 7 1) rfl rfl Z14 (fun _ _ _ h => h) (Or.inl ⟨Z23, ?_⟩) ?_ ?_
        rotate_left
        ·intro w'
         go_simp
         with_reducible rfl
        rotate_left
        ·simp only [Act.put, Sq.s1, Sq.s2, Sq.s3, i64_w, i32_w]
         rfl
        refine pure_ (i := 3) (N := some 20) (v := ?_) (a' := ?_) (Sq.b 7 9) rfl rfl Z14 (fun _ _ _ h => h) (Or.inl ⟨Z23, ?_⟩) ?_ ?_
        rotate_left
        ·intro w'
         go_simp
         with_reducible rfl
        rotate_left
        ·simp only [Act.put, Sq.s1, Sq.s2, Sq.s3, i64_w, i32_w]
         rfl
        refine take_ (i := 1) (N := some 18) (v := ?_) (a' := ?_) (Sq.b 7 11) rfl rfl Z14 (fun _ _ _ h => h) (Or.inl ⟨Z23, ?_⟩) hHeld ?_ ?_
        rotate_left
        ·intro w' _
         go_simp
         with_reducible rfl
        rotate_left
        ·simp only [Act.put, Sq.s1, Sq.s2, Sq.s3, i64_w, i32_w]
         rfl
        refine pure_ (i := 2) (N := some 19) (v := ?_) (a' := ?_) (Sq.b 7 15) rfl rfl Z14 (fun _ _ _ h => h) (Or.inl ⟨Z23, ?_⟩) ?_ ?_
        rotate_left
        ·intro w'
         go_simp
         with_reducible rfl
        rotate_left
        ·simp only [Act.put, Sq.s1, Sq.s2, Sq.s3, i64_w, i32_w]
         rfl
        refine take_ (i := 4) (N := some 21) (v := ?_) (a' := ?_) (Sq.b 7 31) rfl rfl Z14 (fun _ _ _ h => h) (Or.inl ⟨Z23, ?_⟩) hHeld ?_ ?_
        rotate_left
        ·intro w' _
         go_simp
         with_reducible rfl
        rotate_left
        ·simp only [Act.put, Sq.s1, Sq.s2, Sq.s3, i64_w, i32_w]
         rfl
        refine pure_ (i := 5) (N := some 22) (v := ?_) (a' := ?_) (Sq.b 7 63) rfl rfl Z14 (fun _ _ _ h => h) (Or.inl ⟨Z23, ?_⟩) ?_ ?_
        rotate_left
        ·intro w'
         go_simp
         with_reducible rfl
        rotate_left
        ·simp only [Act.put, Sq.s1, Sq.s2, Sq.s3, i64_w, i32_w]
         rfl
        refine pure_ (i := 6) (N := some 23) (v := ?_) (a' := ?_) (Sq.b 7 127) rfl rfl Z14 (fun _ _ _ h => h) (Or.inl ⟨Z23, ?_⟩) ?_ ?_
        rotate_left
        ·intro w'
         go_simp
         with_reducible rfl
        rotate_left
        ·simp only [Act.put, Sq.s1, Sq.s2, Sq.s3, i64_w, i32_w]
         rfl
        refine done_ Z14 ?_
        try go_wp2_with (first | ((with_reducible refine gate_dst (N := 46) rfl ?_); refine Pre.build_event 46 25 [(0, Go.Operand.const (Go.Value.int Go.IntKind.i64 3)), (15, Go.Operand.tmp 41), (16, Go.Operand.tmp 44), (24, Go.Operand.tmp 45)] rfl rfl rfl (rreq_Get.bd46 _ _ _ _ _ _) ?_) | ((with_reducible refine Pre.gate_load 25 rfl ?_); (try (refine gate_guard Z23 ?_; dsimp only)); refine Pre.load_event rfl rfl rfl Z23 Z15 Try.underlying25 rfl Z14 ?_) | ((with_reducible refine gate_callee (f := 59) rfl ?_); refine goesL_ (some 28) rfl rfl Try.func59 Z14 rfl #[.string (a0.extract 24 a0.size)] rfl Z4 ?_; (with_reducible refine (ext_Get.calls k (a0.extract 24 a0.size) aM aW aY _ oI.out).mono ?_); rintro e jM ⟨ld, rfl, ho0, hb⟩; refine ⟨_, rfl, ?_⟩; have cd := Aside0.mk (Kd.R_lower ho0 (below_size Z0)); replace ae := Aside0.mk (blk_below (g := ag) Z2 hb); replace HB := Aside0.mk (below_step Z0 hb); clear hb ho0))
        have bY := Aside0.mk (Kd.R_drew cd.out)
        have ca := Aside0.mk (blk_drew ae.out)
        have cZ := Aside0.mk (below_drew1 HB.out)
        clear cd
        clear ae
        clear HB
        have cd := bY
        have ae := ca
        have HB := cZ
        clear bY ca cZ
        have p14 : 0 ≤ (1 : Int) := Z40
        have q14 : 1 < a0.size := (by have : (1 : Int) < (a0.size : Int) := of_decide_eq_true Z6; omega)
        have hx14 : ∀ h : 1 < a0.size, ((a0[1]'h).toNat : Int) = bt a0 1 := bt_at a0 1
        clear p14
        have qi14 : (1 < (a0.size : Int)) = True := eq_true (of_decide_eq_true Z6)
        replace q14 := eq_true q14
        have p16 : 0 ≤ (3 : Int) := Z40
        have q16 : 3 < a0.size := (by have : (3 : Int) < (a0.size : Int) := of_decide_eq_true Z6; omega)
        have hx16 : ∀ h : 3 < a0.size, ((a0[3]'h).toNat : Int) = bt a0 3 := bt_at a0 3
        clear p16
        have qi16 : (3 < (a0.size : Int)) = True := eq_true (of_decide_eq_true Z6)
        replace q16 := eq_true q16
        obtain ⟨fS, fT, eo28⟩ := Kd.R_slice cd.out
        (first | subst eo28 | (injection eo28 with f1_ f2_ f3_; have f4_ := f1_.symm; have f5_ := f3_.symm; clear f1_ f2_ f3_; subst f4_; subst f5_))
        refine start_ (n := 11) (S := fun w' => True) (ds := []) (Sq.b 11 0) Z14 rfl rfl trivial (fun hHeld => ?_); refine with_tabW rreq_Get.tab8 rreq_Get.bits8 (fun HT_ HW_ => ?_)
        generalize jM.drew = mi at cd ae HB hHeld ⊢
        refine Sq.pur 0 (some 38) (Sq.b 11 1) HT_.out ?_
        refine Sq.pur 4 (some 42) (Sq.b 11 17) HT_.out ?_
        refine Sq.pur 7 (some 45) (Sq.b 11 145) HT_.out ?_
        refine Sq.tak 1 (some 39) (Sq.b 11 147) HT_.out HW_.out hHeld (v := ?_) (a' := ?_) ?_ ?_ ?_
        rotate_left
        ·intro w' _
         go_simp
         with_reducible rfl
        rotate_left
        ·simp only [Act.put, Sq.s1, Sq.s2, Sq.s3, i64_w, i32_w]
         rfl
        refine Sq.pur 2 (some 40) (Sq.b 11 151) HT_.out ?_
        refine Sq.pur 3 (some 41) (Sq.b 11 159) HT_.out ?_
        refine Sq.tak 5 (some 43) (Sq.b 11 191) HT_.out HW_.out hHeld (v := ?_) (a' := ?_) ?_ ?_ ?_
        rotate_left
        ·intro w' _
         go_simp
         with_reducible rfl
        rotate_left
        ·simp only [Act.put, Sq.s1, Sq.s2, Sq.s3, i64_w, i32_w]
         rfl
        refine Sq.pur 6 (some 44) (Sq.b 11 255) HT_.out ?_
        refine pure_ (i := 8) (N := some 46) (v := ?_) (a' := ?_) (Sq.b 11 511) rfl rfl (any_of HT_.out Z14) (fun _ _ _ h => h) (Or.inl ⟨Z23, ?_⟩) ?_ ?_
        rotate_left
        ·intro w'
         refine Eq.trans (Pre.build_run 25 [(0, Go.Operand.const (Go.Value.int Go.IntKind.i64 3)), (15, Go.Operand.tmp 41), (16, Go.Operand.tmp 44), (24, Go.Operand.tmp 45)] rfl (rreq_Get.bd46 _ _ _ _ _ _)) ?_
         with_reducible rfl
        rotate_left
        ·simp only [Act.put, Sq.s1, Sq.s2, Sq.s3, i64_w, i32_w]
         rfl
        refine one_ (i := 9) (N := some 8) (Sq.b 11 1023) rfl rfl (one_of HT_.out Z14) Z29 (fun K hK => ?_)
        refine box_step ?hg (N := 8) ?hd (cs := #[.int .i64 0, .int .i64 0, .int .i64 0, .string ⟨#[]⟩, .int .i64 0, .int .i64 0, .string ⟨#[]⟩, .int .i64 0, .int .i64 0, .string ⟨#[]⟩, .int .i64 0, .string ⟨#[]⟩, .int .i64 0, .int .i64 0, .int .i64 0, .int .i64 0, .int .i64 0, .int .i64 0, .int .i64 0, .string ⟨#[]⟩, .string ⟨#[]⟩, .slice none 0 0, .int .i64 0, .string ⟨#[]⟩, .slice none 0 0]) (t := 25) ?hr ?_; (case hd => rfl); (case hg => rfl); (case hr => first | (go_simp; done) | (go_simp; rfl))
        intro bn hg rS hbox hb
        have bY := Aside0.mk (Kd.R_below Z62 hb)
        have ca := Aside0.mk (blk_below (g := ag) Z2 hb)
        have cZ := Aside0.mk (below_step Z0 hb)
        have ex := Aside0.mk (hbox)
        have hP := Aside0.mk ((by rw [hg]; exact (below_size Z0) : w.heap.size ≤ bn))
        have jW := Aside0.mk ((by rw [hg]; exact (below_size Z0) : w.heap.size ≤ bn))
        have qc := Aside0.mk ((by rw [hg]; exact Nat.ne_of_lt (blk_lt (g := ag) Z2) : ag ≠ bn))
        have qd := Aside0.mk ((by rw [hg]; exact Nat.ne_of_gt (blk_lt (g := ag) Z2) : bn ≠ ag))
        clear cd
        clear ae
        clear HB
        have cd := bY
        have ae := ca
        have HB := cZ
        have bf := ex
        have jQ := hP
        have gd := jW
        have ev := qc
        have fW := qd
        clear bY ca cZ ex hP jW qc qd
        clear hb hbox hg
        refine hK.out _ _ trivial (fun hHeld => ?_)
        clear hK K
        refine norm_ (a' := ?_) ?_ ?_
        rotate_left
        ·show Act.put _ (some 8) _ = _
         simp only [Act.put, Sq.s1, Sq.s2, Sq.s3, i64_w, i32_w]
         rfl
        refine one_ (i := 10) (N := none) (Sq.b 11 2047) rfl rfl (one_of HT_.out Z14) Z29 (fun K hK => ?_)
        refine skip_ (w1 := ?_) Z23 rfl ?_ ?_
        rotate_left
        ·refine Eq.trans (Pre.store_run rfl Z23 Z23 bf.out Z14 Z23 Z23) ?_
         rfl
        refine hK.out _ _ trivial (fun hHeld => ?_)
        clear hK K
        refine done_ (done_of HT_.out Z14) ?_
        refine Pre.abs_end (g := bn) (t := 25) (cs := #[.int .i64 0, .int .i64 0, .int .i64 0, .string ⟨#[]⟩, .int .i64 0, .int .i64 0, .string ⟨#[]⟩, .int .i64 0, .int .i64 0, .string ⟨#[]⟩, .int .i64 0, .string ⟨#[]⟩, .int .i64 0, .int .i64 0, .int .i64 0, .int .i64 0, .int .i64 0, .int .i64 0, .int .i64 0, .string ⟨#[]⟩, .string ⟨#[]⟩, .slice none 0 0, .int .i64 0, .string ⟨#[]⟩, .slice none 0 0]) (cells := #[.int .i64 3, .int .i64 0, .int .i64 0, .string ⟨#[]⟩, .int .i64 0, .int .i64 0, .string ⟨#[]⟩, .int .i64 0, .int .i64 0, .string ⟨#[]⟩, .int .i64 0, .string ⟨#[]⟩, .int .i64 0, .int .i64 0, .int .i64 0, .int .i64 (wrap64 ((bt a0 1) / 8)), .int .i64 (wrap64 (bt a0 3)), .int .i64 0, .int .i64 0, .string ⟨#[]⟩, .string ⟨#[]⟩, .slice none 0 0, .int .i64 0, .string ⟨#[]⟩, .slice fS aM.length fT]) Z25 Z23 ?_
        intro qe hbS_ sS_
        replace hbS_ := Aside0.mk hbS_
        replace sS_ : Aside0 (Pre.Sets bn rS qe) := ⟨⟨sS_.os, sS_.tape, sS_.output, sS_.size, sS_.block⟩⟩
        have bY : Aside0 (Kd.R k48 48 qe w.heap.size (fun _ => True) (.slice fS aM.length fT) aM) := ⟨Kd.R_mono (Pre.R_sets sS_.out (Kd.R_types cd.out bf.out Z29) (fun _ hk => hk.2)) (fun _ hk => trivial)⟩
        have ca : Aside0 (qe.heap[ag]? = some (.cells #[.int .i64 0, .int .i64 0, .int .i64 0, .string ⟨#[]⟩, .int .i64 0, .int .i64 0, .string ⟨#[]⟩, .int .i64 0, .int .i64 0, .string ⟨#[]⟩, .int .i64 0, .string ⟨#[]⟩, .int .i64 0, .int .i64 0, .int .i64 0, .int .i64 0, .int .i64 0, .int .i64 0, .int .i64 0, .string ⟨#[]⟩, .string ⟨#[]⟩, .slice none 0 0, .int .i64 0, .string ⟨#[]⟩, .slice none 0 0] 25 (0, 0))) := ⟨sS_.out.blk Z2 ev.out⟩
        have cZ : Aside0 (qe.heap[bn]? = some (.cells #[.int .i64 3, .int .i64 0, .int .i64 0, .string ⟨#[]⟩, .int .i64 0, .int .i64 0, .string ⟨#[]⟩, .int .i64 0, .int .i64 0, .string ⟨#[]⟩, .int .i64 0, .string ⟨#[]⟩, .int .i64 0, .int .i64 0, .int .i64 0, .int .i64 (wrap64 ((bt a0 1) / 8)), .int .i64 (wrap64 (bt a0 3)), .int .i64 0, .int .i64 0, .string ⟨#[]⟩, .string ⟨#[]⟩, .slice none 0 0, .int .i64 0, .string ⟨#[]⟩, .slice fS aM.length fT] 25 (0, 0))) := ⟨hbS_.out⟩
        have ex : Aside0 (Below w.heap.size w qe) := ⟨sS_.out.below Z22 gd.out⟩
        clear hbS_ sS_
        (try clear cd)
        (try clear ae)
        (try clear bf)
        (try clear HB)
        have cd := bY
        have ae := ca
        have bf := cZ
        have HB := ex
        clear bY ca cZ ex
        try go_wp2_with (first | ((with_reducible refine gate_dst (N := 46) rfl ?_); refine Pre.build_event 46 25 [(0, Go.Operand.const (Go.Value.int Go.IntKind.i64 3)), (15, Go.Operand.tmp 41), (16, Go.Operand.tmp 44), (24, Go.Operand.tmp 45)] rfl rfl rfl (rreq_Get.bd46 _ _ _ _ _ _) ?_) | ((with_reducible refine Pre.gate_load 25 rfl ?_); (try (refine gate_guard Z23 ?_; dsimp only)); refine Pre.load_event rfl rfl rfl Z23 Z15 Try.underlying25 rfl Z14 ?_) | ((with_reducible refine gate_callee (f := 61) rfl ?_); refine goesL_ (some 49) rfl rfl Try.func61 Z14 rfl #[.string a0] rfl Z4 ?_; (with_reducible refine (cursor_New.calls a0 aV bi bl cK _ tZ.out).mono ?_); rintro e w56 ⟨rfl, hb⟩; refine ⟨_, rfl, ?_⟩; replace cd := Aside0.mk (Kd.R_below Z62 hb); replace ae := Aside0.mk (blk_below (g := ag) Z2 hb); replace bf := Aside0.mk (blk_below (g := bn) Z25 hb); replace HB := Aside0.mk (below_step Z22 hb); clear hb) | ((with_reducible refine gate_callee (f := 60) rfl ?_); refine goesL_ (some 50) rfl rfl Try.func60 Z14 rfl #[.agg #[.string aV, .int .i64 bi, .int .i64 bl, .bool cK], .int .i64 4] rfl Z4 ?_; (with_reducible refine (cursor_Text.calls aV bi bl cK 4 el dy cT cn cY _ ua.out).mono ?_); rintro e w57 ⟨rfl, hb⟩; refine ⟨_, rfl, ?_⟩; replace cd := Aside0.mk (Kd.R_below Z62 hb); replace ae := Aside0.mk (blk_below (g := ag) Z2 hb); replace bf := Aside0.mk (blk_below (g := bn) Z25 hb); replace HB := Aside0.mk (below_step Z22 hb); clear hb) | ((with_reducible refine gate_dst (N := 10) rfl ?_); refine Sq.box 10 #[.string ⟨#[]⟩, .int .i64 0, .int .i64 0, .bool false] 60 ?_; intro ea hg w58 hbox hb; have es := Aside0.mk (hbox); have GW117 := Aside0.mk (Sq.ge hg Z22); have qf := Aside0.mk (Sq.ge hg Z22); have em := Aside0.mk (Sq.nl hg (blk_lt (g := ag) Z2)); have iI := Aside0.mk (Sq.ng hg (blk_lt (g := ag) Z2)); have cc := Aside0.mk (Sq.nl hg (blk_lt (g := bn) Z25)); have gX := Aside0.mk (Sq.ng hg (blk_lt (g := bn) Z25)); replace cd := Aside0.mk (Kd.R_below Z62 hb); replace ae := Aside0.mk (blk_below (g := ag) Z2 hb); replace bf := Aside0.mk (blk_below (g := bn) Z25 hb); replace HB := Aside0.mk (below_step Z22 hb); clear hb hbox hg; have hnb59 := iI.out; have hnc59 := em.out; have qg := gX.out; have qh := cc.out; have qi := cells_4 es.out) | ((with_reducible refine gate_callee (f := 62) rfl ?_); refine goesL_ (some 55) rfl rfl Try.func62 Z14 rfl #[.agg #[.string dy, .int .i64 cT, .int .i64 cn, .bool cY], .int .i64 4] rfl Z4 ?_; (with_reducible refine (cursor_Num.calls dy cT cn cY 4 cv cm co dc dB _ su.out).mono ?_); rintro e oK ⟨rfl, hb⟩; refine ⟨_, rfl, ?_⟩; replace cd := Aside0.mk (Kd.R_below (by (with_reducible repeat (first | apply Kd.R_alloc | apply Kd.R_drewN | apply Kd.R_drew)); exact (Kd.R_mono (Kd.R_far (p := ⟨ea, 3, none⟩) (Kd.R_far (p := ⟨ea, 2, none⟩) (Kd.R_far (p := ⟨ea, 1, none⟩) (Kd.R_far (p := ⟨ea, 0, none⟩) (Kd.R_types cd.out es.out Z29) (fun _ hk => hk.2) (.string dy)) (fun _ hk => hk.2) (.int .i64 cT)) (fun _ hk => hk.2) (.int .i64 cn)) (fun _ hk => hk.2) (.bool cY)) (fun _ h_ => h_.1))) hb); replace ae := Aside0.mk (blk_below (g := ag) (o := .cells #[.int .i64 0, .int .i64 0, .int .i64 0, .string ⟨#[]⟩, .int .i64 0, .int .i64 0, .string ⟨#[]⟩, .int .i64 0, .int .i64 0, .string ⟨#[]⟩, .int .i64 0, .string ⟨#[]⟩, .int .i64 0, .int .i64 0, .int .i64 0, .int .i64 0, .int .i64 0, .int .i64 0, .int .i64 0, .string ⟨#[]⟩, .string ⟨#[]⟩, .slice none 0 0, .int .i64 0, .string ⟨#[]⟩, .slice none 0 0] 25 (0, 0)) (by (with_reducible repeat (first | refine blk_drewN ?_ _ | refine blk_drew ?_ | refine blk_alloc ?_ _)); refine blk_far ?_ em.out _; (with_reducible repeat (first | refine blk_drewN ?_ _ | refine blk_drew ?_ | refine blk_alloc ?_ _)); refine blk_far ?_ em.out _; (with_reducible repeat (first | refine blk_drewN ?_ _ | refine blk_drew ?_ | refine blk_alloc ?_ _)); refine blk_far ?_ em.out _; (with_reducible repeat (first | refine blk_drewN ?_ _ | refine blk_drew ?_ | refine blk_alloc ?_ _)); refine blk_far ?_ em.out _; (with_reducible repeat (first | refine blk_drewN ?_ _ | refine blk_drew ?_ | refine blk_alloc ?_ _)); exact ae.out) hb); replace bf := Aside0.mk (blk_below (g := bn) (o := .cells #[.int .i64 3, .int .i64 0, .int .i64 0, .string ⟨#[]⟩, .int .i64 0, .int .i64 0, .string ⟨#[]⟩, .int .i64 0, .int .i64 0, .string ⟨#[]⟩, .int .i64 0, .string ⟨#[]⟩, .int .i64 0, .int .i64 0, .int .i64 0, .int .i64 (wrap64 ((bt a0 1) / 8)), .int .i64 (wrap64 (bt a0 3)), .int .i64 0, .int .i64 0, .string ⟨#[]⟩, .string ⟨#[]⟩, .slice none 0 0, .int .i64 0, .string ⟨#[]⟩, .slice fS aM.length fT] 25 (0, 0)) (by (with_reducible repeat (first | refine blk_drewN ?_ _ | refine blk_drew ?_ | refine blk_alloc ?_ _)); refine blk_far ?_ cc.out _; (with_reducible repeat (first | refine blk_drewN ?_ _ | refine blk_drew ?_ | refine blk_alloc ?_ _)); refine blk_far ?_ cc.out _; (with_reducible repeat (first | refine blk_drewN ?_ _ | refine blk_drew ?_ | refine blk_alloc ?_ _)); refine blk_far ?_ cc.out _; (with_reducible repeat (first | refine blk_drewN ?_ _ | refine blk_drew ?_ | refine blk_alloc ?_ _)); refine blk_far ?_ cc.out _; (with_reducible repeat (first | refine blk_drewN ?_ _ | refine blk_drew ?_ | refine blk_alloc ?_ _)); exact bf.out) hb); replace es := Aside0.mk (blk_below (g := ea) (o := .cells #[.string dy, .int .i64 cT, .int .i64 cn, .bool cY] 60 (0, 0)) (by (with_reducible repeat (first | refine blk_drewN ?_ _ | refine blk_drew ?_ | refine blk_alloc ?_ _)); apply blk_puts4; (with_reducible repeat (first | refine blk_drewN ?_ _ | refine blk_drew ?_ | refine blk_alloc ?_ _)); exact es.out) hb); replace HB := Aside0.mk (below_step Z31 hb); clear hb; (try clear hk); have hnb63 := fW.out; have hnc63 := ev.out; have hcz64 := cells_25 bf.out; have hcz65 := cells_4 es.out) | ((with_reducible refine gate_callee (f := 60) rfl ?_); refine goesL_ (some 61) rfl rfl Try.func60 Z14 rfl #[.agg #[.string cm, .int .i64 co, .int .i64 dc, .bool dB], .int .i64 4] rfl Z4 ?_; (with_reducible refine (cursor_Text.calls cm co dc dB 4 df gh eI ej de _ gb.out).mono ?_); rintro e uc ⟨rfl, hb⟩; refine ⟨_, rfl, ?_⟩; replace cd := Aside0.mk (Kd.R_below (by (with_reducible repeat (first | apply Kd.R_alloc | apply Kd.R_drewN | apply Kd.R_drew)); exact (Kd.R_mono (Kd.R_mono (Kd.R_far (p := ⟨ea, 3, none⟩) (Kd.R_far (p := ⟨ea, 2, none⟩) (Kd.R_far (p := ⟨ea, 1, none⟩) (Kd.R_far (p := ⟨ea, 0, none⟩) (Kd.R_far (p := ⟨bn, 17, none⟩) (Kd.R_types (Kd.R_types cd.out bf.out Z29) es.out Z29) (fun _ hk => hk.1.2) (.int .i64 cv)) (fun _ hk => hk.2) (.string cm)) (fun _ hk => hk.2) (.int .i64 co)) (fun _ hk => hk.2) (.int .i64 dc)) (fun _ hk => hk.2) (.bool dB)) (fun _ h_ => h_.1)) (fun _ h_ => h_.1))) hb); replace ae := Aside0.mk (blk_below (g := ag) (o := .cells #[.int .i64 0, .int .i64 0, .int .i64 0, .string ⟨#[]⟩, .int .i64 0, .int .i64 0, .string ⟨#[]⟩, .int .i64 0, .int .i64 0, .string ⟨#[]⟩, .int .i64 0, .string ⟨#[]⟩, .int .i64 0, .int .i64 0, .int .i64 0, .int .i64 0, .int .i64 0, .int .i64 0, .int .i64 0, .string ⟨#[]⟩, .string ⟨#[]⟩, .slice none 0 0, .int .i64 0, .string ⟨#[]⟩, .slice none 0 0] 25 (0, 0)) Z20 hb); replace bf := Aside0.mk (blk_below (g := bn) (o := .cells #[.int .i64 3, .int .i64 0, .int .i64 0, .string ⟨#[]⟩, .int .i64 0, .int .i64 0, .string ⟨#[]⟩, .int .i64 0, .int .i64 0, .string ⟨#[]⟩, .int .i64 0, .string ⟨#[]⟩, .int .i64 0, .int .i64 0, .int .i64 0, .int .i64 (wrap64 ((bt a0 1) / 8)), .int .i64 (wrap64 (bt a0 3)), .int .i64 cv, .int .i64 0, .string ⟨#[]⟩, .string ⟨#[]⟩, .slice none 0 0, .int .i64 0, .string ⟨#[]⟩, .slice fS aM.length fT] 25 (0, 0)) (by (with_reducible repeat (first | refine blk_drewN ?_ _ | refine blk_drew ?_ | refine blk_alloc ?_ _)); refine blk_far ?_ cc.out _; (with_reducible repeat (first | refine blk_drewN ?_ _ | refine blk_drew ?_ | refine blk_alloc ?_ _)); refine blk_far ?_ cc.out _; (with_reducible repeat (first | refine blk_drewN ?_ _ | refine blk_drew ?_ | refine blk_alloc ?_ _)); refine blk_far ?_ cc.out _; (with_reducible repeat (first | refine blk_drewN ?_ _ | refine blk_drew ?_ | refine blk_alloc ?_ _)); refine blk_far ?_ cc.out _; (with_reducible repeat (first | refine blk_drewN ?_ _ | refine blk_drew ?_ | refine blk_alloc ?_ _)); refine blk_put (cs := #[.int .i64 3, .int .i64 0, .int .i64 0, .string ⟨#[]⟩, .int .i64 0, .int .i64 0, .string ⟨#[]⟩, .int .i64 0, .int .i64 0, .string ⟨#[]⟩, .int .i64 0, .string ⟨#[]⟩, .int .i64 0, .int .i64 0, .int .i64 0, .int .i64 (wrap64 ((bt a0 1) / 8)), .int .i64 (wrap64 (bt a0 3)), .int .i64 0, .int .i64 0, .string ⟨#[]⟩, .string ⟨#[]⟩, .slice none 0 0, .int .i64 0, .string ⟨#[]⟩, .slice fS aM.length fT]) ?_ 17 _ rfl; (with_reducible repeat (first | refine blk_drewN ?_ _ | refine blk_drew ?_ | refine blk_alloc ?_ _)); exact bf.out) hb); replace es := Aside0.mk (blk_below (g := ea) (o := .cells #[.string cm, .int .i64 co, .int .i64 dc, .bool dB] 60 (0, 0)) Z33 hb); replace HB := Aside0.mk (below_step Z31 hb); clear hb; (try clear hk); have hcz67 := cells_25 bf.out; have hcz68 := cells_4 es.out) | ((with_reducible refine gate_callee (f := 62) rfl ?_); refine goesL_ (some 67) rfl rfl Try.func62 Z14 rfl #[.agg #[.string gh, .int .i64 eI, .int .i64 ej, .bool de], .int .i64 4] rfl Z4 ?_; (with_reducible refine (cursor_Num.calls gh eI ej de 4 ef eM ih fb hq _ eF.out).mono ?_); rintro e w69 ⟨rfl, hb⟩; refine ⟨_, rfl, ?_⟩; replace cd := Aside0.mk (Kd.R_below (by (with_reducible repeat (first | apply Kd.R_alloc | apply Kd.R_drewN | apply Kd.R_drew)); exact (Kd.R_mono (Kd.R_mono (Kd.R_far (p := ⟨ea, 3, none⟩) (Kd.R_far (p := ⟨ea, 2, none⟩) (Kd.R_far (p := ⟨ea, 1, none⟩) (Kd.R_far (p := ⟨ea, 0, none⟩) (Kd.R_far (p := ⟨bn, 19, none⟩) (Kd.R_types (Kd.R_types cd.out bf.out Z29) es.out Z29) (fun _ hk => hk.1.2) (.string df)) (fun _ hk => hk.2) (.string gh)) (fun _ hk => hk.2) (.int .i64 eI)) (fun _ hk => hk.2) (.int .i64 ej)) (fun _ hk => hk.2) (.bool de)) (fun _ h_ => h_.1)) (fun _ h_ => h_.1))) hb); replace ae := Aside0.mk (blk_below (g := ag) (o := .cells #[.int .i64 0, .int .i64 0, .int .i64 0, .string ⟨#[]⟩, .int .i64 0, .int .i64 0, .string ⟨#[]⟩, .int .i64 0, .int .i64 0, .string ⟨#[]⟩, .int .i64 0, .string ⟨#[]⟩, .int .i64 0, .int .i64 0, .int .i64 0, .int .i64 0, .int .i64 0, .int .i64 0, .int .i64 0, .string ⟨#[]⟩, .string ⟨#[]⟩, .slice none 0 0, .int .i64 0, .string ⟨#[]⟩, .slice none 0 0] 25 (0, 0)) Z20 hb); replace bf := Aside0.mk (blk_below (g := bn) (o := .cells #[.int .i64 3, .int .i64 0, .int .i64 0, .string ⟨#[]⟩, .int .i64 0, .int .i64 0, .string ⟨#[]⟩, .int .i64 0, .int .i64 0, .string ⟨#[]⟩, .int .i64 0, .string ⟨#[]⟩, .int .i64 0, .int .i64 0, .int .i64 0, .int .i64 (wrap64 ((bt a0 1) / 8)), .int .i64 (wrap64 (bt a0 3)), .int .i64 cv, .int .i64 0, .string df, .string ⟨#[]⟩, .slice none 0 0, .int .i64 0, .string ⟨#[]⟩, .slice fS aM.length fT] 25 (0, 0)) (by (with_reducible repeat (first | refine blk_drewN ?_ _ | refine blk_drew ?_ | refine blk_alloc ?_ _)); refine blk_far ?_ cc.out _; (with_reducible repeat (first | refine blk_drewN ?_ _ | refine blk_drew ?_ | refine blk_alloc ?_ _)); refine blk_far ?_ cc.out _; (with_reducible repeat (first | refine blk_drewN ?_ _ | refine blk_drew ?_ | refine blk_alloc ?_ _)); refine blk_far ?_ cc.out _; (with_reducible repeat (first | refine blk_drewN ?_ _ | refine blk_drew ?_ | refine blk_alloc ?_ _)); refine blk_far ?_ cc.out _; (with_reducible repeat (first | refine blk_drewN ?_ _ | refine blk_drew ?_ | refine blk_alloc ?_ _)); refine blk_put (cs := #[.int .i64 3, .int .i64 0, .int .i64 0, .string ⟨#[]⟩, .int .i64 0, .int .i64 0, .string ⟨#[]⟩, .int .i64 0, .int .i64 0, .string ⟨#[]⟩, .int .i64 0, .string ⟨#[]⟩, .int .i64 0, .int .i64 0, .int .i64 0, .int .i64 (wrap64 ((bt a0 1) / 8)), .int .i64 (wrap64 (bt a0 3)), .int .i64 cv, .int .i64 0, .string ⟨#[]⟩, .string ⟨#[]⟩, .slice none 0 0, .int .i64 0, .string ⟨#[]⟩, .slice fS aM.length fT]) ?_ 19 _ rfl; (with_reducible repeat (first | refine blk_drewN ?_ _ | refine blk_drew ?_ | refine blk_alloc ?_ _)); exact bf.out) hb); replace es := Aside0.mk (blk_below (g := ea) (o := .cells #[.string gh, .int .i64 eI, .int .i64 ej, .bool de] 60 (0, 0)) Z33 hb); replace HB := Aside0.mk (below_step Z31 hb); clear hb; (try clear hk); have hcz70 := cells_25 bf.out; have qj := cells_4 es.out) | ((with_reducible refine gate_callee (f := 60) rfl ?_); refine goesL_ (some 73) rfl rfl Try.func60 Z14 rfl #[.agg #[.string eM, .int .i64 ih, .int .i64 fb, .bool hq], .int .i64 4] rfl Z4 ?_; (with_reducible refine (cursor_Text.calls eM ih fb hq 4 dX gl fh hN hO _ ub.out).mono ?_); rintro e ud ⟨rfl, hb⟩; refine ⟨_, rfl, ?_⟩; replace cd := Aside0.mk (Kd.R_below (by (with_reducible repeat (first | apply Kd.R_alloc | apply Kd.R_drewN | apply Kd.R_drew)); exact (Kd.R_mono (Kd.R_mono (Kd.R_far (p := ⟨ea, 3, none⟩) (Kd.R_far (p := ⟨ea, 2, none⟩) (Kd.R_far (p := ⟨ea, 1, none⟩) (Kd.R_far (p := ⟨ea, 0, none⟩) (Kd.R_far (p := ⟨bn, 12, none⟩) (Kd.R_types (Kd.R_types cd.out bf.out Z29) es.out Z29) (fun _ hk => hk.1.2) (.int .i64 ef)) (fun _ hk => hk.2) (.string eM)) (fun _ hk => hk.2) (.int .i64 ih)) (fun _ hk => hk.2) (.int .i64 fb)) (fun _ hk => hk.2) (.bool hq)) (fun _ h_ => h_.1)) (fun _ h_ => h_.1))) hb); replace ae := Aside0.mk (blk_below (g := ag) (o := .cells #[.int .i64 0, .int .i64 0, .int .i64 0, .string ⟨#[]⟩, .int .i64 0, .int .i64 0, .string ⟨#[]⟩, .int .i64 0, .int .i64 0, .string ⟨#[]⟩, .int .i64 0, .string ⟨#[]⟩, .int .i64 0, .int .i64 0, .int .i64 0, .int .i64 0, .int .i64 0, .int .i64 0, .int .i64 0, .string ⟨#[]⟩, .string ⟨#[]⟩, .slice none 0 0, .int .i64 0, .string ⟨#[]⟩, .slice none 0 0] 25 (0, 0)) Z20 hb); replace bf := Aside0.mk (blk_below (g := bn) (o := .cells #[.int .i64 3, .int .i64 0, .int .i64 0, .string ⟨#[]⟩, .int .i64 0, .int .i64 0, .string ⟨#[]⟩, .int .i64 0, .int .i64 0, .string ⟨#[]⟩, .int .i64 0, .string ⟨#[]⟩, .int .i64 ef, .int .i64 0, .int .i64 0, .int .i64 (wrap64 ((bt a0 1) / 8)), .int .i64 (wrap64 (bt a0 3)), .int .i64 cv, .int .i64 0, .string df, .string ⟨#[]⟩, .slice none 0 0, .int .i64 0, .string ⟨#[]⟩, .slice fS aM.length fT] 25 (0, 0)) (by (with_reducible repeat (first | refine blk_drewN ?_ _ | refine blk_drew ?_ | refine blk_alloc ?_ _)); refine blk_far ?_ cc.out _; (with_reducible repeat (first | refine blk_drewN ?_ _ | refine blk_drew ?_ | refine blk_alloc ?_ _)); refine blk_far ?_ cc.out _; (with_reducible repeat (first | refine blk_drewN ?_ _ | refine blk_drew ?_ | refine blk_alloc ?_ _)); refine blk_far ?_ cc.out _; (with_reducible repeat (first | refine blk_drewN ?_ _ | refine blk_drew ?_ | refine blk_alloc ?_ _)); refine blk_far ?_ cc.out _; (with_reducible repeat (first | refine blk_drewN ?_ _ | refine blk_drew ?_ | refine blk_alloc ?_ _)); refine blk_put (cs := #[.int .i64 3, .int .i64 0, .int .i64 0, .string ⟨#[]⟩, .int .i64 0, .int .i64 0, .string ⟨#[]⟩, .int .i64 0, .int .i64 0, .string ⟨#[]⟩, .int .i64 0, .string ⟨#[]⟩, .int .i64 0, .int .i64 0, .int .i64 0, .int .i64 (wrap64 ((bt a0 1) / 8)), .int .i64 (wrap64 (bt a0 3)), .int .i64 cv, .int .i64 0, .string df, .string ⟨#[]⟩, .slice none 0 0, .int .i64 0, .string ⟨#[]⟩, .slice fS aM.length fT]) ?_ 12 _ rfl; (with_reducible repeat (first | refine blk_drewN ?_ _ | refine blk_drew ?_ | refine blk_alloc ?_ _)); exact bf.out) hb); replace es := Aside0.mk (blk_below (g := ea) (o := .cells #[.string eM, .int .i64 ih, .int .i64 fb, .bool hq] 60 (0, 0)) Z33 hb); replace HB := Aside0.mk (below_step Z31 hb); clear hb; (try clear hk); have qk := cells_25 bf.out; have mX := cells_4 es.out) | ((with_reducible refine gate_callee (f := 62) rfl ?_); refine goesL_ (some 79) rfl rfl Try.func62 Z14 rfl #[.agg #[.string gl, .int .i64 fh, .int .i64 hN, .bool hO], .int .i64 4] rfl Z4 ?_; (with_reducible refine (cursor_Num.calls gl fh hN hO 4 ii ij ik il im _ mm.out).mono ?_); rintro e w75 ⟨rfl, hb⟩; refine ⟨_, rfl, ?_⟩; replace cd := Aside0.mk (Kd.R_below (by (with_reducible repeat (first | apply Kd.R_alloc | apply Kd.R_drewN | apply Kd.R_drew)); exact (Kd.R_mono (Kd.R_mono (Kd.R_far (p := ⟨ea, 3, none⟩) (Kd.R_far (p := ⟨ea, 2, none⟩) (Kd.R_far (p := ⟨ea, 1, none⟩) (Kd.R_far (p := ⟨ea, 0, none⟩) (Kd.R_far (p := ⟨bn, 20, none⟩) (Kd.R_types (Kd.R_types cd.out bf.out Z29) es.out Z29) (fun _ hk => hk.1.2) (.string dX)) (fun _ hk => hk.2) (.string gl)) (fun _ hk => hk.2) (.int .i64 fh)) (fun _ hk => hk.2) (.int .i64 hN)) (fun _ hk => hk.2) (.bool hO)) (fun _ h_ => h_.1)) (fun _ h_ => h_.1))) hb); replace ae := Aside0.mk (blk_below (g := ag) (o := .cells #[.int .i64 0, .int .i64 0, .int .i64 0, .string ⟨#[]⟩, .int .i64 0, .int .i64 0, .string ⟨#[]⟩, .int .i64 0, .int .i64 0, .string ⟨#[]⟩, .int .i64 0, .string ⟨#[]⟩, .int .i64 0, .int .i64 0, .int .i64 0, .int .i64 0, .int .i64 0, .int .i64 0, .int .i64 0, .string ⟨#[]⟩, .string ⟨#[]⟩, .slice none 0 0, .int .i64 0, .string ⟨#[]⟩, .slice none 0 0] 25 (0, 0)) Z20 hb); replace bf := Aside0.mk (blk_below (g := bn) (o := .cells #[.int .i64 3, .int .i64 0, .int .i64 0, .string ⟨#[]⟩, .int .i64 0, .int .i64 0, .string ⟨#[]⟩, .int .i64 0, .int .i64 0, .string ⟨#[]⟩, .int .i64 0, .string ⟨#[]⟩, .int .i64 ef, .int .i64 0, .int .i64 0, .int .i64 (wrap64 ((bt a0 1) / 8)), .int .i64 (wrap64 (bt a0 3)), .int .i64 cv, .int .i64 0, .string df, .string dX, .slice none 0 0, .int .i64 0, .string ⟨#[]⟩, .slice fS aM.length fT] 25 (0, 0)) (by (with_reducible repeat (first | refine blk_drewN ?_ _ | refine blk_drew ?_ | refine blk_alloc ?_ _)); refine blk_far ?_ cc.out _; (with_reducible repeat (first | refine blk_drewN ?_ _ | refine blk_drew ?_ | refine blk_alloc ?_ _)); refine blk_far ?_ cc.out _; (with_reducible repeat (first | refine blk_drewN ?_ _ | refine blk_drew ?_ | refine blk_alloc ?_ _)); refine blk_far ?_ cc.out _; (with_reducible repeat (first | refine blk_drewN ?_ _ | refine blk_drew ?_ | refine blk_alloc ?_ _)); refine blk_far ?_ cc.out _; (with_reducible repeat (first | refine blk_drewN ?_ _ | refine blk_drew ?_ | refine blk_alloc ?_ _)); refine blk_put (cs := #[.int .i64 3, .int .i64 0, .int .i64 0, .string ⟨#[]⟩, .int .i64 0, .int .i64 0, .string ⟨#[]⟩, .int .i64 0, .int .i64 0, .string ⟨#[]⟩, .int .i64 0, .string ⟨#[]⟩, .int .i64 ef, .int .i64 0, .int .i64 0, .int .i64 (wrap64 ((bt a0 1) / 8)), .int .i64 (wrap64 (bt a0 3)), .int .i64 cv, .int .i64 0, .string df, .string ⟨#[]⟩, .slice none 0 0, .int .i64 0, .string ⟨#[]⟩, .slice fS aM.length fT]) ?_ 20 _ rfl; (with_reducible repeat (first | refine blk_drewN ?_ _ | refine blk_drew ?_ | refine blk_alloc ?_ _)); exact bf.out) hb); replace es := Aside0.mk (blk_below (g := ea) (o := .cells #[.string gl, .int .i64 fh, .int .i64 hN, .bool hO] 60 (0, 0)) Z33 hb); replace HB := Aside0.mk (below_step Z31 hb); clear hb; (try clear hk); have hcz76 := cells_25 bf.out; have ql := cells_25 ae.out) | ((with_reducible refine Pre.gate_store 25 rfl ?_); refine Pre.store_abs (cur := #[.int .i64 0, .int .i64 0, .int .i64 0, .string ⟨#[]⟩, .int .i64 0, .int .i64 0, .string ⟨#[]⟩, .int .i64 0, .int .i64 0, .string ⟨#[]⟩, .int .i64 0, .string ⟨#[]⟩, .int .i64 0, .int .i64 0, .int .i64 0, .int .i64 0, .int .i64 0, .int .i64 0, .int .i64 0, .string ⟨#[]⟩, .string ⟨#[]⟩, .slice none 0 0, .int .i64 0, .string ⟨#[]⟩, .slice none 0 0]) (e := 25) rfl rfl rfl Z23 Z23 (by (with_reducible repeat (first | refine blk_drewN ?_ _ | refine blk_drew ?_ | refine blk_alloc ?_ _)); refine blk_far ?_ ev.out _; (with_reducible repeat (first | refine blk_drewN ?_ _ | refine blk_drew ?_ | refine blk_alloc ?_ _)); exact ae.out) Z14 Z23 Z23 ?_; intro qm hbS_ sS_; have bY : Aside0 (Kd.R k48 48 qm w.heap.size (fun _ => True) (.slice fS aM.length fT) aM) := ⟨Kd.R_mono (Pre.R_sets sS_ (Kd.R_far (p := ⟨bn, 13, none⟩) (Kd.R_types (Kd.R_types cd.out bf.out Z29) ae.out Z29) (fun _ hk => hk.1.2) (.int .i64 ii)) (fun _ hk => hk.2)) (fun _ hk => trivial)⟩; have ca : Aside0 (qm.heap[ag]? = some (.cells #[.int .i64 3, .int .i64 0, .int .i64 0, .string ⟨#[]⟩, .int .i64 0, .int .i64 0, .string ⟨#[]⟩, .int .i64 0, .int .i64 0, .string ⟨#[]⟩, .int .i64 0, .string ⟨#[]⟩, .int .i64 ef, .int .i64 ii, .int .i64 0, .int .i64 (wrap64 ((bt a0 1) / 8)), .int .i64 (wrap64 (bt a0 3)), .int .i64 cv, .int .i64 0, .string df, .string dX, .slice none 0 0, .int .i64 0, .string ⟨#[]⟩, .slice fS aM.length fT] 25 (0, 0))) := ⟨hbS_⟩; have cZ : Aside0 (qm.heap[bn]? = some (.cells #[.int .i64 3, .int .i64 0, .int .i64 0, .string ⟨#[]⟩, .int .i64 0, .int .i64 0, .string ⟨#[]⟩, .int .i64 0, .int .i64 0, .string ⟨#[]⟩, .int .i64 0, .string ⟨#[]⟩, .int .i64 ef, .int .i64 ii, .int .i64 0, .int .i64 (wrap64 ((bt a0 1) / 8)), .int .i64 (wrap64 (bt a0 3)), .int .i64 cv, .int .i64 0, .string df, .string dX, .slice none 0 0, .int .i64 0, .string ⟨#[]⟩, .slice fS aM.length fT] 25 (0, 0))) := ⟨sS_.blk (by (with_reducible repeat (first | refine blk_drewN ?_ _ | refine blk_drew ?_ | refine blk_alloc ?_ _)); refine blk_put (cs := #[.int .i64 3, .int .i64 0, .int .i64 0, .string ⟨#[]⟩, .int .i64 0, .int .i64 0, .string ⟨#[]⟩, .int .i64 0, .int .i64 0, .string ⟨#[]⟩, .int .i64 0, .string ⟨#[]⟩, .int .i64 ef, .int .i64 0, .int .i64 0, .int .i64 (wrap64 ((bt a0 1) / 8)), .int .i64 (wrap64 (bt a0 3)), .int .i64 cv, .int .i64 0, .string df, .string dX, .slice none 0 0, .int .i64 0, .string ⟨#[]⟩, .slice fS aM.length fT]) ?_ 13 _ rfl; (with_reducible repeat (first | refine blk_drewN ?_ _ | refine blk_drew ?_ | refine blk_alloc ?_ _)); exact bf.out) fW.out⟩; have ex : Aside0 (qm.heap[ea]? = some (.cells #[.string gl, .int .i64 fh, .int .i64 hN, .bool hO] 60 (0, 0))) := ⟨sS_.blk (by (with_reducible repeat (first | refine blk_drewN ?_ _ | refine blk_drew ?_ | refine blk_alloc ?_ _)); refine blk_far ?_ gX.out _; (with_reducible repeat (first | refine blk_drewN ?_ _ | refine blk_drew ?_ | refine blk_alloc ?_ _)); exact es.out) iI.out⟩; have hP : Aside0 (Below w.heap.size w qm) := ⟨sS_.below Z31 bm.out⟩; clear hbS_ sS_; replace cd := bY; replace ae := ca; replace bf := cZ; replace es := ex; replace HB := hP; clear bY ca cZ ex hP))
        refine bodyPost_ret (results_ctt rfl _ _ ag 25 #[.int .i64 3, .int .i64 0, .int .i64 0, .string ⟨#[]⟩, .int .i64 0, .int .i64 0, .string ⟨#[]⟩, .int .i64 0, .int .i64 0, .string ⟨#[]⟩, .int .i64 0, .string ⟨#[]⟩, .int .i64 ef, .int .i64 ii, .int .i64 0, .int .i64 (wrap64 ((bt a0 1) / 8)), .int .i64 (wrap64 (bt a0 3)), .int .i64 cv, .int .i64 0, .string df, .string dX, .slice none 0 0, .int .i64 0, .string ⟨#[]⟩, .slice fS aM.length fT] (0, 0) _ rfl Z2 Try.underlying25 rfl Z14) rfl ?_
        exact ⟨_, _, Z5, Z13, Z62, Z31⟩
       ·rw [if_neg eB] at H
        exact absurd H Z71
      ·rw [if_neg eU] at H
       have gL : (aY == 0) = false := beq_eq_false_iff_ne.mpr eU
       have hM : (aY != 0) = true := bne_iff_ne.mpr eU
       simp only [Option.some.injEq, Prod.mk.injEq] at H
       obtain ⟨rfl, rfl, rfl, rfl, rfl, rfl, rfl, rfl, rfl, rfl, rfl, rfl, rfl, rfl, rfl, rfl, rfl, rfl, rfl, rfl, rfl, rfl, rfl, rfl, rfl, rfl, rfl⟩ := H
       go_enter Try.func22, Try.ntmps22
       try go_wp2_with (first | ((with_reducible refine gate_dst (N := 46) rfl ?_); refine Pre.build_event 46 25 [(0, Go.Operand.const (Go.Value.int Go.IntKind.i64 3)), (15, Go.Operand.tmp 41), (16, Go.Operand.tmp 44), (24, Go.Operand.tmp 45)] rfl rfl rfl (rreq_Get.bd46 _ _ _ _ _ _) ?_) | ((with_reducible refine Pre.gate_load 25 rfl ?_); (try (refine gate_guard Z23 ?_; dsimp only)); refine Pre.load_event rfl rfl rfl Z23 Z15 Try.underlying25 rfl Z14 ?_) | ((with_reducible refine gate_dst (N := 2) rfl ?_); refine Sq.box 2 #[.int .i64 0, .int .i64 0, .int .i64 0, .string ⟨#[]⟩, .int .i64 0, .int .i64 0, .string ⟨#[]⟩, .int .i64 0, .int .i64 0, .string ⟨#[]⟩, .int .i64 0, .string ⟨#[]⟩, .int .i64 0, .int .i64 0, .int .i64 0, .int .i64 0, .int .i64 0, .int .i64 0, .int .i64 0, .string ⟨#[]⟩, .string ⟨#[]⟩, .slice none 0 0, .int .i64 0, .string ⟨#[]⟩, .slice none 0 0] 25 ?_; intro ag hg tx hbox hb; have ae := Aside0.mk (hbox); have cp := Aside0.mk (Sq.ge hg Z1); have bm := Aside0.mk (Sq.ge hg Z1); replace HB := Aside0.mk (below_step Z1 hb); clear hb hbox hg))
       have bY := Aside0.mk (blk_drew ae.out)
       have ca := Aside0.mk (below_drew1 HB.out)
       clear ae
       clear HB
       have ae := bY
       have HB := ca
       clear bY ca
       have p7 : 0 ≤ (1 : Int) := Z40
       have q7 : 1 < a0.size := (by have : (1 : Int) < (a0.size : Int) := of_decide_eq_true Z6; omega)
       have hx7 : ∀ h : 1 < a0.size, ((a0[1]'h).toNat : Int) = bt a0 1 := bt_at a0 1
       clear p7
       have qi7 : (1 < (a0.size : Int)) = True := eq_true (of_decide_eq_true Z6)
       replace q7 := eq_true q7
       have p9 : 0 ≤ (2 : Int) := Z40
       have q9 : 2 < a0.size := (by have : (2 : Int) < (a0.size : Int) := of_decide_eq_true Z6; omega)
       have hx9 : ∀ h : 2 < a0.size, ((a0[2]'h).toNat : Int) = bt a0 2 := bt_at a0 2
       clear p9
       have qi9 : (2 < (a0.size : Int)) = True := eq_true (of_decide_eq_true Z6)
       replace q9 := eq_true q9
       refine start_ (n := 7) (S := fun w' => True) (ds := []) (Sq.b 7 0) Z14 rfl rfl trivial (fun hHeld => ?_)
       generalize tx.drew = tz at ae HB hHeld ⊢
       refine pure_ (i := 0) (N := some 17) (v := ?_) (a' := ?_) (Sq.b 7 1) rfl rfl Z14 (fun _ _ _ h => h) (Or.inl ⟨Z23, ?_⟩) ?_ ?_
       rotate_left
       ·intro w'
        go_simp
        with_reducible rfl
       rotate_left
       ·simp only [Act.put, Sq.s1, Sq.s2, Sq.s3, i64_w, i32_w]
        rfl
       refine pure_ (i := 3) (N := some 20) (v := ?_) (a' := ?_) (Sq.b 7 9) rfl rfl Z14 (fun _ _ _ h => h) (Or.inl ⟨Z23, ?_⟩) ?_ ?_
       rotate_left
       ·intro w'
        go_simp
        with_reducible rfl
       rotate_left
       ·simp only [Act.put, Sq.s1, Sq.s2, Sq.s3, i64_w, i32_w]
        rfl
       refine take_ (i := 1) (N := some 18) (v := ?_) (a' := ?_) (Sq.b 7 11) rfl rfl Z14 (fun _ _ _ h => h) (Or.inl ⟨Z23, ?_⟩) hHeld ?_ ?_
       rotate_left
       ·intro w' _
        go_simp
        with_reducible rfl
       rotate_left
       ·simp only [Act.put, Sq.s1, Sq.s2, Sq.s3, i64_w, i32_w]
        rfl
       refine pure_ (i := 2) (N := some 19) (v := ?_) (a' := ?_) (Sq.b 7 15) rfl rfl Z14 (fun _ _ _ h => h) (Or.inl ⟨Z23, ?_⟩) ?_ ?_
       rotate_left
       ·intro w'
        go_simp
        with_reducible rfl
       rotate_left
       ·simp only [Act.put, Sq.s1, Sq.s2, Sq.s3, i64_w, i32_w]
        rfl
       refine take_ (i := 4) (N := some 21) (v := ?_) (a' := ?_) (Sq.b 7 31) rfl rfl Z14 (fun _ _ _ h => h) (Or.inl ⟨Z23, ?_⟩) hHeld ?_ ?_
       rotate_left
       ·intro w' _
        go_simp
        with_reducible rfl
       rotate_left
       ·simp only [Act.put, Sq.s1, Sq.s2, Sq.s3, i64_w, i32_w]
        rfl
       refine pure_ (i := 5) (N := some 22) (v := ?_) (a' := ?_) (Sq.b 7 63) rfl rfl Z14 (fun _ _ _ h => h) (Or.inl ⟨Z23, ?_⟩) ?_ ?_
       rotate_left
       ·intro w'
        go_simp
        with_reducible rfl
       rotate_left
       ·simp only [Act.put, Sq.s1, Sq.s2, Sq.s3, i64_w, i32_w]
        rfl
       refine pure_ (i := 6) (N := some 23) (v := ?_) (a' := ?_) (Sq.b 7 127) rfl rfl Z14 (fun _ _ _ h => h) (Or.inl ⟨Z23, ?_⟩) ?_ ?_
       rotate_left
       ·intro w'
        go_simp
        with_reducible rfl
       rotate_left
       ·simp only [Act.put, Sq.s1, Sq.s2, Sq.s3, i64_w, i32_w]
        rfl
       refine done_ Z14 ?_
       try go_wp2_with (first | ((with_reducible refine gate_dst (N := 46) rfl ?_); refine Pre.build_event 46 25 [(0, Go.Operand.const (Go.Value.int Go.IntKind.i64 3)), (15, Go.Operand.tmp 41), (16, Go.Operand.tmp 44), (24, Go.Operand.tmp 45)] rfl rfl rfl (rreq_Get.bd46 _ _ _ _ _ _) ?_) | ((with_reducible refine Pre.gate_load 25 rfl ?_); (try (refine gate_guard Z23 ?_; dsimp only)); refine Pre.load_event rfl rfl rfl Z23 Z15 Try.underlying25 rfl Z14 ?_) | ((with_reducible refine gate_callee (f := 59) rfl ?_); refine goesL_ (some 28) rfl rfl Try.func59 Z14 rfl #[.string (a0.extract 24 a0.size)] rfl Z4 ?_; (with_reducible refine (ext_Get.calls k (a0.extract 24 a0.size) aM aW aY _ oI.out).mono ?_); rintro e tA ⟨ld, rfl, ho0, hb⟩; refine ⟨_, rfl, ?_⟩; have cd := Aside0.mk (Kd.R_lower ho0 (below_size Z0)); replace ae := Aside0.mk (blk_below (g := ag) Z2 hb); replace HB := Aside0.mk (below_step Z0 hb); clear hb ho0; have hcz82 := cells_25 ae.out) | ((with_reducible refine Pre.gate_store 25 rfl ?_); refine Pre.store_abs (cur := #[.int .i64 0, .int .i64 0, .int .i64 0, .string ⟨#[]⟩, .int .i64 0, .int .i64 0, .string ⟨#[]⟩, .int .i64 0, .int .i64 0, .string ⟨#[]⟩, .int .i64 0, .string ⟨#[]⟩, .int .i64 0, .int .i64 0, .int .i64 0, .int .i64 0, .int .i64 0, .int .i64 0, .int .i64 0, .string ⟨#[]⟩, .string ⟨#[]⟩, .slice none 0 0, .int .i64 0, .string ⟨#[]⟩, .slice none 0 0]) (e := 25) rfl rfl rfl Z23 Z23 Z2 Z14 Z23 Z23 ?_; intro sv hbS_ sS_; have bY : Aside0 (Kd.R k48 48 sv w.heap.size (fun _ => True) ld aM) := ⟨Kd.R_mono (Pre.R_sets sS_ (Kd.R_types cd.out ae.out Z29) (fun _ hk => hk.2)) (fun _ hk => trivial)⟩; have ca : Aside0 (sv.heap[ag]? = some (.cells #[.int .i64 0, .int .i64 0, .int .i64 0, .string ⟨#[]⟩, .int .i64 0, .int .i64 0, .string ⟨#[]⟩, .int .i64 0, .int .i64 0, .string ⟨#[]⟩, .int .i64 0, .string ⟨#[]⟩, .int .i64 0, .int .i64 0, .int .i64 0, .int .i64 0, .int .i64 0, .int .i64 0, .int .i64 0, .string ⟨#[]⟩, .string ⟨#[]⟩, .slice none 0 0, .int .i64 0, .string ⟨#[]⟩, .slice none 0 0] 25 (0, 0))) := ⟨hbS_⟩; have cZ : Aside0 (Below w.heap.size w sv) := ⟨sS_.below Z0 bm.out⟩; clear hbS_ sS_; replace cd := bY; replace ae := ca; replace HB := cZ; clear bY ca cZ))
       refine bodyPost_ret (results_ctt rfl _ _ ag 25 #[.int .i64 0, .int .i64 0, .int .i64 0, .string ⟨#[]⟩, .int .i64 0, .int .i64 0, .string ⟨#[]⟩, .int .i64 0, .int .i64 0, .string ⟨#[]⟩, .int .i64 0, .string ⟨#[]⟩, .int .i64 0, .int .i64 0, .int .i64 0, .int .i64 0, .int .i64 0, .int .i64 0, .int .i64 0, .string ⟨#[]⟩, .string ⟨#[]⟩, .slice none 0 0, .int .i64 0, .string ⟨#[]⟩, .slice none 0 0] (0, 0) _ rfl Z2 Try.underlying25 rfl Z14) rfl ?_
       exact ⟨_, _, Z5, Z13, Z24, Z0⟩
     ·rw [if_neg ee] at H
      exact absurd H Z71
    ·rw [if_neg ey] at H
     have eW : ((Go.bits .or .u8 (Go.bits .and .u8 (bt a0 1) 7) (bt a0 2)) == 0) = false := beq_eq_false_iff_ne.mpr ey
     have gK : ((Go.bits .or .u8 (Go.bits .and .u8 (bt a0 1) 7) (bt a0 2)) != 0) = true := bne_iff_ne.mpr ey
     simp only [Option.some.injEq, Prod.mk.injEq] at H
     obtain ⟨rfl, rfl, rfl, rfl, rfl, rfl, rfl, rfl, rfl, rfl, rfl, rfl, rfl, rfl, rfl, rfl, rfl, rfl, rfl, rfl, rfl, rfl, rfl, rfl, rfl, rfl, rfl⟩ := H
     go_enter Try.func22, Try.ntmps22
     try go_wp2_with (first | ((with_reducible refine gate_dst (N := 46) rfl ?_); refine Pre.build_event 46 25 [(0, Go.Operand.const (Go.Value.int Go.IntKind.i64 3)), (15, Go.Operand.tmp 41), (16, Go.Operand.tmp 44), (24, Go.Operand.tmp 45)] rfl rfl rfl (rreq_Get.bd46 _ _ _ _ _ _) ?_) | ((with_reducible refine Pre.gate_load 25 rfl ?_); (try (refine gate_guard Z23 ?_; dsimp only)); refine Pre.load_event rfl rfl rfl Z23 Z15 Try.underlying25 rfl Z14 ?_) | ((with_reducible refine gate_dst (N := 2) rfl ?_); refine Sq.box 2 #[.int .i64 0, .int .i64 0, .int .i64 0, .string ⟨#[]⟩, .int .i64 0, .int .i64 0, .string ⟨#[]⟩, .int .i64 0, .int .i64 0, .string ⟨#[]⟩, .int .i64 0, .string ⟨#[]⟩, .int .i64 0, .int .i64 0, .int .i64 0, .int .i64 0, .int .i64 0, .int .i64 0, .int .i64 0, .string ⟨#[]⟩, .string ⟨#[]⟩, .slice none 0 0, .int .i64 0, .string ⟨#[]⟩, .slice none 0 0] 25 ?_; intro ag hg ue hbox hb; have ae := Aside0.mk (hbox); have cp := Aside0.mk (Sq.ge hg Z1); have bm := Aside0.mk (Sq.ge hg Z1); replace HB := Aside0.mk (below_step Z1 hb); clear hb hbox hg))
     have bY := Aside0.mk (blk_drew ae.out)
     have ca := Aside0.mk (below_drew1 HB.out)
     clear ae
     clear HB
     have ae := bY
     have HB := ca
     clear bY ca
     have p7 : 0 ≤ (1 : Int) := Z40
     have q7 : 1 < a0.size := (by have : (1 : Int) < (a0.size : Int) := of_decide_eq_true Z6; omega)
     have hx7 : ∀ h : 1 < a0.size, ((a0[1]'h).toNat : Int) = bt a0 1 := bt_at a0 1
     clear p7
     have qi7 : (1 < (a0.size : Int)) = True := eq_true (of_decide_eq_true Z6)
     replace q7 := eq_true q7
     have p9 : 0 ≤ (2 : Int) := Z40
     have q9 : 2 < a0.size := (by have : (2 : Int) < (a0.size : Int) := of_decide_eq_true Z6; omega)
     have hx9 : ∀ h : 2 < a0.size, ((a0[2]'h).toNat : Int) = bt a0 2 := bt_at a0 2
     clear p9
     have qi9 : (2 < (a0.size : Int)) = True := eq_true (of_decide_eq_true Z6)
     replace q9 := eq_true q9
     refine start_ (n := 7) (S := fun w' => True) (ds := []) (Sq.b 7 0) Z14 rfl rfl trivial (fun hHeld => ?_)
     generalize ue.drew = oL at ae HB hHeld ⊢
     refine pure_ (i := 0) (N := some 17) (v := ?_) (a' := ?_) (Sq.b 7 1) rfl rfl Z14 (fun _ _ _ h => h) (Or.inl ⟨Z23, ?_⟩) ?_ ?_
     rotate_left
     ·intro w'
      go_simp
      with_reducible rfl
     rotate_left
     ·simp only [Act.put, Sq.s1, Sq.s2, Sq.s3, i64_w, i32_w]
      rfl
     refine pure_ (i := 3) (N := some 20) (v := ?_) (a' := ?_) (Sq.b 7 9) rfl rfl Z14 (fun _ _ _ h => h) (Or.inl ⟨Z23, ?_⟩) ?_ ?_
     rotate_left
     ·intro w'
      go_simp
      with_reducible rfl
     rotate_left
     ·simp only [Act.put, Sq.s1, Sq.s2, Sq.s3, i64_w, i32_w]
      rfl
     refine take_ (i := 1) (N := some 18) (v := ?_) (a' := ?_) (Sq.b 7 11) rfl rfl Z14 (fun _ _ _ h => h) (Or.inl ⟨Z23, ?_⟩) hHeld ?_ ?_
     rotate_left
     ·intro w' _
      go_simp
      with_reducible rfl
     rotate_left
     ·simp only [Act.put, Sq.s1, Sq.s2, Sq.s3, i64_w, i32_w]
      rfl
     refine pure_ (i := 2) (N := some 19) (v := ?_) (a' := ?_) (Sq.b 7 15) rfl rfl Z14 (fun _ _ _ h => h) (Or.inl ⟨Z23, ?_⟩) ?_ ?_
     rotate_left
     ·intro w'
      go_simp
      with_reducible rfl
     rotate_left
     ·simp only [Act.put, Sq.s1, Sq.s2, Sq.s3, i64_w, i32_w]
      rfl
     refine take_ (i := 4) (N := some 21) (v := ?_) (a' := ?_) (Sq.b 7 31) rfl rfl Z14 (fun _ _ _ h => h) (Or.inl ⟨Z23, ?_⟩) hHeld ?_ ?_
     rotate_left
     ·intro w' _
      go_simp
      with_reducible rfl
     rotate_left
     ·simp only [Act.put, Sq.s1, Sq.s2, Sq.s3, i64_w, i32_w]
      rfl
     refine pure_ (i := 5) (N := some 22) (v := ?_) (a' := ?_) (Sq.b 7 63) rfl rfl Z14 (fun _ _ _ h => h) (Or.inl ⟨Z23, ?_⟩) ?_ ?_
     rotate_left
     ·intro w'
      go_simp
      with_reducible rfl
     rotate_left
     ·simp only [Act.put, Sq.s1, Sq.s2, Sq.s3, i64_w, i32_w]
      rfl
     refine pure_ (i := 6) (N := some 23) (v := ?_) (a' := ?_) (Sq.b 7 127) rfl rfl Z14 (fun _ _ _ h => h) (Or.inl ⟨Z23, ?_⟩) ?_ ?_
     rotate_left
     ·intro w'
      go_simp
      with_reducible rfl
     rotate_left
     ·simp only [Act.put, Sq.s1, Sq.s2, Sq.s3, i64_w, i32_w]
      rfl
     refine done_ Z14 ?_
     have hcz86 := cells_25 ae.out
     try go_wp2_with (first | ((with_reducible refine gate_dst (N := 46) rfl ?_); refine Pre.build_event 46 25 [(0, Go.Operand.const (Go.Value.int Go.IntKind.i64 3)), (15, Go.Operand.tmp 41), (16, Go.Operand.tmp 44), (24, Go.Operand.tmp 45)] rfl rfl rfl (rreq_Get.bd46 _ _ _ _ _ _) ?_) | ((with_reducible refine Pre.gate_load 25 rfl ?_); (try (refine gate_guard Z23 ?_; dsimp only)); refine Pre.load_event rfl rfl rfl Z23 Z15 Try.underlying25 rfl Z14 ?_) | ((with_reducible refine Pre.gate_store 25 rfl ?_); refine Pre.store_abs (cur := #[.int .i64 0, .int .i64 0, .int .i64 0, .string ⟨#[]⟩, .int .i64 0, .int .i64 0, .string ⟨#[]⟩, .int .i64 0, .int .i64 0, .string ⟨#[]⟩, .int .i64 0, .string ⟨#[]⟩, .int .i64 0, .int .i64 0, .int .i64 0, .int .i64 0, .int .i64 0, .int .i64 0, .int .i64 0, .string ⟨#[]⟩, .string ⟨#[]⟩, .slice none 0 0, .int .i64 0, .string ⟨#[]⟩, .slice none 0 0]) (e := 25) rfl rfl rfl Z23 Z23 Z2 Z14 Z23 Z23 ?_; intro sw hbS_ sS_; have bY : Aside0 (sw.heap[ag]? = some (.cells #[.int .i64 0, .int .i64 0, .int .i64 0, .string ⟨#[]⟩, .int .i64 0, .int .i64 0, .string ⟨#[]⟩, .int .i64 0, .int .i64 0, .string ⟨#[]⟩, .int .i64 0, .string ⟨#[]⟩, .int .i64 0, .int .i64 0, .int .i64 0, .int .i64 0, .int .i64 0, .int .i64 0, .int .i64 0, .string ⟨#[]⟩, .string ⟨#[]⟩, .slice none 0 0, .int .i64 0, .string ⟨#[]⟩, .slice none 0 0] 25 (0, 0))) := ⟨hbS_⟩; have ca : Aside0 (Below w.heap.size w sw) := ⟨sS_.below Z0 bm.out⟩; clear hbS_ sS_; replace ae := bY; replace HB := ca; clear bY ca))
     refine bodyPost_ret (results_ctt rfl _ _ ag 25 #[.int .i64 0, .int .i64 0, .int .i64 0, .string ⟨#[]⟩, .int .i64 0, .int .i64 0, .string ⟨#[]⟩, .int .i64 0, .int .i64 0, .string ⟨#[]⟩, .int .i64 0, .string ⟨#[]⟩, .int .i64 0, .int .i64 0, .int .i64 0, .int .i64 0, .int .i64 0, .int .i64 0, .int .i64 0, .string ⟨#[]⟩, .string ⟨#[]⟩, .slice none 0 0, .int .i64 0, .string ⟨#[]⟩, .slice none 0 0] (0, 0) _ rfl Z2 Try.underlying25 rfl Z14) rfl ?_
     exact ⟨_, _, Z5, Z13, Z24, Z0⟩
   ·rw [if_neg c8] at H
    exact absurd H Z71
  ·rw [if_neg c6] at H
   exact absurd H Z71

end Go.Proofs.Ytccjakjjaemmkaa.PAB
