-- Written by mp.py, a program of this work (wip/tools), out of the translation; Lean checks it.
import Derived.Test.YtccjakjjaemmkaaPAPxZ
import Derived.Test.YtccjakjjaemmkaaPAPxcursor
import Derived.Test.YtccjakjjaemmkaaPAPxext
import Derived.Test.YtccjakjjaemmkaaAbs
namespace Go.Proofs.Ytccjakjjaemmkaa.PAP
open Go.RowKit Go.Proofs.YtccjakjjaemmkaaW.PrintWords Go.Proofs.YtccjakjjaemmkaaW.PrintLast Go.Proofs.YtccjakjjaemmkaaW.PrintMore
attribute [local go_sem] max2_int min2_int max_two min_two max_three min_three max_four min_four   -- for this text's walks alone
set_option linter.unusedVariables false
set_option linter.unusedSimpArgs false

/-! ### rreq_Get: function 22 -/
def rreq_Get.f (k : Nat) (a0 : ByteArray) : Option (Int × Int × Int × ByteArray × Int × Int × ByteArray × Int × Int × ByteArray × Int × ByteArray × Int × Int × Int × Int × Int × Int × Int × ByteArray × ByteArray × (List (S46)) × Int × ByteArray × (List (S48)) × Int × Int) := if (a0.size : Int) < 24 then (some (0, 0, 0, (⟨#[]⟩ : ByteArray), 0, 0, (⟨#[]⟩ : ByteArray), 0, 0, (⟨#[]⟩ : ByteArray), 0, (⟨#[]⟩ : ByteArray), 0, 0, 0, 0, 0, 0, 0, (⟨#[]⟩ : ByteArray), (⟨#[]⟩ : ByteArray), ([] : List (S46)), 0, (⟨#[]⟩ : ByteArray), ([] : List (S48)), (a0.size : Int), 2)) else (if 1 < (a0.size : Int) then (if 2 < (a0.size : Int) then (if (Go.bits .or .u8 (Go.bits .and .u8 (bt a0 1) 7) (bt a0 2)) = 0 then (if 24 ≤ (a0.size : Int) then ((ext_Get.f k (a0.extract 24 a0.size)).bind fun aE => (if aE.2.2 = 0 then (if 3 < (a0.size : Int) then ((cursor_New.f a0).bind fun dQ => ((cursor_Text.f dQ.1 dQ.2.1 dQ.2.2.1 dQ.2.2.2 4).bind fun eN => ((cursor_Num.f eN.2.1 eN.2.2.1 eN.2.2.2.1 eN.2.2.2.2 4).bind fun bC => ((cursor_Text.f bC.2.1 bC.2.2.1 bC.2.2.2.1 bC.2.2.2.2 4).bind fun dg => ((cursor_Num.f dg.2.1 dg.2.2.1 dg.2.2.2.1 dg.2.2.2.2 4).bind fun cr => ((cursor_Text.f cr.2.1 cr.2.2.1 cr.2.2.2.1 cr.2.2.2.2 4).bind fun aK => ((cursor_Num.f aK.2.1 aK.2.2.1 aK.2.2.2.1 aK.2.2.2.2 4).bind fun eY => (some (3, 0, 0, (⟨#[]⟩ : ByteArray), 0, 0, (⟨#[]⟩ : ByteArray), 0, 0, (⟨#[]⟩ : ByteArray), 0, (⟨#[]⟩ : ByteArray), cr.1, eY.1, 0, wrap64 ((bt a0 1) / 8), wrap64 (bt a0 3), bC.1, 0, dg.1, aK.1, ([] : List (S46)), 0, (⟨#[]⟩ : ByteArray), aE.1, 0, 0))))))))) else (none)) else (some (0, 0, 0, (⟨#[]⟩ : ByteArray), 0, 0, (⟨#[]⟩ : ByteArray), 0, 0, (⟨#[]⟩ : ByteArray), 0, (⟨#[]⟩ : ByteArray), 0, 0, 0, 0, 0, 0, 0, (⟨#[]⟩ : ByteArray), (⟨#[]⟩ : ByteArray), ([] : List (S46)), 0, (⟨#[]⟩ : ByteArray), ([] : List (S48)), wrap64 (aE.2.1 + 24), aE.2.2)))) else (none)) else (some (0, 0, 0, (⟨#[]⟩ : ByteArray), 0, 0, (⟨#[]⟩ : ByteArray), 0, 0, (⟨#[]⟩ : ByteArray), 0, (⟨#[]⟩ : ByteArray), 0, 0, 0, 0, 0, 0, 0, (⟨#[]⟩ : ByteArray), (⟨#[]⟩ : ByteArray), ([] : List (S46)), 0, (⟨#[]⟩ : ByteArray), ([] : List (S48)), 1, 5))) else (none)) else (none))
theorem rreq_Get.mono : ∀ a0 k, LeO (rreq_Get.f k a0) (rreq_Get.f (k + 1) a0) := by
 intro a0 k
 unfold rreq_Get.f
 repeat' first
   | (with_reducible exact ext_Get.mono _ _)
   | (with_reducible exact LeO.refl _)
   | (with_reducible exact LeO.none _)
   | (with_reducible refine LeO.ite ?_ ?_)
   | (with_reducible refine LeO.bind ?_ (fun _ => ?_))
   | exact ext_Get.mono _ _
   | exact LeO.none _
   | refine LeO.ite ?_ ?_
   | refine LeO.bind ?_ (fun _ => ?_)
def rreq_Get.T8 : Bool × List (List Nat × List Nat) := (true, [([], []), ([0], [0]), ([1], [1]), ([2], [2]), ([], []), ([4], [4]), ([5], [5]), ([], []), ([3, 6, 7], [3, 6, 7]), ([], []), ([9, 8, 0, 1, 2, 3, 4, 5, 6, 7, 8, 9], [8, 9])])
def rreq_Get.B8 : List Nat := [0, 1, 3, 7, 0, 16, 48, 0, 255, 0, 1023]
theorem rreq_Get.tab8 : rtab .any (opsOf Try.f22 8) = rreq_Get.T8 := by kernel_rfl
theorem rreq_Get.bits8 : waitsOk rreq_Get.T8.2 rreq_Get.B8 = true := by kernel_rfl
set_option maxRecDepth 100000 in
theorem rreq_Get.bd46 (v0 : Int) (ig : Int) (iF : Int) (eW : Option Addr) (n24 dP : Nat) : Try.prog.built 25 [(0, .int .i64 v0), (15, .int .i64 ig), (16, .int .i64 iF), (24, .slice eW n24 dP)] = some #[.int .i64 v0, .int .i64 0, .int .i64 0, .string ⟨#[]⟩, .int .i64 0, .int .i64 0, .string ⟨#[]⟩, .int .i64 0, .int .i64 0, .string ⟨#[]⟩, .int .i64 0, .string ⟨#[]⟩, .int .i64 0, .int .i64 0, .int .i64 0, .int .i64 ig, .int .i64 iF, .int .i64 0, .int .i64 0, .string ⟨#[]⟩, .string ⟨#[]⟩, .slice none 0 0, .int .i64 0, .string ⟨#[]⟩, .slice eW n24 dP] := by kernel_rfl
set_option maxHeartbeats 8000000 in
set_option maxRecDepth 100000 in
theorem rreq_Get.calls (k : Nat) (a0 : ByteArray) (r1 : Int) (r2 : Int) (r3 : Int) (r4 : ByteArray) (r5 : Int) (r6 : Int) (r7 : ByteArray) (r8 : Int) (r9 : Int) (r10 : ByteArray) (r11 : Int) (r12 : ByteArray) (r13 : Int) (r14 : Int) (r15 : Int) (r16 : Int) (r17 : Int) (r18 : Int) (r19 : Int) (r20 : ByteArray) (r21 : ByteArray) (r22 : List (S46)) (r23 : Int) (r24 : ByteArray) (r25 : List (S48)) (r26 : Int) (r27 : Int) (w : World) (h : rreq_Get.f k a0 = some (r1, r2, r3, r4, r5, r6, r7, r8, r9, r10, r11, r12, r13, r14, r15, r16, r17, r18, r19, r20, r21, r22, r23, r24, r25, r26, r27)) :
  Calls Try.prog 22 #[.string a0] w fun e w' => ∃ v21_ v24_ : Value, e = .returned (.tuple #[.agg #[.int .i64 r1, .int .i64 r2, .int .i64 r3, .string r4, .int .i64 r5, .int .i64 r6, .string r7, .int .i64 r8, .int .i64 r9, .string r10, .int .i64 r11, .string r12, .int .i64 r13, .int .i64 r14, .int .i64 r15, .int .i64 r16, .int .i64 r17, .int .i64 r18, .int .i64 r19, .string r20, .string r21, v21_, .int .i64 r23, .string r24, v24_], .int .i64 r26, .int .i64 r27]) ∧ Kd.R k46 46 w' w.heap.size (fun _ => True) v21_ r22 ∧ Kd.R k48 48 w' w.heap.size (fun _ => True) v24_ r25 ∧ Below w.heap.size w w' := by
 have fn := Try.underlying25
 have ju := Try.underlying60
 have HB := Aside0.mk (Below.refl w.heap.size w)
 have H : (if (a0.size : Int) < 24 then (some (0, 0, 0, (⟨#[]⟩ : ByteArray), 0, 0, (⟨#[]⟩ : ByteArray), 0, 0, (⟨#[]⟩ : ByteArray), 0, (⟨#[]⟩ : ByteArray), 0, 0, 0, 0, 0, 0, 0, (⟨#[]⟩ : ByteArray), (⟨#[]⟩ : ByteArray), ([] : List (S46)), 0, (⟨#[]⟩ : ByteArray), ([] : List (S48)), (a0.size : Int), 2)) else (if 1 < (a0.size : Int) then (if 2 < (a0.size : Int) then (if (Go.bits .or .u8 (Go.bits .and .u8 (bt a0 1) 7) (bt a0 2)) = 0 then (if 24 ≤ (a0.size : Int) then ((ext_Get.f k (a0.extract 24 a0.size)).bind fun aE => (if aE.2.2 = 0 then (if 3 < (a0.size : Int) then ((cursor_New.f a0).bind fun dQ => ((cursor_Text.f dQ.1 dQ.2.1 dQ.2.2.1 dQ.2.2.2 4).bind fun eN => ((cursor_Num.f eN.2.1 eN.2.2.1 eN.2.2.2.1 eN.2.2.2.2 4).bind fun bC => ((cursor_Text.f bC.2.1 bC.2.2.1 bC.2.2.2.1 bC.2.2.2.2 4).bind fun dg => ((cursor_Num.f dg.2.1 dg.2.2.1 dg.2.2.2.1 dg.2.2.2.2 4).bind fun cr => ((cursor_Text.f cr.2.1 cr.2.2.1 cr.2.2.2.1 cr.2.2.2.2 4).bind fun aK => ((cursor_Num.f aK.2.1 aK.2.2.1 aK.2.2.2.1 aK.2.2.2.2 4).bind fun eY => (some (3, 0, 0, (⟨#[]⟩ : ByteArray), 0, 0, (⟨#[]⟩ : ByteArray), 0, 0, (⟨#[]⟩ : ByteArray), 0, (⟨#[]⟩ : ByteArray), cr.1, eY.1, 0, wrap64 ((bt a0 1) / 8), wrap64 (bt a0 3), bC.1, 0, dg.1, aK.1, ([] : List (S46)), 0, (⟨#[]⟩ : ByteArray), aE.1, 0, 0))))))))) else (none)) else (some (0, 0, 0, (⟨#[]⟩ : ByteArray), 0, 0, (⟨#[]⟩ : ByteArray), 0, 0, (⟨#[]⟩ : ByteArray), 0, (⟨#[]⟩ : ByteArray), 0, 0, 0, 0, 0, 0, 0, (⟨#[]⟩ : ByteArray), (⟨#[]⟩ : ByteArray), ([] : List (S46)), 0, (⟨#[]⟩ : ByteArray), ([] : List (S48)), wrap64 (aE.2.1 + 24), aE.2.2)))) else (none)) else (some (0, 0, 0, (⟨#[]⟩ : ByteArray), 0, 0, (⟨#[]⟩ : ByteArray), 0, 0, (⟨#[]⟩ : ByteArray), 0, (⟨#[]⟩ : ByteArray), 0, 0, 0, 0, 0, 0, 0, (⟨#[]⟩ : ByteArray), (⟨#[]⟩ : ByteArray), ([] : List (S46)), 0, (⟨#[]⟩ : ByteArray), ([] : List (S48)), 1, 5))) else (none)) else (none))) = some (r1, r2, r3, r4, r5, r6, r7, r8, r9, r10, r11, r12, r13, r14, r15, r16, r17, r18, r19, r20, r21, r22, r23, r24, r25, r26, r27) := h
 clear h
 by_cases c2 : (a0.size : Int) < 24
 ·rw [if_pos c2] at H
  have eE : decide ((a0.size : Int) < 24) = true := decide_eq_true c2
  have fo : decide (a0.size < 24) = true := decide_eq_true Z34
  clear c2
  simp only [Option.some.injEq, Prod.mk.injEq] at H
  obtain ⟨rfl, rfl, rfl, rfl, rfl, rfl, rfl, rfl, rfl, rfl, rfl, rfl, rfl, rfl, rfl, rfl, rfl, rfl, rfl, rfl, rfl, rfl, rfl, rfl, rfl, rfl, rfl⟩ := H
  go_enter Try.func22, Try.ntmps22
  go_wp2_with (first | ((with_reducible refine gate_dst (N := 46) rfl ?_); refine Pre.build_event 46 25 [(0, Go.Operand.const (Go.Value.int Go.IntKind.i64 3)), (15, Go.Operand.tmp 41), (16, Go.Operand.tmp 44), (24, Go.Operand.tmp 45)] rfl rfl rfl (rreq_Get.bd46 _ _ _ _ _ _) ?_) | ((with_reducible refine Pre.gate_load 25 rfl ?_); (try (refine gate_guard Z22 ?_; dsimp only)); refine Pre.load_event rfl rfl rfl Z22 Z18 Try.underlying25 rfl Z14 ?_) | ((with_reducible refine gate_dst (N := 2) rfl ?_); refine Sq.box 2 #[.int .i64 0, .int .i64 0, .int .i64 0, .string ⟨#[]⟩, .int .i64 0, .int .i64 0, .string ⟨#[]⟩, .int .i64 0, .int .i64 0, .string ⟨#[]⟩, .int .i64 0, .string ⟨#[]⟩, .int .i64 0, .int .i64 0, .int .i64 0, .int .i64 0, .int .i64 0, .int .i64 0, .int .i64 0, .string ⟨#[]⟩, .string ⟨#[]⟩, .slice none 0 0, .int .i64 0, .string ⟨#[]⟩, .slice none 0 0] 25 ?_; intro ab hg w3 hbox hb; have aa := Aside0.mk (hbox); have bR := Aside0.mk (Sq.ge hg Z1); have bf := Aside0.mk (Sq.ge hg Z1); replace HB := Aside0.mk (below_step Z1 hb); clear hb hbox hg; have jL := cells_25 aa.out) | ((with_reducible refine Pre.gate_store 25 rfl ?_); refine Pre.store_abs (cur := #[.int .i64 0, .int .i64 0, .int .i64 0, .string ⟨#[]⟩, .int .i64 0, .int .i64 0, .string ⟨#[]⟩, .int .i64 0, .int .i64 0, .string ⟨#[]⟩, .int .i64 0, .string ⟨#[]⟩, .int .i64 0, .int .i64 0, .int .i64 0, .int .i64 0, .int .i64 0, .int .i64 0, .int .i64 0, .string ⟨#[]⟩, .string ⟨#[]⟩, .slice none 0 0, .int .i64 0, .string ⟨#[]⟩, .slice none 0 0]) (e := 25) rfl rfl rfl Z22 Z22 Z2 Z14 Z22 Z22 ?_; intro w5 hbS_ sS_; have bl : Aside0 (w5.heap[ab]? = some (.cells #[.int .i64 0, .int .i64 0, .int .i64 0, .string ⟨#[]⟩, .int .i64 0, .int .i64 0, .string ⟨#[]⟩, .int .i64 0, .int .i64 0, .string ⟨#[]⟩, .int .i64 0, .string ⟨#[]⟩, .int .i64 0, .int .i64 0, .int .i64 0, .int .i64 0, .int .i64 0, .int .i64 0, .int .i64 0, .string ⟨#[]⟩, .string ⟨#[]⟩, .slice none 0 0, .int .i64 0, .string ⟨#[]⟩, .slice none 0 0] 25 (0, 0))) := ⟨hbS_⟩; have bm : Aside0 (Below w.heap.size w w5) := ⟨sS_.below Z0 bf.out⟩; clear hbS_ sS_; replace aa := bl; replace HB := bm; clear bl bm))
  refine bodyPost_ret (results_ctt rfl _ _ ab 25 #[.int .i64 0, .int .i64 0, .int .i64 0, .string ⟨#[]⟩, .int .i64 0, .int .i64 0, .string ⟨#[]⟩, .int .i64 0, .int .i64 0, .string ⟨#[]⟩, .int .i64 0, .string ⟨#[]⟩, .int .i64 0, .int .i64 0, .int .i64 0, .int .i64 0, .int .i64 0, .int .i64 0, .int .i64 0, .string ⟨#[]⟩, .string ⟨#[]⟩, .slice none 0 0, .int .i64 0, .string ⟨#[]⟩, .slice none 0 0] (0, 0) _ rfl Z2 Try.underlying25 rfl Z14) rfl ?_
  exact ⟨_, _, Z5, Z7, Z20, Z0⟩
 ·rw [if_neg c2] at H
  have eE : decide ((a0.size : Int) < 24) = false := decide_eq_false c2
  have fo : decide (a0.size < 24) = false := decide_eq_false Z34
  clear c2
  by_cases c6 : 1 < (a0.size : Int)
  ·rw [if_pos c6] at H
   have ga : decide (1 < (a0.size : Int)) = true := decide_eq_true c6
   have ii : decide (1 < a0.size) = true := decide_eq_true Z34
   clear c6
   by_cases c8 : 2 < (a0.size : Int)
   ·rw [if_pos c8] at H
    have gf : decide (2 < (a0.size : Int)) = true := decide_eq_true c8
    have iU : decide (2 < a0.size) = true := decide_eq_true Z34
    clear c8
    by_cases en : (Go.bits .or .u8 (Go.bits .and .u8 (bt a0 1) 7) (bt a0 2)) = 0
    ·rw [if_pos en] at H
     have eP : ((Go.bits .or .u8 (Go.bits .and .u8 (bt a0 1) 7) (bt a0 2)) == 0) = true := beq_iff_eq.mpr en
     have fv : ((Go.bits .or .u8 (Go.bits .and .u8 (bt a0 1) 7) (bt a0 2)) != 0) = false := bne_eq_false_iff_eq.mpr en
     clear en
     by_cases dK : 24 ≤ (a0.size : Int)
     ·rw [if_pos dK] at H
      have eB := eq_true dK
      have fp : decide (24 ≤ (a0.size : Int)) = true := decide_eq_true dK
      clear dK
      replace H := Option.bind_eq_some_iff.mp H
      obtain ⟨⟨aM, aX, aV⟩, mF, H⟩ := H
      replace H : (if aV = 0 then (if 3 < (a0.size : Int) then ((cursor_New.f a0).bind fun dQ => ((cursor_Text.f dQ.1 dQ.2.1 dQ.2.2.1 dQ.2.2.2 4).bind fun eN => ((cursor_Num.f eN.2.1 eN.2.2.1 eN.2.2.2.1 eN.2.2.2.2 4).bind fun bC => ((cursor_Text.f bC.2.1 bC.2.2.1 bC.2.2.2.1 bC.2.2.2.2 4).bind fun dg => ((cursor_Num.f dg.2.1 dg.2.2.1 dg.2.2.2.1 dg.2.2.2.2 4).bind fun cr => ((cursor_Text.f cr.2.1 cr.2.2.1 cr.2.2.2.1 cr.2.2.2.2 4).bind fun aK => ((cursor_Num.f aK.2.1 aK.2.2.1 aK.2.2.2.1 aK.2.2.2.2 4).bind fun eY => (some (3, 0, 0, (⟨#[]⟩ : ByteArray), 0, 0, (⟨#[]⟩ : ByteArray), 0, 0, (⟨#[]⟩ : ByteArray), 0, (⟨#[]⟩ : ByteArray), cr.1, eY.1, 0, wrap64 ((bt a0 1) / 8), wrap64 (bt a0 3), bC.1, 0, dg.1, aK.1, ([] : List (S46)), 0, (⟨#[]⟩ : ByteArray), aM, 0, 0))))))))) else (none)) else (some (0, 0, 0, (⟨#[]⟩ : ByteArray), 0, 0, (⟨#[]⟩ : ByteArray), 0, 0, (⟨#[]⟩ : ByteArray), 0, (⟨#[]⟩ : ByteArray), 0, 0, 0, 0, 0, 0, 0, (⟨#[]⟩ : ByteArray), (⟨#[]⟩ : ByteArray), ([] : List (S46)), 0, (⟨#[]⟩ : ByteArray), ([] : List (S48)), wrap64 (aX + 24), aV))) = some (r1, r2, r3, r4, r5, r6, r7, r8, r9, r10, r11, r12, r13, r14, r15, r16, r17, r18, r19, r20, r21, r22, r23, r24, r25, r26, r27) := H
      have sF := Aside0.mk mF
      clear mF
      by_cases ew : aV = 0
      ·rw [if_pos ew] at H
       have fd : (aV == 0) = true := beq_iff_eq.mpr ew
       have gT : (aV != 0) = false := bne_eq_false_iff_eq.mpr ew
       clear ew
       by_cases eV : 3 < (a0.size : Int)
       ·rw [if_pos eV] at H
        have iH : decide (3 < (a0.size : Int)) = true := decide_eq_true eV
        have jE : decide (3 < a0.size) = true := decide_eq_true Z34
        clear eV
        replace H := Option.bind_eq_some_iff.mp H
        obtain ⟨⟨aQ, ba, bk, bK⟩, mG, H⟩ := H
        replace H : ((cursor_Text.f aQ ba bk bK 4).bind fun eN => ((cursor_Num.f eN.2.1 eN.2.2.1 eN.2.2.2.1 eN.2.2.2.2 4).bind fun bC => ((cursor_Text.f bC.2.1 bC.2.2.1 bC.2.2.2.1 bC.2.2.2.2 4).bind fun dg => ((cursor_Num.f dg.2.1 dg.2.2.1 dg.2.2.2.1 dg.2.2.2.2 4).bind fun cr => ((cursor_Text.f cr.2.1 cr.2.2.1 cr.2.2.2.1 cr.2.2.2.2 4).bind fun aK => ((cursor_Num.f aK.2.1 aK.2.2.1 aK.2.2.2.1 aK.2.2.2.2 4).bind fun eY => (some (3, 0, 0, (⟨#[]⟩ : ByteArray), 0, 0, (⟨#[]⟩ : ByteArray), 0, 0, (⟨#[]⟩ : ByteArray), 0, (⟨#[]⟩ : ByteArray), cr.1, eY.1, 0, wrap64 ((bt a0 1) / 8), wrap64 (bt a0 3), bC.1, 0, dg.1, aK.1, ([] : List (S46)), 0, (⟨#[]⟩ : ByteArray), aM, 0, 0)))))))) = some (r1, r2, r3, r4, r5, r6, r7, r8, r9, r10, r11, r12, r13, r14, r15, r16, r17, r18, r19, r20, r21, r22, r23, r24, r25, r26, r27) := H
        have sG := Aside0.mk mG
        clear mG
        replace H := Option.bind_eq_some_iff.mp H
        obtain ⟨⟨cj, bL, bP, bF, bO⟩, rc, H⟩ := H
        replace H : ((cursor_Num.f bL bP bF bO 4).bind fun bC => ((cursor_Text.f bC.2.1 bC.2.2.1 bC.2.2.2.1 bC.2.2.2.2 4).bind fun dg => ((cursor_Num.f dg.2.1 dg.2.2.1 dg.2.2.2.1 dg.2.2.2.2 4).bind fun cr => ((cursor_Text.f cr.2.1 cr.2.2.1 cr.2.2.2.1 cr.2.2.2.2 4).bind fun aK => ((cursor_Num.f aK.2.1 aK.2.2.1 aK.2.2.2.1 aK.2.2.2.2 4).bind fun eY => (some (3, 0, 0, (⟨#[]⟩ : ByteArray), 0, 0, (⟨#[]⟩ : ByteArray), 0, 0, (⟨#[]⟩ : ByteArray), 0, (⟨#[]⟩ : ByteArray), cr.1, eY.1, 0, wrap64 ((bt a0 1) / 8), wrap64 (bt a0 3), bC.1, 0, dg.1, aK.1, ([] : List (S46)), 0, (⟨#[]⟩ : ByteArray), aM, 0, 0))))))) = some (r1, r2, r3, r4, r5, r6, r7, r8, r9, r10, r11, r12, r13, r14, r15, r16, r17, r18, r19, r20, r21, r22, r23, r24, r25, r26, r27) := H
        have uD := Aside0.mk rc
        clear rc
        replace H := Option.bind_eq_some_iff.mp H
        obtain ⟨⟨bE, bS, bZ, ca, ck⟩, mH, H⟩ := H
        replace H : ((cursor_Text.f bS bZ ca ck 4).bind fun dg => ((cursor_Num.f dg.2.1 dg.2.2.1 dg.2.2.2.1 dg.2.2.2.2 4).bind fun cr => ((cursor_Text.f cr.2.1 cr.2.2.1 cr.2.2.2.1 cr.2.2.2.2 4).bind fun aK => ((cursor_Num.f aK.2.1 aK.2.2.1 aK.2.2.2.1 aK.2.2.2.2 4).bind fun eY => (some (3, 0, 0, (⟨#[]⟩ : ByteArray), 0, 0, (⟨#[]⟩ : ByteArray), 0, 0, (⟨#[]⟩ : ByteArray), 0, (⟨#[]⟩ : ByteArray), cr.1, eY.1, 0, wrap64 ((bt a0 1) / 8), wrap64 (bt a0 3), bE, 0, dg.1, aK.1, ([] : List (S46)), 0, (⟨#[]⟩ : ByteArray), aM, 0, 0)))))) = some (r1, r2, r3, r4, r5, r6, r7, r8, r9, r10, r11, r12, r13, r14, r15, r16, r17, r18, r19, r20, r21, r22, r23, r24, r25, r26, r27) := H
        have ta := Aside0.mk mH
        clear mH
        replace H := Option.bind_eq_some_iff.mp H
        obtain ⟨⟨dV, lS, eI, dM, cb⟩, je, H⟩ := H
        replace H : ((cursor_Num.f lS eI dM cb 4).bind fun cr => ((cursor_Text.f cr.2.1 cr.2.2.1 cr.2.2.2.1 cr.2.2.2.2 4).bind fun aK => ((cursor_Num.f aK.2.1 aK.2.2.1 aK.2.2.2.1 aK.2.2.2.2 4).bind fun eY => (some (3, 0, 0, (⟨#[]⟩ : ByteArray), 0, 0, (⟨#[]⟩ : ByteArray), 0, 0, (⟨#[]⟩ : ByteArray), 0, (⟨#[]⟩ : ByteArray), cr.1, eY.1, 0, wrap64 ((bt a0 1) / 8), wrap64 (bt a0 3), bE, 0, dV, aK.1, ([] : List (S46)), 0, (⟨#[]⟩ : ByteArray), aM, 0, 0))))) = some (r1, r2, r3, r4, r5, r6, r7, r8, r9, r10, r11, r12, r13, r14, r15, r16, r17, r18, r19, r20, r21, r22, r23, r24, r25, r26, r27) := H
        have gr := Aside0.mk je
        clear je
        replace H := Option.bind_eq_some_iff.mp H
        obtain ⟨⟨es, gQ, hM, ex, hF⟩, kE, H⟩ := H
        replace H : ((cursor_Text.f gQ hM ex hF 4).bind fun aK => ((cursor_Num.f aK.2.1 aK.2.2.1 aK.2.2.2.1 aK.2.2.2.2 4).bind fun eY => (some (3, 0, 0, (⟨#[]⟩ : ByteArray), 0, 0, (⟨#[]⟩ : ByteArray), 0, 0, (⟨#[]⟩ : ByteArray), 0, (⟨#[]⟩ : ByteArray), es, eY.1, 0, wrap64 ((bt a0 1) / 8), wrap64 (bt a0 3), bE, 0, dV, aK.1, ([] : List (S46)), 0, (⟨#[]⟩ : ByteArray), aM, 0, 0)))) = some (r1, r2, r3, r4, r5, r6, r7, r8, r9, r10, r11, r12, r13, r14, r15, r16, r17, r18, r19, r20, r21, r22, r23, r24, r25, r26, r27) := H
        have eR := Aside0.mk kE
        clear kE
        replace H := Option.bind_eq_some_iff.mp H
        obtain ⟨⟨dN, fA, eS, gi, gj⟩, re, H⟩ := H
        replace H : ((cursor_Num.f fA eS gi gj 4).bind fun eY => (some (3, 0, 0, (⟨#[]⟩ : ByteArray), 0, 0, (⟨#[]⟩ : ByteArray), 0, 0, (⟨#[]⟩ : ByteArray), 0, (⟨#[]⟩ : ByteArray), es, eY.1, 0, wrap64 ((bt a0 1) / 8), wrap64 (bt a0 3), bE, 0, dV, dN, ([] : List (S46)), 0, (⟨#[]⟩ : ByteArray), aM, 0, 0))) = some (r1, r2, r3, r4, r5, r6, r7, r8, r9, r10, r11, r12, r13, r14, r15, r16, r17, r18, r19, r20, r21, r22, r23, r24, r25, r26, r27) := H
        have uE := Aside0.mk re
        clear re
        replace H := Option.bind_eq_some_iff.mp H
        obtain ⟨⟨gR, gB, gC, gD, gE⟩, kC, H⟩ := H
        replace H : (some (3, 0, 0, (⟨#[]⟩ : ByteArray), 0, 0, (⟨#[]⟩ : ByteArray), 0, 0, (⟨#[]⟩ : ByteArray), 0, (⟨#[]⟩ : ByteArray), es, gR, 0, wrap64 ((bt a0 1) / 8), wrap64 (bt a0 3), bE, 0, dV, dN, ([] : List (S46)), 0, (⟨#[]⟩ : ByteArray), aM, 0, 0)) = some (r1, r2, r3, r4, r5, r6, r7, r8, r9, r10, r11, r12, r13, r14, r15, r16, r17, r18, r19, r20, r21, r22, r23, r24, r25, r26, r27) := H
        have nK := Aside0.mk kC
        clear kC
        simp only [Option.some.injEq, Prod.mk.injEq] at H
        obtain ⟨rfl, rfl, rfl, rfl, rfl, rfl, rfl, rfl, rfl, rfl, rfl, rfl, rfl, rfl, rfl, rfl, rfl, rfl, rfl, rfl, rfl, rfl, rfl, rfl, rfl, rfl, rfl⟩ := H
        go_enter Try.func22, Try.ntmps22
        try go_wp2_with (first | ((with_reducible refine gate_dst (N := 46) rfl ?_); refine Pre.build_event 46 25 [(0, Go.Operand.const (Go.Value.int Go.IntKind.i64 3)), (15, Go.Operand.tmp 41), (16, Go.Operand.tmp 44), (24, Go.Operand.tmp 45)] rfl rfl rfl (rreq_Get.bd46 _ _ _ _ _ _) ?_) | ((with_reducible refine Pre.gate_load 25 rfl ?_); (try (refine gate_guard Z22 ?_; dsimp only)); refine Pre.load_event rfl rfl rfl Z22 Z18 Try.underlying25 rfl Z14 ?_) | ((with_reducible refine gate_dst (N := 2) rfl ?_); refine Sq.box 2 #[.int .i64 0, .int .i64 0, .int .i64 0, .string ⟨#[]⟩, .int .i64 0, .int .i64 0, .string ⟨#[]⟩, .int .i64 0, .int .i64 0, .string ⟨#[]⟩, .int .i64 0, .string ⟨#[]⟩, .int .i64 0, .int .i64 0, .int .i64 0, .int .i64 0, .int .i64 0, .int .i64 0, .int .i64 0, .string ⟨#[]⟩, .string ⟨#[]⟩, .slice none 0 0, .int .i64 0, .string ⟨#[]⟩, .slice none 0 0] 25 ?_; intro ab hg pb hbox hb; have aa := Aside0.mk (hbox); have bR := Aside0.mk (Sq.ge hg Z1); have bf := Aside0.mk (Sq.ge hg Z1); replace HB := Aside0.mk (below_step Z1 hb); clear hb hbox hg))
        have bl := Aside0.mk (blk_drew aa.out)
        have bm := Aside0.mk (below_drew1 HB.out)
        clear aa
        clear HB
        have aa := bl
        have HB := bm
        clear bl bm
        have p7 : 0 ≤ (1 : Int) := Z34
        have q7 : 1 < a0.size := (by have : (1 : Int) < (a0.size : Int) := of_decide_eq_true Z6; omega)
        have hx7 : ∀ h : 1 < a0.size, ((a0[1]'h).toNat : Int) = bt a0 1 := bt_at a0 1
        clear p7
        have qi7 : (1 < (a0.size : Int)) = True := eq_true (of_decide_eq_true Z6)
        replace q7 := eq_true q7
        have p9 : 0 ≤ (2 : Int) := Z34
        have q9 : 2 < a0.size := (by have : (2 : Int) < (a0.size : Int) := of_decide_eq_true Z6; omega)
        have hx9 : ∀ h : 2 < a0.size, ((a0[2]'h).toNat : Int) = bt a0 2 := bt_at a0 2
        clear p9
        have qi9 : (2 < (a0.size : Int)) = True := eq_true (of_decide_eq_true Z6)
        replace q9 := eq_true q9
        refine start_ (n := 7) (S := fun w' => True) (ds := []) (Sq.b 7 0) Z14 rfl rfl trivial (fun hHeld => ?_)
        generalize pb.drew = tY at aa HB hHeld ⊢
        refine pure_ (i := 0) (N := some 17) (v := ?_) (a' := ?_) (Sq.b 7 1) rfl rfl Z14 (fun _ _ _ h => h) (Or.inl ⟨Z22, ?_⟩) ?_ ?_
        rotate_left
        ·intro w'
         go_simp
         with_reducible rfl
        rotate_left
        ·simp only [Act.put, Sq.s1, Sq.s2, Sq.s3, i64_w, i32_w]
         rfl
        refine pure_ (i := 3) (N := some 20) (v := ?_) (a' := ?_) (Sq.b 7 9) rfl rfl Z14 (fun _ _ _ h => h) (Or.inl ⟨Z22, ?_⟩) ?_ ?_
        rotate_left
        ·intro w'
         go_simp
         with_reducible rfl
        rotate_left
        ·simp only [Act.put, Sq.s1, Sq.s2, Sq.s3, i64_w, i32_w]
         rfl
        refine take_ (i := 1) (N := some 18) (v := ?_) (a' := ?_) (Sq.b 7 11) rfl rfl Z14 (fun _ _ _ h => h) (Or.inl ⟨Z22, ?_⟩) hHeld ?_ ?_
        rotate_left
        ·intro w' _
         go_simp
         with_reducible rfl
        rotate_left
        ·simp only [Act.put, Sq.s1, Sq.s2, Sq.s3, i64_w, i32_w]
         rfl
        refine pure_ (i := 2) (N := some 19) (v := ?_) (a' := ?_) (Sq.b 7 15) rfl rfl Z14 (fun _ _ _ h => h) (Or.inl ⟨Z22, ?_⟩) ?_ ?_
        rotate_left
        ·intro w'
         go_simp
         with_reducible rfl
        rotate_left
        ·simp only [Act.put, Sq.s1, Sq.s2, Sq.s3, i64_w, i32_w]
         rfl
        refine take_ (i := 4) (N := some 21) (v := ?_) (a' := ?_) (Sq.b 7 31) rfl rfl Z14 (fun _ _ _ h => h) (Or.inl ⟨Z22, ?_⟩) hHeld ?_ ?_
        rotate_left
        ·intro w' _
         go_simp
         with_reducible rfl
        rotate_left
        ·simp only [Act.put, Sq.s1, Sq.s2, Sq.s3, i64_w, i32_w]
         rfl
        refine pure_ (i := 5) (N := some 22) (v := ?_) (a' := ?_) (Sq.b 7 63) rfl rfl Z14 (fun _ _ _ h => h) (Or.inl ⟨Z22, ?_⟩) ?_ ?_
        rotate_left
        ·intro w'
         go_simp
         with_reducible rfl
        rotate_left
        ·simp only [Act.put, Sq.s1, Sq.s2, Sq.s3, i64_w, i32_w]
         rfl
        refine pure_ (i := 6) (N := some 23) (v := ?_) (a' := ?_) (Sq.b 7 127) rfl rfl Z14 (fun _ _ _ h => h) (Or.inl ⟨Z22, ?_⟩) ?_ ?_
        rotate_left
        ·intro w'
         go_simp
         with_reducible rfl
        rotate_left
        ·simp only [Act.put, Sq.s1, Sq.s2, Sq.s3, i64_w, i32_w]
         rfl
        refine done_ Z14 ?_
        try go_wp2_with (first | ((with_reducible refine gate_dst (N := 46) rfl ?_); refine Pre.build_event 46 25 [(0, Go.Operand.const (Go.Value.int Go.IntKind.i64 3)), (15, Go.Operand.tmp 41), (16, Go.Operand.tmp 44), (24, Go.Operand.tmp 45)] rfl rfl rfl (rreq_Get.bd46 _ _ _ _ _ _) ?_) | ((with_reducible refine Pre.gate_load 25 rfl ?_); (try (refine gate_guard Z22 ?_; dsimp only)); refine Pre.load_event rfl rfl rfl Z22 Z18 Try.underlying25 rfl Z14 ?_) | ((with_reducible refine gate_callee (f := 59) rfl ?_); refine goesL_ (some 28) rfl rfl Try.func59 Z14 rfl #[.string (a0.extract 24 a0.size)] rfl Z4 ?_; (with_reducible refine (ext_Get.calls k (a0.extract 24 a0.size) aM aX aV _ sF.out).mono ?_); rintro e iR ⟨il, rfl, ho0, hb⟩; refine ⟨_, rfl, ?_⟩; have bw := Aside0.mk (Kd.R_lower ho0 (below_size Z0)); replace aa := Aside0.mk (blk_below (g := ab) Z2 hb); replace HB := Aside0.mk (below_step Z0 hb); clear hb ho0))
        have bl := Aside0.mk (Kd.R_drew bw.out)
        have bm := Aside0.mk (blk_drew aa.out)
        have bI := Aside0.mk (below_drew1 HB.out)
        clear bw
        clear aa
        clear HB
        have bw := bl
        have aa := bm
        have HB := bI
        clear bl bm bI
        have p14 : 0 ≤ (1 : Int) := Z34
        have q14 : 1 < a0.size := (by have : (1 : Int) < (a0.size : Int) := of_decide_eq_true Z6; omega)
        have hx14 : ∀ h : 1 < a0.size, ((a0[1]'h).toNat : Int) = bt a0 1 := bt_at a0 1
        clear p14
        have qi14 : (1 < (a0.size : Int)) = True := eq_true (of_decide_eq_true Z6)
        replace q14 := eq_true q14
        have p16 : 0 ≤ (3 : Int) := Z34
        have q16 : 3 < a0.size := (by have : (3 : Int) < (a0.size : Int) := of_decide_eq_true Z6; omega)
        have hx16 : ∀ h : 3 < a0.size, ((a0[3]'h).toNat : Int) = bt a0 3 := bt_at a0 3
        clear p16
        have qi16 : (3 < (a0.size : Int)) = True := eq_true (of_decide_eq_true Z6)
        replace q16 := eq_true q16
        obtain ⟨gl, gn, eo28⟩ := Kd.R_slice bw.out
        (first | subst eo28 | (injection eo28 with f1_ f2_ f3_; have f4_ := f1_.symm; have f5_ := f3_.symm; clear f1_ f2_ f3_; subst f4_; subst f5_))
        refine start_ (n := 11) (S := fun w' => True) (ds := []) (Sq.b 11 0) Z14 rfl rfl trivial (fun hHeld => ?_); refine with_tabW rreq_Get.tab8 rreq_Get.bits8 (fun HT_ HW_ => ?_)
        generalize iR.drew = nA at bw aa HB hHeld ⊢
        refine Sq.pur 0 (some 38) (Sq.b 11 1) HT_.out ?_
        refine Sq.pur 4 (some 42) (Sq.b 11 17) HT_.out ?_
        refine Sq.pur 7 (some 45) (Sq.b 11 145) HT_.out ?_
        refine Sq.tak 1 (some 39) (Sq.b 11 147) HT_.out HW_.out hHeld (v := ?_) (a' := ?_) ?_ ?_ ?_
        rotate_left
        ·intro w' _
         go_simp
         with_reducible rfl
        rotate_left
        ·simp only [Act.put, Sq.s1, Sq.s2, Sq.s3, i64_w, i32_w]
         rfl
        refine Sq.pur 2 (some 40) (Sq.b 11 151) HT_.out ?_
        refine Sq.pur 3 (some 41) (Sq.b 11 159) HT_.out ?_
        refine Sq.tak 5 (some 43) (Sq.b 11 191) HT_.out HW_.out hHeld (v := ?_) (a' := ?_) ?_ ?_ ?_
        rotate_left
        ·intro w' _
         go_simp
         with_reducible rfl
        rotate_left
        ·simp only [Act.put, Sq.s1, Sq.s2, Sq.s3, i64_w, i32_w]
         rfl
        refine Sq.pur 6 (some 44) (Sq.b 11 255) HT_.out ?_
        refine pure_ (i := 8) (N := some 46) (v := ?_) (a' := ?_) (Sq.b 11 511) rfl rfl (any_of HT_.out Z14) (fun _ _ _ h => h) (Or.inl ⟨Z22, ?_⟩) ?_ ?_
        rotate_left
        ·intro w'
         refine Eq.trans (Pre.build_run 25 [(0, Go.Operand.const (Go.Value.int Go.IntKind.i64 3)), (15, Go.Operand.tmp 41), (16, Go.Operand.tmp 44), (24, Go.Operand.tmp 45)] rfl (rreq_Get.bd46 _ _ _ _ _ _)) ?_
         with_reducible rfl
        rotate_left
        ·simp only [Act.put, Sq.s1, Sq.s2, Sq.s3, i64_w, i32_w]
         rfl
        refine one_ (i := 9) (N := some 8) (Sq.b 11 1023) rfl rfl (one_of HT_.out Z14) Z27 (fun K hK => ?_)
        refine box_step ?hg (N := 8) ?hd (cs := #[.int .i64 0, .int .i64 0, .int .i64 0, .string ⟨#[]⟩, .int .i64 0, .int .i64 0, .string ⟨#[]⟩, .int .i64 0, .int .i64 0, .string ⟨#[]⟩, .int .i64 0, .string ⟨#[]⟩, .int .i64 0, .int .i64 0, .int .i64 0, .int .i64 0, .int .i64 0, .int .i64 0, .int .i64 0, .string ⟨#[]⟩, .string ⟨#[]⟩, .slice none 0 0, .int .i64 0, .string ⟨#[]⟩, .slice none 0 0]) (t := 25) ?hr ?_; (case hd => rfl); (case hg => rfl); (case hr => first | (go_simp; done) | (go_simp; rfl))
        intro br hg oj hbox hb
        have bl := Aside0.mk (Kd.R_below Z47 hb)
        have bm := Aside0.mk (blk_below (g := ab) Z2 hb)
        have bI := Aside0.mk (below_step Z0 hb)
        have dU := Aside0.mk (hbox)
        have hL := Aside0.mk ((by rw [hg]; exact (below_size Z0) : w.heap.size ≤ br))
        have lz := Aside0.mk ((by rw [hg]; exact (below_size Z0) : w.heap.size ≤ br))
        have qT := Aside0.mk ((by rw [hg]; exact Nat.ne_of_lt (blk_lt (g := ab) Z2) : ab ≠ br))
        have qU := Aside0.mk ((by rw [hg]; exact Nat.ne_of_gt (blk_lt (g := ab) Z2) : br ≠ ab))
        clear bw
        clear aa
        clear HB
        have bw := bl
        have aa := bm
        have HB := bI
        have bg := dU
        have lq := hL
        have gU := lz
        have eK := qT
        have gv := qU
        clear bl bm bI dU hL lz qT qU
        clear hb hbox hg
        refine hK.out _ _ trivial (fun hHeld => ?_)
        clear hK K
        refine norm_ (a' := ?_) ?_ ?_
        rotate_left
        ·show Act.put _ (some 8) _ = _
         simp only [Act.put, Sq.s1, Sq.s2, Sq.s3, i64_w, i32_w]
         rfl
        refine one_ (i := 10) (N := none) (Sq.b 11 2047) rfl rfl (one_of HT_.out Z14) Z27 (fun K hK => ?_)
        refine skip_ (w1 := ?_) Z22 rfl ?_ ?_
        rotate_left
        ·refine Eq.trans (Pre.store_run rfl Z22 Z22 bg.out Z14 Z22 Z22) ?_
         rfl
        refine hK.out _ _ trivial (fun hHeld => ?_)
        clear hK K
        refine done_ (done_of HT_.out Z14) ?_
        refine Pre.abs_end (g := br) (t := 25) (cs := #[.int .i64 0, .int .i64 0, .int .i64 0, .string ⟨#[]⟩, .int .i64 0, .int .i64 0, .string ⟨#[]⟩, .int .i64 0, .int .i64 0, .string ⟨#[]⟩, .int .i64 0, .string ⟨#[]⟩, .int .i64 0, .int .i64 0, .int .i64 0, .int .i64 0, .int .i64 0, .int .i64 0, .int .i64 0, .string ⟨#[]⟩, .string ⟨#[]⟩, .slice none 0 0, .int .i64 0, .string ⟨#[]⟩, .slice none 0 0]) (cells := #[.int .i64 3, .int .i64 0, .int .i64 0, .string ⟨#[]⟩, .int .i64 0, .int .i64 0, .string ⟨#[]⟩, .int .i64 0, .int .i64 0, .string ⟨#[]⟩, .int .i64 0, .string ⟨#[]⟩, .int .i64 0, .int .i64 0, .int .i64 0, .int .i64 (wrap64 ((bt a0 1) / 8)), .int .i64 (wrap64 (bt a0 3)), .int .i64 0, .int .i64 0, .string ⟨#[]⟩, .string ⟨#[]⟩, .slice none 0 0, .int .i64 0, .string ⟨#[]⟩, .slice gl aM.length gn]) Z28 Z22 ?_
        intro rf hbS_ sS_
        replace hbS_ := Aside0.mk hbS_
        replace sS_ : Aside0 (Pre.Sets br oj rf) := ⟨⟨sS_.os, sS_.tape, sS_.output, sS_.size, sS_.block⟩⟩
        have bl : Aside0 (Kd.R k48 48 rf w.heap.size (fun _ => True) (.slice gl aM.length gn) aM) := ⟨Kd.R_mono (Pre.R_sets sS_.out (Kd.R_types bw.out bg.out Z27) (fun _ hk => hk.2)) (fun _ hk => trivial)⟩
        have bm : Aside0 (rf.heap[ab]? = some (.cells #[.int .i64 0, .int .i64 0, .int .i64 0, .string ⟨#[]⟩, .int .i64 0, .int .i64 0, .string ⟨#[]⟩, .int .i64 0, .int .i64 0, .string ⟨#[]⟩, .int .i64 0, .string ⟨#[]⟩, .int .i64 0, .int .i64 0, .int .i64 0, .int .i64 0, .int .i64 0, .int .i64 0, .int .i64 0, .string ⟨#[]⟩, .string ⟨#[]⟩, .slice none 0 0, .int .i64 0, .string ⟨#[]⟩, .slice none 0 0] 25 (0, 0))) := ⟨sS_.out.blk Z2 eK.out⟩
        have bI : Aside0 (rf.heap[br]? = some (.cells #[.int .i64 3, .int .i64 0, .int .i64 0, .string ⟨#[]⟩, .int .i64 0, .int .i64 0, .string ⟨#[]⟩, .int .i64 0, .int .i64 0, .string ⟨#[]⟩, .int .i64 0, .string ⟨#[]⟩, .int .i64 0, .int .i64 0, .int .i64 0, .int .i64 (wrap64 ((bt a0 1) / 8)), .int .i64 (wrap64 (bt a0 3)), .int .i64 0, .int .i64 0, .string ⟨#[]⟩, .string ⟨#[]⟩, .slice none 0 0, .int .i64 0, .string ⟨#[]⟩, .slice gl aM.length gn] 25 (0, 0))) := ⟨hbS_.out⟩
        have dU : Aside0 (Below w.heap.size w rf) := ⟨sS_.out.below Z25 gU.out⟩
        clear hbS_ sS_
        (try clear bw)
        (try clear aa)
        (try clear bg)
        (try clear HB)
        have bw := bl
        have aa := bm
        have bg := bI
        have HB := dU
        clear bl bm bI dU
        try go_wp2_with (first | ((with_reducible refine gate_dst (N := 46) rfl ?_); refine Pre.build_event 46 25 [(0, Go.Operand.const (Go.Value.int Go.IntKind.i64 3)), (15, Go.Operand.tmp 41), (16, Go.Operand.tmp 44), (24, Go.Operand.tmp 45)] rfl rfl rfl (rreq_Get.bd46 _ _ _ _ _ _) ?_) | ((with_reducible refine Pre.gate_load 25 rfl ?_); (try (refine gate_guard Z22 ?_; dsimp only)); refine Pre.load_event rfl rfl rfl Z22 Z18 Try.underlying25 rfl Z14 ?_) | ((with_reducible refine gate_callee (f := 61) rfl ?_); refine goesL_ (some 49) rfl rfl Try.func61 Z14 rfl #[.string a0] rfl Z4 ?_; (with_reducible refine (cursor_New.calls a0 aQ ba bk bK _ sG.out).mono ?_); rintro e ot ⟨rfl, hb⟩; refine ⟨_, rfl, ?_⟩; replace bw := Aside0.mk (Kd.R_below Z47 hb); replace aa := Aside0.mk (blk_below (g := ab) Z2 hb); replace bg := Aside0.mk (blk_below (g := br) Z28 hb); replace HB := Aside0.mk (below_step Z25 hb); clear hb) | ((with_reducible refine gate_callee (f := 60) rfl ?_); refine goesL_ (some 50) rfl rfl Try.func60 Z14 rfl #[.agg #[.string aQ, .int .i64 ba, .int .i64 bk, .bool bK], .int .i64 4] rfl Z4 ?_; (with_reducible refine (cursor_Text.calls aQ ba bk bK 4 cj bL bP bF bO _ uD.out).mono ?_); rintro e sV ⟨rfl, hb⟩; refine ⟨_, rfl, ?_⟩; replace bw := Aside0.mk (Kd.R_below Z47 hb); replace aa := Aside0.mk (blk_below (g := ab) Z2 hb); replace bg := Aside0.mk (blk_below (g := br) Z28 hb); replace HB := Aside0.mk (below_step Z25 hb); clear hb) | ((with_reducible refine gate_dst (N := 10) rfl ?_); refine Sq.box 10 #[.string ⟨#[]⟩, .int .i64 0, .int .i64 0, .bool false] 60 ?_; intro ej hg w58 hbox hb; have eJ := Aside0.mk (hbox); have GW117 := Aside0.mk (Sq.ge hg Z25); have rg := Aside0.mk (Sq.ge hg Z25); have ez := Aside0.mk (Sq.nl hg (blk_lt (g := ab) Z2)); have jF := Aside0.mk (Sq.ng hg (blk_lt (g := ab) Z2)); have bM := Aside0.mk (Sq.nl hg (blk_lt (g := br) Z28)); have iu := Aside0.mk (Sq.ng hg (blk_lt (g := br) Z28)); replace bw := Aside0.mk (Kd.R_below Z47 hb); replace aa := Aside0.mk (blk_below (g := ab) Z2 hb); replace bg := Aside0.mk (blk_below (g := br) Z28 hb); replace HB := Aside0.mk (below_step Z25 hb); clear hb hbox hg; have hnb59 := jF.out; have hnc59 := ez.out; have rh := iu.out; have ri := bM.out; have rj := cells_4 eJ.out) | ((with_reducible refine gate_callee (f := 62) rfl ?_); refine goesL_ (some 55) rfl rfl Try.func62 Z14 rfl #[.agg #[.string bL, .int .i64 bP, .int .i64 bF, .bool bO], .int .i64 4] rfl Z4 ?_; (with_reducible refine (cursor_Num.calls bL bP bF bO 4 bE bS bZ ca ck _ ta.out).mono ?_); rintro e qf ⟨rfl, hb⟩; refine ⟨_, rfl, ?_⟩; replace bw := Aside0.mk (Kd.R_below (by (with_reducible repeat (first | apply Kd.R_alloc | apply Kd.R_drewN | apply Kd.R_drew)); exact (Kd.R_mono (Kd.R_far (p := ⟨ej, 3, none⟩) (Kd.R_far (p := ⟨ej, 2, none⟩) (Kd.R_far (p := ⟨ej, 1, none⟩) (Kd.R_far (p := ⟨ej, 0, none⟩) (Kd.R_types bw.out eJ.out Z27) (fun _ hk => hk.2) (.string bL)) (fun _ hk => hk.2) (.int .i64 bP)) (fun _ hk => hk.2) (.int .i64 bF)) (fun _ hk => hk.2) (.bool bO)) (fun _ h_ => h_.1))) hb); replace aa := Aside0.mk (blk_below (g := ab) (o := .cells #[.int .i64 0, .int .i64 0, .int .i64 0, .string ⟨#[]⟩, .int .i64 0, .int .i64 0, .string ⟨#[]⟩, .int .i64 0, .int .i64 0, .string ⟨#[]⟩, .int .i64 0, .string ⟨#[]⟩, .int .i64 0, .int .i64 0, .int .i64 0, .int .i64 0, .int .i64 0, .int .i64 0, .int .i64 0, .string ⟨#[]⟩, .string ⟨#[]⟩, .slice none 0 0, .int .i64 0, .string ⟨#[]⟩, .slice none 0 0] 25 (0, 0)) (by (with_reducible repeat (first | refine blk_drewN ?_ _ | refine blk_drew ?_ | refine blk_alloc ?_ _)); refine blk_far ?_ ez.out _; (with_reducible repeat (first | refine blk_drewN ?_ _ | refine blk_drew ?_ | refine blk_alloc ?_ _)); refine blk_far ?_ ez.out _; (with_reducible repeat (first | refine blk_drewN ?_ _ | refine blk_drew ?_ | refine blk_alloc ?_ _)); refine blk_far ?_ ez.out _; (with_reducible repeat (first | refine blk_drewN ?_ _ | refine blk_drew ?_ | refine blk_alloc ?_ _)); refine blk_far ?_ ez.out _; (with_reducible repeat (first | refine blk_drewN ?_ _ | refine blk_drew ?_ | refine blk_alloc ?_ _)); exact aa.out) hb); replace bg := Aside0.mk (blk_below (g := br) (o := .cells #[.int .i64 3, .int .i64 0, .int .i64 0, .string ⟨#[]⟩, .int .i64 0, .int .i64 0, .string ⟨#[]⟩, .int .i64 0, .int .i64 0, .string ⟨#[]⟩, .int .i64 0, .string ⟨#[]⟩, .int .i64 0, .int .i64 0, .int .i64 0, .int .i64 (wrap64 ((bt a0 1) / 8)), .int .i64 (wrap64 (bt a0 3)), .int .i64 0, .int .i64 0, .string ⟨#[]⟩, .string ⟨#[]⟩, .slice none 0 0, .int .i64 0, .string ⟨#[]⟩, .slice gl aM.length gn] 25 (0, 0)) (by (with_reducible repeat (first | refine blk_drewN ?_ _ | refine blk_drew ?_ | refine blk_alloc ?_ _)); refine blk_far ?_ bM.out _; (with_reducible repeat (first | refine blk_drewN ?_ _ | refine blk_drew ?_ | refine blk_alloc ?_ _)); refine blk_far ?_ bM.out _; (with_reducible repeat (first | refine blk_drewN ?_ _ | refine blk_drew ?_ | refine blk_alloc ?_ _)); refine blk_far ?_ bM.out _; (with_reducible repeat (first | refine blk_drewN ?_ _ | refine blk_drew ?_ | refine blk_alloc ?_ _)); refine blk_far ?_ bM.out _; (with_reducible repeat (first | refine blk_drewN ?_ _ | refine blk_drew ?_ | refine blk_alloc ?_ _)); exact bg.out) hb); replace eJ := Aside0.mk (blk_below (g := ej) (o := .cells #[.string bL, .int .i64 bP, .int .i64 bF, .bool bO] 60 (0, 0)) (by (with_reducible repeat (first | refine blk_drewN ?_ _ | refine blk_drew ?_ | refine blk_alloc ?_ _)); apply blk_puts4; (with_reducible repeat (first | refine blk_drewN ?_ _ | refine blk_drew ?_ | refine blk_alloc ?_ _)); exact eJ.out) hb); replace HB := Aside0.mk (below_step Z33 hb); clear hb; (try clear hk); have hnb63 := gv.out; have hnc63 := eK.out; have hcz64 := cells_25 bg.out; have hcz65 := cells_4 eJ.out) | ((with_reducible refine gate_callee (f := 60) rfl ?_); refine goesL_ (some 61) rfl rfl Try.func60 Z14 rfl #[.agg #[.string bS, .int .i64 bZ, .int .i64 ca, .bool ck], .int .i64 4] rfl Z4 ?_; (with_reducible refine (cursor_Text.calls bS bZ ca ck 4 dV lS eI dM cb _ gr.out).mono ?_); rintro e uA ⟨rfl, hb⟩; refine ⟨_, rfl, ?_⟩; replace bw := Aside0.mk (Kd.R_below (by (with_reducible repeat (first | apply Kd.R_alloc | apply Kd.R_drewN | apply Kd.R_drew)); exact (Kd.R_mono (Kd.R_mono (Kd.R_far (p := ⟨ej, 3, none⟩) (Kd.R_far (p := ⟨ej, 2, none⟩) (Kd.R_far (p := ⟨ej, 1, none⟩) (Kd.R_far (p := ⟨ej, 0, none⟩) (Kd.R_far (p := ⟨br, 17, none⟩) (Kd.R_types (Kd.R_types bw.out bg.out Z27) eJ.out Z27) (fun _ hk => hk.1.2) (.int .i64 bE)) (fun _ hk => hk.2) (.string bS)) (fun _ hk => hk.2) (.int .i64 bZ)) (fun _ hk => hk.2) (.int .i64 ca)) (fun _ hk => hk.2) (.bool ck)) (fun _ h_ => h_.1)) (fun _ h_ => h_.1))) hb); replace aa := Aside0.mk (blk_below (g := ab) (o := .cells #[.int .i64 0, .int .i64 0, .int .i64 0, .string ⟨#[]⟩, .int .i64 0, .int .i64 0, .string ⟨#[]⟩, .int .i64 0, .int .i64 0, .string ⟨#[]⟩, .int .i64 0, .string ⟨#[]⟩, .int .i64 0, .int .i64 0, .int .i64 0, .int .i64 0, .int .i64 0, .int .i64 0, .int .i64 0, .string ⟨#[]⟩, .string ⟨#[]⟩, .slice none 0 0, .int .i64 0, .string ⟨#[]⟩, .slice none 0 0] 25 (0, 0)) Z23 hb); replace bg := Aside0.mk (blk_below (g := br) (o := .cells #[.int .i64 3, .int .i64 0, .int .i64 0, .string ⟨#[]⟩, .int .i64 0, .int .i64 0, .string ⟨#[]⟩, .int .i64 0, .int .i64 0, .string ⟨#[]⟩, .int .i64 0, .string ⟨#[]⟩, .int .i64 0, .int .i64 0, .int .i64 0, .int .i64 (wrap64 ((bt a0 1) / 8)), .int .i64 (wrap64 (bt a0 3)), .int .i64 bE, .int .i64 0, .string ⟨#[]⟩, .string ⟨#[]⟩, .slice none 0 0, .int .i64 0, .string ⟨#[]⟩, .slice gl aM.length gn] 25 (0, 0)) (by (with_reducible repeat (first | refine blk_drewN ?_ _ | refine blk_drew ?_ | refine blk_alloc ?_ _)); refine blk_far ?_ bM.out _; (with_reducible repeat (first | refine blk_drewN ?_ _ | refine blk_drew ?_ | refine blk_alloc ?_ _)); refine blk_far ?_ bM.out _; (with_reducible repeat (first | refine blk_drewN ?_ _ | refine blk_drew ?_ | refine blk_alloc ?_ _)); refine blk_far ?_ bM.out _; (with_reducible repeat (first | refine blk_drewN ?_ _ | refine blk_drew ?_ | refine blk_alloc ?_ _)); refine blk_far ?_ bM.out _; (with_reducible repeat (first | refine blk_drewN ?_ _ | refine blk_drew ?_ | refine blk_alloc ?_ _)); refine blk_put (cs := #[.int .i64 3, .int .i64 0, .int .i64 0, .string ⟨#[]⟩, .int .i64 0, .int .i64 0, .string ⟨#[]⟩, .int .i64 0, .int .i64 0, .string ⟨#[]⟩, .int .i64 0, .string ⟨#[]⟩, .int .i64 0, .int .i64 0, .int .i64 0, .int .i64 (wrap64 ((bt a0 1) / 8)), .int .i64 (wrap64 (bt a0 3)), .int .i64 0, .int .i64 0, .string ⟨#[]⟩, .string ⟨#[]⟩, .slice none 0 0, .int .i64 0, .string ⟨#[]⟩, .slice gl aM.length gn]) ?_ 17 _ rfl; (with_reducible repeat (first | refine blk_drewN ?_ _ | refine blk_drew ?_ | refine blk_alloc ?_ _)); exact bg.out) hb); replace eJ := Aside0.mk (blk_below (g := ej) (o := .cells #[.string bS, .int .i64 bZ, .int .i64 ca, .bool ck] 60 (0, 0)) Z36 hb); replace HB := Aside0.mk (below_step Z33 hb); clear hb; (try clear hk); have hcz67 := cells_25 bg.out; have hcz68 := cells_4 eJ.out) | ((with_reducible refine gate_callee (f := 62) rfl ?_); refine goesL_ (some 67) rfl rfl Try.func62 Z14 rfl #[.agg #[.string lS, .int .i64 eI, .int .i64 dM, .bool cb], .int .i64 4] rfl Z4 ?_; (with_reducible refine (cursor_Num.calls lS eI dM cb 4 es gQ hM ex hF _ eR.out).mono ?_); rintro e w69 ⟨rfl, hb⟩; refine ⟨_, rfl, ?_⟩; replace bw := Aside0.mk (Kd.R_below (by (with_reducible repeat (first | apply Kd.R_alloc | apply Kd.R_drewN | apply Kd.R_drew)); exact (Kd.R_mono (Kd.R_mono (Kd.R_far (p := ⟨ej, 3, none⟩) (Kd.R_far (p := ⟨ej, 2, none⟩) (Kd.R_far (p := ⟨ej, 1, none⟩) (Kd.R_far (p := ⟨ej, 0, none⟩) (Kd.R_far (p := ⟨br, 19, none⟩) (Kd.R_types (Kd.R_types bw.out bg.out Z27) eJ.out Z27) (fun _ hk => hk.1.2) (.string dV)) (fun _ hk => hk.2) (.string lS)) (fun _ hk => hk.2) (.int .i64 eI)) (fun _ hk => hk.2) (.int .i64 dM)) (fun _ hk => hk.2) (.bool cb)) (fun _ h_ => h_.1)) (fun _ h_ => h_.1))) hb); replace aa := Aside0.mk (blk_below (g := ab) (o := .cells #[.int .i64 0, .int .i64 0, .int .i64 0, .string ⟨#[]⟩, .int .i64 0, .int .i64 0, .string ⟨#[]⟩, .int .i64 0, .int .i64 0, .string ⟨#[]⟩, .int .i64 0, .string ⟨#[]⟩, .int .i64 0, .int .i64 0, .int .i64 0, .int .i64 0, .int .i64 0, .int .i64 0, .int .i64 0, .string ⟨#[]⟩, .string ⟨#[]⟩, .slice none 0 0, .int .i64 0, .string ⟨#[]⟩, .slice none 0 0] 25 (0, 0)) Z23 hb); replace bg := Aside0.mk (blk_below (g := br) (o := .cells #[.int .i64 3, .int .i64 0, .int .i64 0, .string ⟨#[]⟩, .int .i64 0, .int .i64 0, .string ⟨#[]⟩, .int .i64 0, .int .i64 0, .string ⟨#[]⟩, .int .i64 0, .string ⟨#[]⟩, .int .i64 0, .int .i64 0, .int .i64 0, .int .i64 (wrap64 ((bt a0 1) / 8)), .int .i64 (wrap64 (bt a0 3)), .int .i64 bE, .int .i64 0, .string dV, .string ⟨#[]⟩, .slice none 0 0, .int .i64 0, .string ⟨#[]⟩, .slice gl aM.length gn] 25 (0, 0)) (by (with_reducible repeat (first | refine blk_drewN ?_ _ | refine blk_drew ?_ | refine blk_alloc ?_ _)); refine blk_far ?_ bM.out _; (with_reducible repeat (first | refine blk_drewN ?_ _ | refine blk_drew ?_ | refine blk_alloc ?_ _)); refine blk_far ?_ bM.out _; (with_reducible repeat (first | refine blk_drewN ?_ _ | refine blk_drew ?_ | refine blk_alloc ?_ _)); refine blk_far ?_ bM.out _; (with_reducible repeat (first | refine blk_drewN ?_ _ | refine blk_drew ?_ | refine blk_alloc ?_ _)); refine blk_far ?_ bM.out _; (with_reducible repeat (first | refine blk_drewN ?_ _ | refine blk_drew ?_ | refine blk_alloc ?_ _)); refine blk_put (cs := #[.int .i64 3, .int .i64 0, .int .i64 0, .string ⟨#[]⟩, .int .i64 0, .int .i64 0, .string ⟨#[]⟩, .int .i64 0, .int .i64 0, .string ⟨#[]⟩, .int .i64 0, .string ⟨#[]⟩, .int .i64 0, .int .i64 0, .int .i64 0, .int .i64 (wrap64 ((bt a0 1) / 8)), .int .i64 (wrap64 (bt a0 3)), .int .i64 bE, .int .i64 0, .string ⟨#[]⟩, .string ⟨#[]⟩, .slice none 0 0, .int .i64 0, .string ⟨#[]⟩, .slice gl aM.length gn]) ?_ 19 _ rfl; (with_reducible repeat (first | refine blk_drewN ?_ _ | refine blk_drew ?_ | refine blk_alloc ?_ _)); exact bg.out) hb); replace eJ := Aside0.mk (blk_below (g := ej) (o := .cells #[.string lS, .int .i64 eI, .int .i64 dM, .bool cb] 60 (0, 0)) Z36 hb); replace HB := Aside0.mk (below_step Z33 hb); clear hb; (try clear hk); have hcz70 := cells_25 bg.out; have qW := cells_4 eJ.out) | ((with_reducible refine gate_callee (f := 60) rfl ?_); refine goesL_ (some 73) rfl rfl Try.func60 Z14 rfl #[.agg #[.string gQ, .int .i64 hM, .int .i64 ex, .bool hF], .int .i64 4] rfl Z4 ?_; (with_reducible refine (cursor_Text.calls gQ hM ex hF 4 dN fA eS gi gj _ uE.out).mono ?_); rintro e uB ⟨rfl, hb⟩; refine ⟨_, rfl, ?_⟩; replace bw := Aside0.mk (Kd.R_below (by (with_reducible repeat (first | apply Kd.R_alloc | apply Kd.R_drewN | apply Kd.R_drew)); exact (Kd.R_mono (Kd.R_mono (Kd.R_far (p := ⟨ej, 3, none⟩) (Kd.R_far (p := ⟨ej, 2, none⟩) (Kd.R_far (p := ⟨ej, 1, none⟩) (Kd.R_far (p := ⟨ej, 0, none⟩) (Kd.R_far (p := ⟨br, 12, none⟩) (Kd.R_types (Kd.R_types bw.out bg.out Z27) eJ.out Z27) (fun _ hk => hk.1.2) (.int .i64 es)) (fun _ hk => hk.2) (.string gQ)) (fun _ hk => hk.2) (.int .i64 hM)) (fun _ hk => hk.2) (.int .i64 ex)) (fun _ hk => hk.2) (.bool hF)) (fun _ h_ => h_.1)) (fun _ h_ => h_.1))) hb); replace aa := Aside0.mk (blk_below (g := ab) (o := .cells #[.int .i64 0, .int .i64 0, .int .i64 0, .string ⟨#[]⟩, .int .i64 0, .int .i64 0, .string ⟨#[]⟩, .int .i64 0, .int .i64 0, .string ⟨#[]⟩, .int .i64 0, .string ⟨#[]⟩, .int .i64 0, .int .i64 0, .int .i64 0, .int .i64 0, .int .i64 0, .int .i64 0, .int .i64 0, .string ⟨#[]⟩, .string ⟨#[]⟩, .slice none 0 0, .int .i64 0, .string ⟨#[]⟩, .slice none 0 0] 25 (0, 0)) Z23 hb); replace bg := Aside0.mk (blk_below (g := br) (o := .cells #[.int .i64 3, .int .i64 0, .int .i64 0, .string ⟨#[]⟩, .int .i64 0, .int .i64 0, .string ⟨#[]⟩, .int .i64 0, .int .i64 0, .string ⟨#[]⟩, .int .i64 0, .string ⟨#[]⟩, .int .i64 es, .int .i64 0, .int .i64 0, .int .i64 (wrap64 ((bt a0 1) / 8)), .int .i64 (wrap64 (bt a0 3)), .int .i64 bE, .int .i64 0, .string dV, .string ⟨#[]⟩, .slice none 0 0, .int .i64 0, .string ⟨#[]⟩, .slice gl aM.length gn] 25 (0, 0)) (by (with_reducible repeat (first | refine blk_drewN ?_ _ | refine blk_drew ?_ | refine blk_alloc ?_ _)); refine blk_far ?_ bM.out _; (with_reducible repeat (first | refine blk_drewN ?_ _ | refine blk_drew ?_ | refine blk_alloc ?_ _)); refine blk_far ?_ bM.out _; (with_reducible repeat (first | refine blk_drewN ?_ _ | refine blk_drew ?_ | refine blk_alloc ?_ _)); refine blk_far ?_ bM.out _; (with_reducible repeat (first | refine blk_drewN ?_ _ | refine blk_drew ?_ | refine blk_alloc ?_ _)); refine blk_far ?_ bM.out _; (with_reducible repeat (first | refine blk_drewN ?_ _ | refine blk_drew ?_ | refine blk_alloc ?_ _)); refine blk_put (cs := #[.int .i64 3, .int .i64 0, .int .i64 0, .string ⟨#[]⟩, .int .i64 0, .int .i64 0, .string ⟨#[]⟩, .int .i64 0, .int .i64 0, .string ⟨#[]⟩, .int .i64 0, .string ⟨#[]⟩, .int .i64 0, .int .i64 0, .int .i64 0, .int .i64 (wrap64 ((bt a0 1) / 8)), .int .i64 (wrap64 (bt a0 3)), .int .i64 bE, .int .i64 0, .string dV, .string ⟨#[]⟩, .slice none 0 0, .int .i64 0, .string ⟨#[]⟩, .slice gl aM.length gn]) ?_ 12 _ rfl; (with_reducible repeat (first | refine blk_drewN ?_ _ | refine blk_drew ?_ | refine blk_alloc ?_ _)); exact bg.out) hb); replace eJ := Aside0.mk (blk_below (g := ej) (o := .cells #[.string gQ, .int .i64 hM, .int .i64 ex, .bool hF] 60 (0, 0)) Z36 hb); replace HB := Aside0.mk (below_step Z33 hb); clear hb; (try clear hk); have rk := cells_25 bg.out; have oA := cells_4 eJ.out) | ((with_reducible refine gate_callee (f := 62) rfl ?_); refine goesL_ (some 79) rfl rfl Try.func62 Z14 rfl #[.agg #[.string fA, .int .i64 eS, .int .i64 gi, .bool gj], .int .i64 4] rfl Z4 ?_; (with_reducible refine (cursor_Num.calls fA eS gi gj 4 gR gB gC gD gE _ nK.out).mono ?_); rintro e w75 ⟨rfl, hb⟩; refine ⟨_, rfl, ?_⟩; replace bw := Aside0.mk (Kd.R_below (by (with_reducible repeat (first | apply Kd.R_alloc | apply Kd.R_drewN | apply Kd.R_drew)); exact (Kd.R_mono (Kd.R_mono (Kd.R_far (p := ⟨ej, 3, none⟩) (Kd.R_far (p := ⟨ej, 2, none⟩) (Kd.R_far (p := ⟨ej, 1, none⟩) (Kd.R_far (p := ⟨ej, 0, none⟩) (Kd.R_far (p := ⟨br, 20, none⟩) (Kd.R_types (Kd.R_types bw.out bg.out Z27) eJ.out Z27) (fun _ hk => hk.1.2) (.string dN)) (fun _ hk => hk.2) (.string fA)) (fun _ hk => hk.2) (.int .i64 eS)) (fun _ hk => hk.2) (.int .i64 gi)) (fun _ hk => hk.2) (.bool gj)) (fun _ h_ => h_.1)) (fun _ h_ => h_.1))) hb); replace aa := Aside0.mk (blk_below (g := ab) (o := .cells #[.int .i64 0, .int .i64 0, .int .i64 0, .string ⟨#[]⟩, .int .i64 0, .int .i64 0, .string ⟨#[]⟩, .int .i64 0, .int .i64 0, .string ⟨#[]⟩, .int .i64 0, .string ⟨#[]⟩, .int .i64 0, .int .i64 0, .int .i64 0, .int .i64 0, .int .i64 0, .int .i64 0, .int .i64 0, .string ⟨#[]⟩, .string ⟨#[]⟩, .slice none 0 0, .int .i64 0, .string ⟨#[]⟩, .slice none 0 0] 25 (0, 0)) Z23 hb); replace bg := Aside0.mk (blk_below (g := br) (o := .cells #[.int .i64 3, .int .i64 0, .int .i64 0, .string ⟨#[]⟩, .int .i64 0, .int .i64 0, .string ⟨#[]⟩, .int .i64 0, .int .i64 0, .string ⟨#[]⟩, .int .i64 0, .string ⟨#[]⟩, .int .i64 es, .int .i64 0, .int .i64 0, .int .i64 (wrap64 ((bt a0 1) / 8)), .int .i64 (wrap64 (bt a0 3)), .int .i64 bE, .int .i64 0, .string dV, .string dN, .slice none 0 0, .int .i64 0, .string ⟨#[]⟩, .slice gl aM.length gn] 25 (0, 0)) (by (with_reducible repeat (first | refine blk_drewN ?_ _ | refine blk_drew ?_ | refine blk_alloc ?_ _)); refine blk_far ?_ bM.out _; (with_reducible repeat (first | refine blk_drewN ?_ _ | refine blk_drew ?_ | refine blk_alloc ?_ _)); refine blk_far ?_ bM.out _; (with_reducible repeat (first | refine blk_drewN ?_ _ | refine blk_drew ?_ | refine blk_alloc ?_ _)); refine blk_far ?_ bM.out _; (with_reducible repeat (first | refine blk_drewN ?_ _ | refine blk_drew ?_ | refine blk_alloc ?_ _)); refine blk_far ?_ bM.out _; (with_reducible repeat (first | refine blk_drewN ?_ _ | refine blk_drew ?_ | refine blk_alloc ?_ _)); refine blk_put (cs := #[.int .i64 3, .int .i64 0, .int .i64 0, .string ⟨#[]⟩, .int .i64 0, .int .i64 0, .string ⟨#[]⟩, .int .i64 0, .int .i64 0, .string ⟨#[]⟩, .int .i64 0, .string ⟨#[]⟩, .int .i64 es, .int .i64 0, .int .i64 0, .int .i64 (wrap64 ((bt a0 1) / 8)), .int .i64 (wrap64 (bt a0 3)), .int .i64 bE, .int .i64 0, .string dV, .string ⟨#[]⟩, .slice none 0 0, .int .i64 0, .string ⟨#[]⟩, .slice gl aM.length gn]) ?_ 20 _ rfl; (with_reducible repeat (first | refine blk_drewN ?_ _ | refine blk_drew ?_ | refine blk_alloc ?_ _)); exact bg.out) hb); replace eJ := Aside0.mk (blk_below (g := ej) (o := .cells #[.string fA, .int .i64 eS, .int .i64 gi, .bool gj] 60 (0, 0)) Z36 hb); replace HB := Aside0.mk (below_step Z33 hb); clear hb; (try clear hk); have hcz76 := cells_25 bg.out; have qX := cells_25 aa.out) | ((with_reducible refine Pre.gate_store 25 rfl ?_); refine Pre.store_abs (cur := #[.int .i64 0, .int .i64 0, .int .i64 0, .string ⟨#[]⟩, .int .i64 0, .int .i64 0, .string ⟨#[]⟩, .int .i64 0, .int .i64 0, .string ⟨#[]⟩, .int .i64 0, .string ⟨#[]⟩, .int .i64 0, .int .i64 0, .int .i64 0, .int .i64 0, .int .i64 0, .int .i64 0, .int .i64 0, .string ⟨#[]⟩, .string ⟨#[]⟩, .slice none 0 0, .int .i64 0, .string ⟨#[]⟩, .slice none 0 0]) (e := 25) rfl rfl rfl Z22 Z22 (by (with_reducible repeat (first | refine blk_drewN ?_ _ | refine blk_drew ?_ | refine blk_alloc ?_ _)); refine blk_far ?_ eK.out _; (with_reducible repeat (first | refine blk_drewN ?_ _ | refine blk_drew ?_ | refine blk_alloc ?_ _)); exact aa.out) Z14 Z22 Z22 ?_; intro rl hbS_ sS_; have bl : Aside0 (Kd.R k48 48 rl w.heap.size (fun _ => True) (.slice gl aM.length gn) aM) := ⟨Kd.R_mono (Pre.R_sets sS_ (Kd.R_far (p := ⟨br, 13, none⟩) (Kd.R_types (Kd.R_types bw.out bg.out Z27) aa.out Z27) (fun _ hk => hk.1.2) (.int .i64 gR)) (fun _ hk => hk.2)) (fun _ hk => trivial)⟩; have bm : Aside0 (rl.heap[ab]? = some (.cells #[.int .i64 3, .int .i64 0, .int .i64 0, .string ⟨#[]⟩, .int .i64 0, .int .i64 0, .string ⟨#[]⟩, .int .i64 0, .int .i64 0, .string ⟨#[]⟩, .int .i64 0, .string ⟨#[]⟩, .int .i64 es, .int .i64 gR, .int .i64 0, .int .i64 (wrap64 ((bt a0 1) / 8)), .int .i64 (wrap64 (bt a0 3)), .int .i64 bE, .int .i64 0, .string dV, .string dN, .slice none 0 0, .int .i64 0, .string ⟨#[]⟩, .slice gl aM.length gn] 25 (0, 0))) := ⟨hbS_⟩; have bI : Aside0 (rl.heap[br]? = some (.cells #[.int .i64 3, .int .i64 0, .int .i64 0, .string ⟨#[]⟩, .int .i64 0, .int .i64 0, .string ⟨#[]⟩, .int .i64 0, .int .i64 0, .string ⟨#[]⟩, .int .i64 0, .string ⟨#[]⟩, .int .i64 es, .int .i64 gR, .int .i64 0, .int .i64 (wrap64 ((bt a0 1) / 8)), .int .i64 (wrap64 (bt a0 3)), .int .i64 bE, .int .i64 0, .string dV, .string dN, .slice none 0 0, .int .i64 0, .string ⟨#[]⟩, .slice gl aM.length gn] 25 (0, 0))) := ⟨sS_.blk (by (with_reducible repeat (first | refine blk_drewN ?_ _ | refine blk_drew ?_ | refine blk_alloc ?_ _)); refine blk_put (cs := #[.int .i64 3, .int .i64 0, .int .i64 0, .string ⟨#[]⟩, .int .i64 0, .int .i64 0, .string ⟨#[]⟩, .int .i64 0, .int .i64 0, .string ⟨#[]⟩, .int .i64 0, .string ⟨#[]⟩, .int .i64 es, .int .i64 0, .int .i64 0, .int .i64 (wrap64 ((bt a0 1) / 8)), .int .i64 (wrap64 (bt a0 3)), .int .i64 bE, .int .i64 0, .string dV, .string dN, .slice none 0 0, .int .i64 0, .string ⟨#[]⟩, .slice gl aM.length gn]) ?_ 13 _ rfl; (with_reducible repeat (first | refine blk_drewN ?_ _ | refine blk_drew ?_ | refine blk_alloc ?_ _)); exact bg.out) gv.out⟩; have dU : Aside0 (rl.heap[ej]? = some (.cells #[.string fA, .int .i64 eS, .int .i64 gi, .bool gj] 60 (0, 0))) := ⟨sS_.blk (by (with_reducible repeat (first | refine blk_drewN ?_ _ | refine blk_drew ?_ | refine blk_alloc ?_ _)); refine blk_far ?_ iu.out _; (with_reducible repeat (first | refine blk_drewN ?_ _ | refine blk_drew ?_ | refine blk_alloc ?_ _)); exact eJ.out) jF.out⟩; have hL : Aside0 (Below w.heap.size w rl) := ⟨sS_.below Z33 bf.out⟩; clear hbS_ sS_; replace bw := bl; replace aa := bm; replace bg := bI; replace eJ := dU; replace HB := hL; clear bl bm bI dU hL))
        refine bodyPost_ret (results_ctt rfl _ _ ab 25 #[.int .i64 3, .int .i64 0, .int .i64 0, .string ⟨#[]⟩, .int .i64 0, .int .i64 0, .string ⟨#[]⟩, .int .i64 0, .int .i64 0, .string ⟨#[]⟩, .int .i64 0, .string ⟨#[]⟩, .int .i64 es, .int .i64 gR, .int .i64 0, .int .i64 (wrap64 ((bt a0 1) / 8)), .int .i64 (wrap64 (bt a0 3)), .int .i64 bE, .int .i64 0, .string dV, .string dN, .slice none 0 0, .int .i64 0, .string ⟨#[]⟩, .slice gl aM.length gn] (0, 0) _ rfl Z2 Try.underlying25 rfl Z14) rfl ?_
        exact ⟨_, _, Z5, Z7, Z47, Z33⟩
       ·rw [if_neg eV] at H
        exact absurd H Z59
      ·rw [if_neg ew] at H
       have fd : (aV == 0) = false := beq_eq_false_iff_ne.mpr ew
       have gT : (aV != 0) = true := bne_iff_ne.mpr ew
       simp only [Option.some.injEq, Prod.mk.injEq] at H
       obtain ⟨rfl, rfl, rfl, rfl, rfl, rfl, rfl, rfl, rfl, rfl, rfl, rfl, rfl, rfl, rfl, rfl, rfl, rfl, rfl, rfl, rfl, rfl, rfl, rfl, rfl, rfl, rfl⟩ := H
       go_enter Try.func22, Try.ntmps22
       try go_wp2_with (first | ((with_reducible refine gate_dst (N := 46) rfl ?_); refine Pre.build_event 46 25 [(0, Go.Operand.const (Go.Value.int Go.IntKind.i64 3)), (15, Go.Operand.tmp 41), (16, Go.Operand.tmp 44), (24, Go.Operand.tmp 45)] rfl rfl rfl (rreq_Get.bd46 _ _ _ _ _ _) ?_) | ((with_reducible refine Pre.gate_load 25 rfl ?_); (try (refine gate_guard Z22 ?_; dsimp only)); refine Pre.load_event rfl rfl rfl Z22 Z18 Try.underlying25 rfl Z14 ?_) | ((with_reducible refine gate_dst (N := 2) rfl ?_); refine Sq.box 2 #[.int .i64 0, .int .i64 0, .int .i64 0, .string ⟨#[]⟩, .int .i64 0, .int .i64 0, .string ⟨#[]⟩, .int .i64 0, .int .i64 0, .string ⟨#[]⟩, .int .i64 0, .string ⟨#[]⟩, .int .i64 0, .int .i64 0, .int .i64 0, .int .i64 0, .int .i64 0, .int .i64 0, .int .i64 0, .string ⟨#[]⟩, .string ⟨#[]⟩, .slice none 0 0, .int .i64 0, .string ⟨#[]⟩, .slice none 0 0] 25 ?_; intro ab hg ub hbox hb; have aa := Aside0.mk (hbox); have bR := Aside0.mk (Sq.ge hg Z1); have bf := Aside0.mk (Sq.ge hg Z1); replace HB := Aside0.mk (below_step Z1 hb); clear hb hbox hg))
       have bl := Aside0.mk (blk_drew aa.out)
       have bm := Aside0.mk (below_drew1 HB.out)
       clear aa
       clear HB
       have aa := bl
       have HB := bm
       clear bl bm
       have p7 : 0 ≤ (1 : Int) := Z34
       have q7 : 1 < a0.size := (by have : (1 : Int) < (a0.size : Int) := of_decide_eq_true Z6; omega)
       have hx7 : ∀ h : 1 < a0.size, ((a0[1]'h).toNat : Int) = bt a0 1 := bt_at a0 1
       clear p7
       have qi7 : (1 < (a0.size : Int)) = True := eq_true (of_decide_eq_true Z6)
       replace q7 := eq_true q7
       have p9 : 0 ≤ (2 : Int) := Z34
       have q9 : 2 < a0.size := (by have : (2 : Int) < (a0.size : Int) := of_decide_eq_true Z6; omega)
       have hx9 : ∀ h : 2 < a0.size, ((a0[2]'h).toNat : Int) = bt a0 2 := bt_at a0 2
       clear p9
       have qi9 : (2 < (a0.size : Int)) = True := eq_true (of_decide_eq_true Z6)
       replace q9 := eq_true q9
       refine start_ (n := 7) (S := fun w' => True) (ds := []) (Sq.b 7 0) Z14 rfl rfl trivial (fun hHeld => ?_)
       generalize ub.drew = ud at aa HB hHeld ⊢
       refine pure_ (i := 0) (N := some 17) (v := ?_) (a' := ?_) (Sq.b 7 1) rfl rfl Z14 (fun _ _ _ h => h) (Or.inl ⟨Z22, ?_⟩) ?_ ?_
       rotate_left
       ·intro w'
        go_simp
        with_reducible rfl
       rotate_left
       ·simp only [Act.put, Sq.s1, Sq.s2, Sq.s3, i64_w, i32_w]
        rfl
       refine pure_ (i := 3) (N := some 20) (v := ?_) (a' := ?_) (Sq.b 7 9) rfl rfl Z14 (fun _ _ _ h => h) (Or.inl ⟨Z22, ?_⟩) ?_ ?_
       rotate_left
       ·intro w'
        go_simp
        with_reducible rfl
       rotate_left
       ·simp only [Act.put, Sq.s1, Sq.s2, Sq.s3, i64_w, i32_w]
        rfl
       refine take_ (i := 1) (N := some 18) (v := ?_) (a' := ?_) (Sq.b 7 11) rfl rfl Z14 (fun _ _ _ h => h) (Or.inl ⟨Z22, ?_⟩) hHeld ?_ ?_
       rotate_left
       ·intro w' _
        go_simp
        with_reducible rfl
       rotate_left
       ·simp only [Act.put, Sq.s1, Sq.s2, Sq.s3, i64_w, i32_w]
        rfl
       refine pure_ (i := 2) (N := some 19) (v := ?_) (a' := ?_) (Sq.b 7 15) rfl rfl Z14 (fun _ _ _ h => h) (Or.inl ⟨Z22, ?_⟩) ?_ ?_
       rotate_left
       ·intro w'
        go_simp
        with_reducible rfl
       rotate_left
       ·simp only [Act.put, Sq.s1, Sq.s2, Sq.s3, i64_w, i32_w]
        rfl
       refine take_ (i := 4) (N := some 21) (v := ?_) (a' := ?_) (Sq.b 7 31) rfl rfl Z14 (fun _ _ _ h => h) (Or.inl ⟨Z22, ?_⟩) hHeld ?_ ?_
       rotate_left
       ·intro w' _
        go_simp
        with_reducible rfl
       rotate_left
       ·simp only [Act.put, Sq.s1, Sq.s2, Sq.s3, i64_w, i32_w]
        rfl
       refine pure_ (i := 5) (N := some 22) (v := ?_) (a' := ?_) (Sq.b 7 63) rfl rfl Z14 (fun _ _ _ h => h) (Or.inl ⟨Z22, ?_⟩) ?_ ?_
       rotate_left
       ·intro w'
        go_simp
        with_reducible rfl
       rotate_left
       ·simp only [Act.put, Sq.s1, Sq.s2, Sq.s3, i64_w, i32_w]
        rfl
       refine pure_ (i := 6) (N := some 23) (v := ?_) (a' := ?_) (Sq.b 7 127) rfl rfl Z14 (fun _ _ _ h => h) (Or.inl ⟨Z22, ?_⟩) ?_ ?_
       rotate_left
       ·intro w'
        go_simp
        with_reducible rfl
       rotate_left
       ·simp only [Act.put, Sq.s1, Sq.s2, Sq.s3, i64_w, i32_w]
        rfl
       refine done_ Z14 ?_
       try go_wp2_with (first | ((with_reducible refine gate_dst (N := 46) rfl ?_); refine Pre.build_event 46 25 [(0, Go.Operand.const (Go.Value.int Go.IntKind.i64 3)), (15, Go.Operand.tmp 41), (16, Go.Operand.tmp 44), (24, Go.Operand.tmp 45)] rfl rfl rfl (rreq_Get.bd46 _ _ _ _ _ _) ?_) | ((with_reducible refine Pre.gate_load 25 rfl ?_); (try (refine gate_guard Z22 ?_; dsimp only)); refine Pre.load_event rfl rfl rfl Z22 Z18 Try.underlying25 rfl Z14 ?_) | ((with_reducible refine gate_callee (f := 59) rfl ?_); refine goesL_ (some 28) rfl rfl Try.func59 Z14 rfl #[.string (a0.extract 24 a0.size)] rfl Z4 ?_; (with_reducible refine (ext_Get.calls k (a0.extract 24 a0.size) aM aX aV _ sF.out).mono ?_); rintro e ue ⟨il, rfl, ho0, hb⟩; refine ⟨_, rfl, ?_⟩; have bw := Aside0.mk (Kd.R_lower ho0 (below_size Z0)); replace aa := Aside0.mk (blk_below (g := ab) Z2 hb); replace HB := Aside0.mk (below_step Z0 hb); clear hb ho0; have hcz82 := cells_25 aa.out) | ((with_reducible refine Pre.gate_store 25 rfl ?_); refine Pre.store_abs (cur := #[.int .i64 0, .int .i64 0, .int .i64 0, .string ⟨#[]⟩, .int .i64 0, .int .i64 0, .string ⟨#[]⟩, .int .i64 0, .int .i64 0, .string ⟨#[]⟩, .int .i64 0, .string ⟨#[]⟩, .int .i64 0, .int .i64 0, .int .i64 0, .int .i64 0, .int .i64 0, .int .i64 0, .int .i64 0, .string ⟨#[]⟩, .string ⟨#[]⟩, .slice none 0 0, .int .i64 0, .string ⟨#[]⟩, .slice none 0 0]) (e := 25) rfl rfl rfl Z22 Z22 Z2 Z14 Z22 Z22 ?_; intro tb hbS_ sS_; have bl : Aside0 (Kd.R k48 48 tb w.heap.size (fun _ => True) il aM) := ⟨Kd.R_mono (Pre.R_sets sS_ (Kd.R_types bw.out aa.out Z27) (fun _ hk => hk.2)) (fun _ hk => trivial)⟩; have bm : Aside0 (tb.heap[ab]? = some (.cells #[.int .i64 0, .int .i64 0, .int .i64 0, .string ⟨#[]⟩, .int .i64 0, .int .i64 0, .string ⟨#[]⟩, .int .i64 0, .int .i64 0, .string ⟨#[]⟩, .int .i64 0, .string ⟨#[]⟩, .int .i64 0, .int .i64 0, .int .i64 0, .int .i64 0, .int .i64 0, .int .i64 0, .int .i64 0, .string ⟨#[]⟩, .string ⟨#[]⟩, .slice none 0 0, .int .i64 0, .string ⟨#[]⟩, .slice none 0 0] 25 (0, 0))) := ⟨hbS_⟩; have bI : Aside0 (Below w.heap.size w tb) := ⟨sS_.below Z0 bf.out⟩; clear hbS_ sS_; replace bw := bl; replace aa := bm; replace HB := bI; clear bl bm bI))
       refine bodyPost_ret (results_ctt rfl _ _ ab 25 #[.int .i64 0, .int .i64 0, .int .i64 0, .string ⟨#[]⟩, .int .i64 0, .int .i64 0, .string ⟨#[]⟩, .int .i64 0, .int .i64 0, .string ⟨#[]⟩, .int .i64 0, .string ⟨#[]⟩, .int .i64 0, .int .i64 0, .int .i64 0, .int .i64 0, .int .i64 0, .int .i64 0, .int .i64 0, .string ⟨#[]⟩, .string ⟨#[]⟩, .slice none 0 0, .int .i64 0, .string ⟨#[]⟩, .slice none 0 0] (0, 0) _ rfl Z2 Try.underlying25 rfl Z14) rfl ?_
       exact ⟨_, _, Z5, Z7, Z20, Z0⟩
     ·rw [if_neg dK] at H
      exact absurd H Z59
    ·rw [if_neg en] at H
     have eP : ((Go.bits .or .u8 (Go.bits .and .u8 (bt a0 1) 7) (bt a0 2)) == 0) = false := beq_eq_false_iff_ne.mpr en
     have fv : ((Go.bits .or .u8 (Go.bits .and .u8 (bt a0 1) 7) (bt a0 2)) != 0) = true := bne_iff_ne.mpr en
     simp only [Option.some.injEq, Prod.mk.injEq] at H
     obtain ⟨rfl, rfl, rfl, rfl, rfl, rfl, rfl, rfl, rfl, rfl, rfl, rfl, rfl, rfl, rfl, rfl, rfl, rfl, rfl, rfl, rfl, rfl, rfl, rfl, rfl, rfl, rfl⟩ := H
     go_enter Try.func22, Try.ntmps22
     try go_wp2_with (first | ((with_reducible refine gate_dst (N := 46) rfl ?_); refine Pre.build_event 46 25 [(0, Go.Operand.const (Go.Value.int Go.IntKind.i64 3)), (15, Go.Operand.tmp 41), (16, Go.Operand.tmp 44), (24, Go.Operand.tmp 45)] rfl rfl rfl (rreq_Get.bd46 _ _ _ _ _ _) ?_) | ((with_reducible refine Pre.gate_load 25 rfl ?_); (try (refine gate_guard Z22 ?_; dsimp only)); refine Pre.load_event rfl rfl rfl Z22 Z18 Try.underlying25 rfl Z14 ?_) | ((with_reducible refine gate_dst (N := 2) rfl ?_); refine Sq.box 2 #[.int .i64 0, .int .i64 0, .int .i64 0, .string ⟨#[]⟩, .int .i64 0, .int .i64 0, .string ⟨#[]⟩, .int .i64 0, .int .i64 0, .string ⟨#[]⟩, .int .i64 0, .string ⟨#[]⟩, .int .i64 0, .int .i64 0, .int .i64 0, .int .i64 0, .int .i64 0, .int .i64 0, .int .i64 0, .string ⟨#[]⟩, .string ⟨#[]⟩, .slice none 0 0, .int .i64 0, .string ⟨#[]⟩, .slice none 0 0] 25 ?_; intro ab hg qg hbox hb; have aa := Aside0.mk (hbox); have bR := Aside0.mk (Sq.ge hg Z1); have bf := Aside0.mk (Sq.ge hg Z1); replace HB := Aside0.mk (below_step Z1 hb); clear hb hbox hg))
     have bl := Aside0.mk (blk_drew aa.out)
     have bm := Aside0.mk (below_drew1 HB.out)
     clear aa
     clear HB
     have aa := bl
     have HB := bm
     clear bl bm
     have p7 : 0 ≤ (1 : Int) := Z34
     have q7 : 1 < a0.size := (by have : (1 : Int) < (a0.size : Int) := of_decide_eq_true Z6; omega)
     have hx7 : ∀ h : 1 < a0.size, ((a0[1]'h).toNat : Int) = bt a0 1 := bt_at a0 1
     clear p7
     have qi7 : (1 < (a0.size : Int)) = True := eq_true (of_decide_eq_true Z6)
     replace q7 := eq_true q7
     have p9 : 0 ≤ (2 : Int) := Z34
     have q9 : 2 < a0.size := (by have : (2 : Int) < (a0.size : Int) := of_decide_eq_true Z6; omega)
     have hx9 : ∀ h : 2 < a0.size, ((a0[2]'h).toNat : Int) = bt a0 2 := bt_at a0 2
     clear p9
     have qi9 : (2 < (a0.size : Int)) = True := eq_true (of_decide_eq_true Z6)
     replace q9 := eq_true q9
     refine start_ (n := 7) (S := fun w' => True) (ds := []) (Sq.b 7 0) Z14 rfl rfl trivial (fun hHeld => ?_)
     generalize qg.drew = pm at aa HB hHeld ⊢
     refine pure_ (i := 0) (N := some 17) (v := ?_) (a' := ?_) (Sq.b 7 1) rfl rfl Z14 (fun _ _ _ h => h) (Or.inl ⟨Z22, ?_⟩) ?_ ?_
     rotate_left
     ·intro w'
      go_simp
      with_reducible rfl
     rotate_left
     ·simp only [Act.put, Sq.s1, Sq.s2, Sq.s3, i64_w, i32_w]
      rfl
     refine pure_ (i := 3) (N := some 20) (v := ?_) (a' := ?_) (Sq.b 7 9) rfl rfl Z14 (fun _ _ _ h => h) (Or.inl ⟨Z22, ?_⟩) ?_ ?_
     rotate_left
     ·intro w'
      go_simp
      with_reducible rfl
     rotate_left
     ·simp only [Act.put, Sq.s1, Sq.s2, Sq.s3, i64_w, i32_w]
      rfl
     refine take_ (i := 1) (N := some 18) (v := ?_) (a' := ?_) (Sq.b 7 11) rfl rfl Z14 (fun _ _ _ h => h) (Or.inl ⟨Z22, ?_⟩) hHeld ?_ ?_
     rotate_left
     ·intro w' _
      go_simp
      with_reducible rfl
     rotate_left
     ·simp only [Act.put, Sq.s1, Sq.s2, Sq.s3, i64_w, i32_w]
      rfl
     refine pure_ (i := 2) (N := some 19) (v := ?_) (a' := ?_) (Sq.b 7 15) rfl rfl Z14 (fun _ _ _ h => h) (Or.inl ⟨Z22, ?_⟩) ?_ ?_
     rotate_left
     ·intro w'
      go_simp
      with_reducible rfl
     rotate_left
     ·simp only [Act.put, Sq.s1, Sq.s2, Sq.s3, i64_w, i32_w]
      rfl
     refine take_ (i := 4) (N := some 21) (v := ?_) (a' := ?_) (Sq.b 7 31) rfl rfl Z14 (fun _ _ _ h => h) (Or.inl ⟨Z22, ?_⟩) hHeld ?_ ?_
     rotate_left
     ·intro w' _
      go_simp
      with_reducible rfl
     rotate_left
     ·simp only [Act.put, Sq.s1, Sq.s2, Sq.s3, i64_w, i32_w]
      rfl
     refine pure_ (i := 5) (N := some 22) (v := ?_) (a' := ?_) (Sq.b 7 63) rfl rfl Z14 (fun _ _ _ h => h) (Or.inl ⟨Z22, ?_⟩) ?_ ?_
     rotate_left
     ·intro w'
      go_simp
      with_reducible rfl
     rotate_left
     ·simp only [Act.put, Sq.s1, Sq.s2, Sq.s3, i64_w, i32_w]
      rfl
     refine pure_ (i := 6) (N := some 23) (v := ?_) (a' := ?_) (Sq.b 7 127) rfl rfl Z14 (fun _ _ _ h => h) (Or.inl ⟨Z22, ?_⟩) ?_ ?_
     rotate_left
     ·intro w'
      go_simp
      with_reducible rfl
     rotate_left
     ·simp only [Act.put, Sq.s1, Sq.s2, Sq.s3, i64_w, i32_w]
      rfl
     refine done_ Z14 ?_
     have rm := cells_25 aa.out
     try go_wp2_with (first | ((with_reducible refine gate_dst (N := 46) rfl ?_); refine Pre.build_event 46 25 [(0, Go.Operand.const (Go.Value.int Go.IntKind.i64 3)), (15, Go.Operand.tmp 41), (16, Go.Operand.tmp 44), (24, Go.Operand.tmp 45)] rfl rfl rfl (rreq_Get.bd46 _ _ _ _ _ _) ?_) | ((with_reducible refine Pre.gate_load 25 rfl ?_); (try (refine gate_guard Z22 ?_; dsimp only)); refine Pre.load_event rfl rfl rfl Z22 Z18 Try.underlying25 rfl Z14 ?_) | ((with_reducible refine Pre.gate_store 25 rfl ?_); refine Pre.store_abs (cur := #[.int .i64 0, .int .i64 0, .int .i64 0, .string ⟨#[]⟩, .int .i64 0, .int .i64 0, .string ⟨#[]⟩, .int .i64 0, .int .i64 0, .string ⟨#[]⟩, .int .i64 0, .string ⟨#[]⟩, .int .i64 0, .int .i64 0, .int .i64 0, .int .i64 0, .int .i64 0, .int .i64 0, .int .i64 0, .string ⟨#[]⟩, .string ⟨#[]⟩, .slice none 0 0, .int .i64 0, .string ⟨#[]⟩, .slice none 0 0]) (e := 25) rfl rfl rfl Z22 Z22 Z2 Z14 Z22 Z22 ?_; intro pn hbS_ sS_; have bl : Aside0 (pn.heap[ab]? = some (.cells #[.int .i64 0, .int .i64 0, .int .i64 0, .string ⟨#[]⟩, .int .i64 0, .int .i64 0, .string ⟨#[]⟩, .int .i64 0, .int .i64 0, .string ⟨#[]⟩, .int .i64 0, .string ⟨#[]⟩, .int .i64 0, .int .i64 0, .int .i64 0, .int .i64 0, .int .i64 0, .int .i64 0, .int .i64 0, .string ⟨#[]⟩, .string ⟨#[]⟩, .slice none 0 0, .int .i64 0, .string ⟨#[]⟩, .slice none 0 0] 25 (0, 0))) := ⟨hbS_⟩; have bm : Aside0 (Below w.heap.size w pn) := ⟨sS_.below Z0 bf.out⟩; clear hbS_ sS_; replace aa := bl; replace HB := bm; clear bl bm))
     refine bodyPost_ret (results_ctt rfl _ _ ab 25 #[.int .i64 0, .int .i64 0, .int .i64 0, .string ⟨#[]⟩, .int .i64 0, .int .i64 0, .string ⟨#[]⟩, .int .i64 0, .int .i64 0, .string ⟨#[]⟩, .int .i64 0, .string ⟨#[]⟩, .int .i64 0, .int .i64 0, .int .i64 0, .int .i64 0, .int .i64 0, .int .i64 0, .int .i64 0, .string ⟨#[]⟩, .string ⟨#[]⟩, .slice none 0 0, .int .i64 0, .string ⟨#[]⟩, .slice none 0 0] (0, 0) _ rfl Z2 Try.underlying25 rfl Z14) rfl ?_
     exact ⟨_, _, Z5, Z7, Z20, Z0⟩
   ·rw [if_neg c8] at H
    exact absurd H Z59
  ·rw [if_neg c6] at H
   exact absurd H Z59

end Go.Proofs.Ytccjakjjaemmkaa.PAP
