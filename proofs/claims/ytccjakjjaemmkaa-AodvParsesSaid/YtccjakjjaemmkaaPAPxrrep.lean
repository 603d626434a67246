-- Written by mp.py, a program of this work (wip/tools), out of the translation; Lean checks it.
import Derived.Test.YtccjakjjaemmkaaPAPxZ
import Derived.Test.YtccjakjjaemmkaaPAPxext
import Derived.Test.YtccjakjjaemmkaaPAPxmsgBare
namespace Go.Proofs.Ytccjakjjaemmkaa.PAP
open Go.RowKit Go.Proofs.YtccjakjjaemmkaaW.PrintWords Go.Proofs.YtccjakjjaemmkaaW.PrintLast Go.Proofs.YtccjakjjaemmkaaW.PrintMore
attribute [local go_sem] max2_int min2_int max_two min_two max_three min_three max_four min_four   -- for this text's walks alone
set_option linter.unusedVariables false
set_option linter.unusedSimpArgs false

/-! ### rrep_ack: function 68 -/
def rrep_ack.f (k : Nat) (a0 : ByteArray) : Option (Int × Int × Int × ByteArray × Int × Int × ByteArray × Int × Int × ByteArray × Int × ByteArray × Int × Int × Int × Int × Int × Int × Int × ByteArray × ByteArray × (List (S46)) × Int × ByteArray × (List (S48)) × Int × Int) := if (a0.size : Int) < 2 then (some (0, 0, 0, (⟨#[]⟩ : ByteArray), 0, 0, (⟨#[]⟩ : ByteArray), 0, 0, (⟨#[]⟩ : ByteArray), 0, (⟨#[]⟩ : ByteArray), 0, 0, 0, 0, 0, 0, 0, (⟨#[]⟩ : ByteArray), (⟨#[]⟩ : ByteArray), ([] : List (S46)), 0, (⟨#[]⟩ : ByteArray), ([] : List (S48)), (a0.size : Int), 2)) else (if 1 < (a0.size : Int) then (if (bt a0 1) = 0 then (if 2 ≤ (a0.size : Int) then ((ext_Get.f k (a0.extract 2 a0.size)).bind fun aE => (if aE.2.2 = 0 then (some (6, 0, 0, (⟨#[]⟩ : ByteArray), 0, 0, (⟨#[]⟩ : ByteArray), 0, 0, (⟨#[]⟩ : ByteArray), 0, (⟨#[]⟩ : ByteArray), 0, 0, 0, 0, 0, 0, 0, (⟨#[]⟩ : ByteArray), (⟨#[]⟩ : ByteArray), ([] : List (S46)), 0, (⟨#[]⟩ : ByteArray), aE.1, 0, 0)) else (some (0, 0, 0, (⟨#[]⟩ : ByteArray), 0, 0, (⟨#[]⟩ : ByteArray), 0, 0, (⟨#[]⟩ : ByteArray), 0, (⟨#[]⟩ : ByteArray), 0, 0, 0, 0, 0, 0, 0, (⟨#[]⟩ : ByteArray), (⟨#[]⟩ : ByteArray), ([] : List (S46)), 0, (⟨#[]⟩ : ByteArray), ([] : List (S48)), wrap64 (aE.2.1 + 2), aE.2.2)))) else (none)) else (some (0, 0, 0, (⟨#[]⟩ : ByteArray), 0, 0, (⟨#[]⟩ : ByteArray), 0, 0, (⟨#[]⟩ : ByteArray), 0, (⟨#[]⟩ : ByteArray), 0, 0, 0, 0, 0, 0, 0, (⟨#[]⟩ : ByteArray), (⟨#[]⟩ : ByteArray), ([] : List (S46)), 0, (⟨#[]⟩ : ByteArray), ([] : List (S48)), 1, 5))) else (none))
theorem rrep_ack.mono : ∀ a0 k, LeO (rrep_ack.f k a0) (rrep_ack.f (k + 1) a0) := by
 intro a0 k
 unfold rrep_ack.f
 repeat' first
   | (with_reducible exact ext_Get.mono _ _)
   | (with_reducible exact LeO.refl _)
   | (with_reducible exact LeO.none _)
   | (with_reducible refine LeO.ite ?_ ?_)
   | (with_reducible refine LeO.bind ?_ (fun _ => ?_))
   | exact ext_Get.mono _ _
   | exact LeO.none _
   | refine LeO.ite ?_ ?_
   | refine LeO.bind ?_ (fun _ => ?_)
set_option maxRecDepth 100000 in
theorem rrep_ack.bd32 (v0 : Int) (eW : Option Addr) (n24 dP : Nat) : Try.prog.built 25 [(0, .int .i64 v0), (24, .slice eW n24 dP)] = some #[.int .i64 v0, .int .i64 0, .int .i64 0, .string ⟨#[]⟩, .int .i64 0, .int .i64 0, .string ⟨#[]⟩, .int .i64 0, .int .i64 0, .string ⟨#[]⟩, .int .i64 0, .string ⟨#[]⟩, .int .i64 0, .int .i64 0, .int .i64 0, .int .i64 0, .int .i64 0, .int .i64 0, .int .i64 0, .string ⟨#[]⟩, .string ⟨#[]⟩, .slice none 0 0, .int .i64 0, .string ⟨#[]⟩, .slice eW n24 dP] := by kernel_rfl
set_option maxHeartbeats 8000000 in
set_option maxRecDepth 100000 in
theorem rrep_ack.calls (k : Nat) (a0 : ByteArray) (r1 : Int) (r2 : Int) (r3 : Int) (r4 : ByteArray) (r5 : Int) (r6 : Int) (r7 : ByteArray) (r8 : Int) (r9 : Int) (r10 : ByteArray) (r11 : Int) (r12 : ByteArray) (r13 : Int) (r14 : Int) (r15 : Int) (r16 : Int) (r17 : Int) (r18 : Int) (r19 : Int) (r20 : ByteArray) (r21 : ByteArray) (r22 : List (S46)) (r23 : Int) (r24 : ByteArray) (r25 : List (S48)) (r26 : Int) (r27 : Int) (w : World) (h : rrep_ack.f k a0 = some (r1, r2, r3, r4, r5, r6, r7, r8, r9, r10, r11, r12, r13, r14, r15, r16, r17, r18, r19, r20, r21, r22, r23, r24, r25, r26, r27)) :
  Calls Try.prog 68 #[.string a0] w fun e w' => ∃ v21_ v24_ : Value, e = .returned (.tuple #[.agg #[.int .i64 r1, .int .i64 r2, .int .i64 r3, .string r4, .int .i64 r5, .int .i64 r6, .string r7, .int .i64 r8, .int .i64 r9, .string r10, .int .i64 r11, .string r12, .int .i64 r13, .int .i64 r14, .int .i64 r15, .int .i64 r16, .int .i64 r17, .int .i64 r18, .int .i64 r19, .string r20, .string r21, v21_, .int .i64 r23, .string r24, v24_], .int .i64 r26, .int .i64 r27]) ∧ Kd.R k46 46 w' w.heap.size (fun _ => True) v21_ r22 ∧ Kd.R k48 48 w' w.heap.size (fun _ => True) v24_ r25 ∧ Below w.heap.size w w' := by
 have fn := Try.underlying25
 have HB := Aside0.mk (Below.refl w.heap.size w)
 have H : (if (a0.size : Int) < 2 then (some (0, 0, 0, (⟨#[]⟩ : ByteArray), 0, 0, (⟨#[]⟩ : ByteArray), 0, 0, (⟨#[]⟩ : ByteArray), 0, (⟨#[]⟩ : ByteArray), 0, 0, 0, 0, 0, 0, 0, (⟨#[]⟩ : ByteArray), (⟨#[]⟩ : ByteArray), ([] : List (S46)), 0, (⟨#[]⟩ : ByteArray), ([] : List (S48)), (a0.size : Int), 2)) else (if 1 < (a0.size : Int) then (if (bt a0 1) = 0 then (if 2 ≤ (a0.size : Int) then ((ext_Get.f k (a0.extract 2 a0.size)).bind fun aE => (if aE.2.2 = 0 then (some (6, 0, 0, (⟨#[]⟩ : ByteArray), 0, 0, (⟨#[]⟩ : ByteArray), 0, 0, (⟨#[]⟩ : ByteArray), 0, (⟨#[]⟩ : ByteArray), 0, 0, 0, 0, 0, 0, 0, (⟨#[]⟩ : ByteArray), (⟨#[]⟩ : ByteArray), ([] : List (S46)), 0, (⟨#[]⟩ : ByteArray), aE.1, 0, 0)) else (some (0, 0, 0, (⟨#[]⟩ : ByteArray), 0, 0, (⟨#[]⟩ : ByteArray), 0, 0, (⟨#[]⟩ : ByteArray), 0, (⟨#[]⟩ : ByteArray), 0, 0, 0, 0, 0, 0, 0, (⟨#[]⟩ : ByteArray), (⟨#[]⟩ : ByteArray), ([] : List (S46)), 0, (⟨#[]⟩ : ByteArray), ([] : List (S48)), wrap64 (aE.2.1 + 2), aE.2.2)))) else (none)) else (some (0, 0, 0, (⟨#[]⟩ : ByteArray), 0, 0, (⟨#[]⟩ : ByteArray), 0, 0, (⟨#[]⟩ : ByteArray), 0, (⟨#[]⟩ : ByteArray), 0, 0, 0, 0, 0, 0, 0, (⟨#[]⟩ : ByteArray), (⟨#[]⟩ : ByteArray), ([] : List (S46)), 0, (⟨#[]⟩ : ByteArray), ([] : List (S48)), 1, 5))) else (none))) = some (r1, r2, r3, r4, r5, r6, r7, r8, r9, r10, r11, r12, r13, r14, r15, r16, r17, r18, r19, r20, r21, r22, r23, r24, r25, r26, r27) := h
 clear h
 by_cases c2 : (a0.size : Int) < 2
 ·rw [if_pos c2] at H
  have eE : decide ((a0.size : Int) < 2) = true := decide_eq_true c2
  have fo : decide (a0.size < 2) = true := decide_eq_true Z34
  clear c2
  simp only [Option.some.injEq, Prod.mk.injEq] at H
  obtain ⟨rfl, rfl, rfl, rfl, rfl, rfl, rfl, rfl, rfl, rfl, rfl, rfl, rfl, rfl, rfl, rfl, rfl, rfl, rfl, rfl, rfl, rfl, rfl, rfl, rfl, rfl, rfl⟩ := H
  go_enter Try.func68, Try.ntmps68
  go_wp2_with (first | ((with_reducible refine gate_dst (N := 32) rfl ?_); refine Pre.build_event 32 25 [(0, Go.Operand.const (Go.Value.int Go.IntKind.i64 6)), (24, Go.Operand.tmp 31)] rfl rfl rfl (rrep_ack.bd32 _ _ _ _) ?_) | ((with_reducible refine gate_dst (N := 2) rfl ?_); refine Sq.box 2 #[.int .i64 0, .int .i64 0, .int .i64 0, .string ⟨#[]⟩, .int .i64 0, .int .i64 0, .string ⟨#[]⟩, .int .i64 0, .int .i64 0, .string ⟨#[]⟩, .int .i64 0, .string ⟨#[]⟩, .int .i64 0, .int .i64 0, .int .i64 0, .int .i64 0, .int .i64 0, .int .i64 0, .int .i64 0, .string ⟨#[]⟩, .string ⟨#[]⟩, .slice none 0 0, .int .i64 0, .string ⟨#[]⟩, .slice none 0 0] 25 ?_; intro ab hg w3 hbox hb; have aa := Aside0.mk (hbox); have bR := Aside0.mk (Sq.ge hg Z1); have bf := Aside0.mk (Sq.ge hg Z1); replace HB := Aside0.mk (below_step Z1 hb); clear hb hbox hg; have jL := cells_25 aa.out) | ((with_reducible refine Pre.gate_store 25 rfl ?_); refine Pre.store_abs (cur := #[.int .i64 0, .int .i64 0, .int .i64 0, .string ⟨#[]⟩, .int .i64 0, .int .i64 0, .string ⟨#[]⟩, .int .i64 0, .int .i64 0, .string ⟨#[]⟩, .int .i64 0, .string ⟨#[]⟩, .int .i64 0, .int .i64 0, .int .i64 0, .int .i64 0, .int .i64 0, .int .i64 0, .int .i64 0, .string ⟨#[]⟩, .string ⟨#[]⟩, .slice none 0 0, .int .i64 0, .string ⟨#[]⟩, .slice none 0 0]) (e := 25) rfl rfl rfl Z22 Z22 Z2 Z14 Z22 Z22 ?_; intro w5 hbS_ sS_; have bl : Aside0 (w5.heap[ab]? = some (.cells #[.int .i64 0, .int .i64 0, .int .i64 0, .string ⟨#[]⟩, .int .i64 0, .int .i64 0, .string ⟨#[]⟩, .int .i64 0, .int .i64 0, .string ⟨#[]⟩, .int .i64 0, .string ⟨#[]⟩, .int .i64 0, .int .i64 0, .int .i64 0, .int .i64 0, .int .i64 0, .int .i64 0, .int .i64 0, .string ⟨#[]⟩, .string ⟨#[]⟩, .slice none 0 0, .int .i64 0, .string ⟨#[]⟩, .slice none 0 0] 25 (0, 0))) := ⟨hbS_⟩; have bm : Aside0 (Below w.heap.size w w5) := ⟨sS_.below Z0 bf.out⟩; clear hbS_ sS_; replace aa := bl; replace HB := bm; clear bl bm))
  refine bodyPost_ret (results_ctt rfl _ _ ab 25 #[.int .i64 0, .int .i64 0, .int .i64 0, .string ⟨#[]⟩, .int .i64 0, .int .i64 0, .string ⟨#[]⟩, .int .i64 0, .int .i64 0, .string ⟨#[]⟩, .int .i64 0, .string ⟨#[]⟩, .int .i64 0, .int .i64 0, .int .i64 0, .int .i64 0, .int .i64 0, .int .i64 0, .int .i64 0, .string ⟨#[]⟩, .string ⟨#[]⟩, .slice none 0 0, .int .i64 0, .string ⟨#[]⟩, .slice none 0 0] (0, 0) _ rfl Z2 Try.underlying25 rfl Z14) rfl ?_
  exact ⟨_, _, Z5, Z7, Z20, Z0⟩
 ·rw [if_neg c2] at H
  have eE : decide ((a0.size : Int) < 2) = false := decide_eq_false c2
  have fo : decide (a0.size < 2) = false := decide_eq_false Z34
  clear c2
  by_cases c6 : 1 < (a0.size : Int)
  ·rw [if_pos c6] at H
   have ga : decide (1 < (a0.size : Int)) = true := decide_eq_true c6
   have ii : decide (1 < a0.size) = true := decide_eq_true Z34
   clear c6
   by_cases c8 : (bt a0 1) = 0
   ·rw [if_pos c8] at H
    have gf : ((bt a0 1) == 0) = true := beq_iff_eq.mpr c8
    have iU : ((bt a0 1) != 0) = false := bne_eq_false_iff_eq.mpr c8
    clear c8
    by_cases c9 : 2 ≤ (a0.size : Int)
    ·rw [if_pos c9] at H
     have ij := eq_true c9
     have lL : decide (2 ≤ (a0.size : Int)) = true := decide_eq_true c9
     clear c9
     replace H := Option.bind_eq_some_iff.mp H
     obtain ⟨⟨aM, aX, aV⟩, jf, H⟩ := H
     replace H : (if aV = 0 then (some (6, 0, 0, (⟨#[]⟩ : ByteArray), 0, 0, (⟨#[]⟩ : ByteArray), 0, 0, (⟨#[]⟩ : ByteArray), 0, (⟨#[]⟩ : ByteArray), 0, 0, 0, 0, 0, 0, 0, (⟨#[]⟩ : ByteArray), (⟨#[]⟩ : ByteArray), ([] : List (S46)), 0, (⟨#[]⟩ : ByteArray), aM, 0, 0)) else (some (0, 0, 0, (⟨#[]⟩ : ByteArray), 0, 0, (⟨#[]⟩ : ByteArray), 0, 0, (⟨#[]⟩ : ByteArray), 0, (⟨#[]⟩ : ByteArray), 0, 0, 0, 0, 0, 0, 0, (⟨#[]⟩ : ByteArray), (⟨#[]⟩ : ByteArray), ([] : List (S46)), 0, (⟨#[]⟩ : ByteArray), ([] : List (S48)), wrap64 (aX + 2), aV))) = some (r1, r2, r3, r4, r5, r6, r7, r8, r9, r10, r11, r12, r13, r14, r15, r16, r17, r18, r19, r20, r21, r22, r23, r24, r25, r26, r27) := H
     have lA := Aside0.mk jf
     clear jf
     by_cases dK : aV = 0
     ·rw [if_pos dK] at H
      have eB : (aV == 0) = true := beq_iff_eq.mpr dK
      have fp : (aV != 0) = false := bne_eq_false_iff_eq.mpr dK
      clear dK
      simp only [Option.some.injEq, Prod.mk.injEq] at H
      obtain ⟨rfl, rfl, rfl, rfl, rfl, rfl, rfl, rfl, rfl, rfl, rfl, rfl, rfl, rfl, rfl, rfl, rfl, rfl, rfl, rfl, rfl, rfl, rfl, rfl, rfl, rfl, rfl⟩ := H
      go_enter Try.func68, Try.ntmps68
      go_wp2_with (first | ((with_reducible refine gate_dst (N := 32) rfl ?_); refine Pre.build_event 32 25 [(0, Go.Operand.const (Go.Value.int Go.IntKind.i64 6)), (24, Go.Operand.tmp 31)] rfl rfl rfl (rrep_ack.bd32 _ _ _ _) ?_) | ((with_reducible refine gate_dst (N := 2) rfl ?_); refine Sq.box 2 #[.int .i64 0, .int .i64 0, .int .i64 0, .string ⟨#[]⟩, .int .i64 0, .int .i64 0, .string ⟨#[]⟩, .int .i64 0, .int .i64 0, .string ⟨#[]⟩, .int .i64 0, .string ⟨#[]⟩, .int .i64 0, .int .i64 0, .int .i64 0, .int .i64 0, .int .i64 0, .int .i64 0, .int .i64 0, .string ⟨#[]⟩, .string ⟨#[]⟩, .slice none 0 0, .int .i64 0, .string ⟨#[]⟩, .slice none 0 0] 25 ?_; intro ab hg po hbox hb; have aa := Aside0.mk (hbox); have bR := Aside0.mk (Sq.ge hg Z1); have bf := Aside0.mk (Sq.ge hg Z1); replace HB := Aside0.mk (below_step Z1 hb); clear hb hbox hg; have p7 : 0 ≤ (1 : Int) := Z34; have q7 : 1 < a0.size := (by have : (1 : Int) < (a0.size : Int) := of_decide_eq_true Z6; omega); have hx7 : ∀ h : 1 < a0.size, ((a0[1]'h).toNat : Int) = bt a0 1 := bt_at a0 1; clear p7; have qi7 : (1 < (a0.size : Int)) = True := eq_true (of_decide_eq_true Z6); replace q7 := eq_true q7) | ((with_reducible refine gate_callee (f := 59) rfl ?_); refine goesL_ (some 21) rfl rfl Try.func59 Z14 rfl #[.string (a0.extract 2 a0.size)] rfl Z4 ?_; (with_reducible refine (ext_Get.calls k (a0.extract 2 a0.size) aM aX aV _ lA.out).mono ?_); rintro e jP ⟨il, rfl, ho0, hb⟩; refine ⟨_, rfl, ?_⟩; have bw := Aside0.mk (Kd.R_lower ho0 (below_size Z0)); replace aa := Aside0.mk (blk_below (g := ab) Z2 hb); replace HB := Aside0.mk (below_step Z0 hb); clear hb ho0; obtain ⟨nh, ni, eo14⟩ := Kd.R_slice bw.out; subst eo14; have mi := cells_25 aa.out) | ((with_reducible refine Pre.gate_store 25 rfl ?_); refine Pre.store_abs (cur := #[.int .i64 0, .int .i64 0, .int .i64 0, .string ⟨#[]⟩, .int .i64 0, .int .i64 0, .string ⟨#[]⟩, .int .i64 0, .int .i64 0, .string ⟨#[]⟩, .int .i64 0, .string ⟨#[]⟩, .int .i64 0, .int .i64 0, .int .i64 0, .int .i64 0, .int .i64 0, .int .i64 0, .int .i64 0, .string ⟨#[]⟩, .string ⟨#[]⟩, .slice none 0 0, .int .i64 0, .string ⟨#[]⟩, .slice none 0 0]) (e := 25) rfl rfl rfl Z22 Z22 Z2 Z14 Z22 Z22 ?_; intro kU hbS_ sS_; have bl : Aside0 (Kd.R k48 48 kU w.heap.size (fun _ => True) (.slice nh aM.length ni) aM) := ⟨Kd.R_mono (Pre.R_sets sS_ (Kd.R_types bw.out aa.out Z27) (fun _ hk => hk.2)) (fun _ hk => trivial)⟩; have bm : Aside0 (kU.heap[ab]? = some (.cells #[.int .i64 6, .int .i64 0, .int .i64 0, .string ⟨#[]⟩, .int .i64 0, .int .i64 0, .string ⟨#[]⟩, .int .i64 0, .int .i64 0, .string ⟨#[]⟩, .int .i64 0, .string ⟨#[]⟩, .int .i64 0, .int .i64 0, .int .i64 0, .int .i64 0, .int .i64 0, .int .i64 0, .int .i64 0, .string ⟨#[]⟩, .string ⟨#[]⟩, .slice none 0 0, .int .i64 0, .string ⟨#[]⟩, .slice nh aM.length ni] 25 (0, 0))) := ⟨hbS_⟩; have bI : Aside0 (Below w.heap.size w kU) := ⟨sS_.below Z0 bf.out⟩; clear hbS_ sS_; replace bw := bl; replace aa := bm; replace HB := bI; clear bl bm bI))
      refine bodyPost_ret (results_ctt rfl _ _ ab 25 #[.int .i64 6, .int .i64 0, .int .i64 0, .string ⟨#[]⟩, .int .i64 0, .int .i64 0, .string ⟨#[]⟩, .int .i64 0, .int .i64 0, .string ⟨#[]⟩, .int .i64 0, .string ⟨#[]⟩, .int .i64 0, .int .i64 0, .int .i64 0, .int .i64 0, .int .i64 0, .int .i64 0, .int .i64 0, .string ⟨#[]⟩, .string ⟨#[]⟩, .slice none 0 0, .int .i64 0, .string ⟨#[]⟩, .slice nh aM.length ni] (0, 0) _ rfl Z2 Try.underlying25 rfl Z14) rfl ?_
      exact ⟨_, _, Z5, Z7, Z47, Z0⟩
     ·rw [if_neg dK] at H
      have eB : (aV == 0) = false := beq_eq_false_iff_ne.mpr dK
      have fp : (aV != 0) = true := bne_iff_ne.mpr dK
      simp only [Option.some.injEq, Prod.mk.injEq] at H
      obtain ⟨rfl, rfl, rfl, rfl, rfl, rfl, rfl, rfl, rfl, rfl, rfl, rfl, rfl, rfl, rfl, rfl, rfl, rfl, rfl, rfl, rfl, rfl, rfl, rfl, rfl, rfl, rfl⟩ := H
      go_enter Try.func68, Try.ntmps68
      go_wp2_with (first | ((with_reducible refine gate_dst (N := 32) rfl ?_); refine Pre.build_event 32 25 [(0, Go.Operand.const (Go.Value.int Go.IntKind.i64 6)), (24, Go.Operand.tmp 31)] rfl rfl rfl (rrep_ack.bd32 _ _ _ _) ?_) | ((with_reducible refine gate_dst (N := 2) rfl ?_); refine Sq.box 2 #[.int .i64 0, .int .i64 0, .int .i64 0, .string ⟨#[]⟩, .int .i64 0, .int .i64 0, .string ⟨#[]⟩, .int .i64 0, .int .i64 0, .string ⟨#[]⟩, .int .i64 0, .string ⟨#[]⟩, .int .i64 0, .int .i64 0, .int .i64 0, .int .i64 0, .int .i64 0, .int .i64 0, .int .i64 0, .string ⟨#[]⟩, .string ⟨#[]⟩, .slice none 0 0, .int .i64 0, .string ⟨#[]⟩, .slice none 0 0] 25 ?_; intro ab hg iE hbox hb; have aa := Aside0.mk (hbox); have bR := Aside0.mk (Sq.ge hg Z1); have bf := Aside0.mk (Sq.ge hg Z1); replace HB := Aside0.mk (below_step Z1 hb); clear hb hbox hg; have p7 : 0 ≤ (1 : Int) := Z34; have q7 : 1 < a0.size := (by have : (1 : Int) < (a0.size : Int) := of_decide_eq_true Z6; omega); have hx7 : ∀ h : 1 < a0.size, ((a0[1]'h).toNat : Int) = bt a0 1 := bt_at a0 1; clear p7; have qi7 : (1 < (a0.size : Int)) = True := eq_true (of_decide_eq_true Z6); replace q7 := eq_true q7) | ((with_reducible refine gate_callee (f := 59) rfl ?_); refine goesL_ (some 21) rfl rfl Try.func59 Z14 rfl #[.string (a0.extract 2 a0.size)] rfl Z4 ?_; (with_reducible refine (ext_Get.calls k (a0.extract 2 a0.size) aM aX aV _ lA.out).mono ?_); rintro e mb ⟨il, rfl, ho0, hb⟩; refine ⟨_, rfl, ?_⟩; have bw := Aside0.mk (Kd.R_lower ho0 (below_size Z0)); replace aa := Aside0.mk (blk_below (g := ab) Z2 hb); replace HB := Aside0.mk (below_step Z0 hb); clear hb ho0; have jw := cells_25 aa.out) | ((with_reducible refine Pre.gate_store 25 rfl ?_); refine Pre.store_abs (cur := #[.int .i64 0, .int .i64 0, .int .i64 0, .string ⟨#[]⟩, .int .i64 0, .int .i64 0, .string ⟨#[]⟩, .int .i64 0, .int .i64 0, .string ⟨#[]⟩, .int .i64 0, .string ⟨#[]⟩, .int .i64 0, .int .i64 0, .int .i64 0, .int .i64 0, .int .i64 0, .int .i64 0, .int .i64 0, .string ⟨#[]⟩, .string ⟨#[]⟩, .slice none 0 0, .int .i64 0, .string ⟨#[]⟩, .slice none 0 0]) (e := 25) rfl rfl rfl Z22 Z22 Z2 Z14 Z22 Z22 ?_; intro kR hbS_ sS_; have bl : Aside0 (Kd.R k48 48 kR w.heap.size (fun _ => True) il aM) := ⟨Kd.R_mono (Pre.R_sets sS_ (Kd.R_types bw.out aa.out Z27) (fun _ hk => hk.2)) (fun _ hk => trivial)⟩; have bm : Aside0 (kR.heap[ab]? = some (.cells #[.int .i64 0, .int .i64 0, .int .i64 0, .string ⟨#[]⟩, .int .i64 0, .int .i64 0, .string ⟨#[]⟩, .int .i64 0, .int .i64 0, .string ⟨#[]⟩, .int .i64 0, .string ⟨#[]⟩, .int .i64 0, .int .i64 0, .int .i64 0, .int .i64 0, .int .i64 0, .int .i64 0, .int .i64 0, .string ⟨#[]⟩, .string ⟨#[]⟩, .slice none 0 0, .int .i64 0, .string ⟨#[]⟩, .slice none 0 0] 25 (0, 0))) := ⟨hbS_⟩; have bI : Aside0 (Below w.heap.size w kR) := ⟨sS_.below Z0 bf.out⟩; clear hbS_ sS_; replace bw := bl; replace aa := bm; replace HB := bI; clear bl bm bI))
      refine bodyPost_ret (results_ctt rfl _ _ ab 25 #[.int .i64 0, .int .i64 0, .int .i64 0, .string ⟨#[]⟩, .int .i64 0, .int .i64 0, .string ⟨#[]⟩, .int .i64 0, .int .i64 0, .string ⟨#[]⟩, .int .i64 0, .string ⟨#[]⟩, .int .i64 0, .int .i64 0, .int .i64 0, .int .i64 0, .int .i64 0, .int .i64 0, .int .i64 0, .string ⟨#[]⟩, .string ⟨#[]⟩, .slice none 0 0, .int .i64 0, .string ⟨#[]⟩, .slice none 0 0] (0, 0) _ rfl Z2 Try.underlying25 rfl Z14) rfl ?_
      exact ⟨_, _, Z5, Z7, Z20, Z0⟩
    ·rw [if_neg c9] at H
     exact absurd H Z59
   ·rw [if_neg c8] at H
    have gf : ((bt a0 1) == 0) = false := beq_eq_false_iff_ne.mpr c8
    have iU : ((bt a0 1) != 0) = true := bne_iff_ne.mpr c8
    simp only [Option.some.injEq, Prod.mk.injEq] at H
    obtain ⟨rfl, rfl, rfl, rfl, rfl, rfl, rfl, rfl, rfl, rfl, rfl, rfl, rfl, rfl, rfl, rfl, rfl, rfl, rfl, rfl, rfl, rfl, rfl, rfl, rfl, rfl, rfl⟩ := H
    go_enter Try.func68, Try.ntmps68
    go_wp2_with (first | ((with_reducible refine gate_dst (N := 32) rfl ?_); refine Pre.build_event 32 25 [(0, Go.Operand.const (Go.Value.int Go.IntKind.i64 6)), (24, Go.Operand.tmp 31)] rfl rfl rfl (rrep_ack.bd32 _ _ _ _) ?_) | ((with_reducible refine gate_dst (N := 2) rfl ?_); refine Sq.box 2 #[.int .i64 0, .int .i64 0, .int .i64 0, .string ⟨#[]⟩, .int .i64 0, .int .i64 0, .string ⟨#[]⟩, .int .i64 0, .int .i64 0, .string ⟨#[]⟩, .int .i64 0, .string ⟨#[]⟩, .int .i64 0, .int .i64 0, .int .i64 0, .int .i64 0, .int .i64 0, .int .i64 0, .int .i64 0, .string ⟨#[]⟩, .string ⟨#[]⟩, .slice none 0 0, .int .i64 0, .string ⟨#[]⟩, .slice none 0 0] 25 ?_; intro ab hg oB hbox hb; have aa := Aside0.mk (hbox); have bR := Aside0.mk (Sq.ge hg Z1); have bf := Aside0.mk (Sq.ge hg Z1); replace HB := Aside0.mk (below_step Z1 hb); clear hb hbox hg; have p7 : 0 ≤ (1 : Int) := Z34; have q7 : 1 < a0.size := (by have : (1 : Int) < (a0.size : Int) := of_decide_eq_true Z6; omega); have hx7 : ∀ h : 1 < a0.size, ((a0[1]'h).toNat : Int) = bt a0 1 := bt_at a0 1; clear p7; have qi7 : (1 < (a0.size : Int)) = True := eq_true (of_decide_eq_true Z6); replace q7 := eq_true q7; have jy := cells_25 aa.out) | ((with_reducible refine Pre.gate_store 25 rfl ?_); refine Pre.store_abs (cur := #[.int .i64 0, .int .i64 0, .int .i64 0, .string ⟨#[]⟩, .int .i64 0, .int .i64 0, .string ⟨#[]⟩, .int .i64 0, .int .i64 0, .string ⟨#[]⟩, .int .i64 0, .string ⟨#[]⟩, .int .i64 0, .int .i64 0, .int .i64 0, .int .i64 0, .int .i64 0, .int .i64 0, .int .i64 0, .string ⟨#[]⟩, .string ⟨#[]⟩, .slice none 0 0, .int .i64 0, .string ⟨#[]⟩, .slice none 0 0]) (e := 25) rfl rfl rfl Z22 Z22 Z2 Z14 Z22 Z22 ?_; intro ku hbS_ sS_; have bl : Aside0 (ku.heap[ab]? = some (.cells #[.int .i64 0, .int .i64 0, .int .i64 0, .string ⟨#[]⟩, .int .i64 0, .int .i64 0, .string ⟨#[]⟩, .int .i64 0, .int .i64 0, .string ⟨#[]⟩, .int .i64 0, .string ⟨#[]⟩, .int .i64 0, .int .i64 0, .int .i64 0, .int .i64 0, .int .i64 0, .int .i64 0, .int .i64 0, .string ⟨#[]⟩, .string ⟨#[]⟩, .slice none 0 0, .int .i64 0, .string ⟨#[]⟩, .slice none 0 0] 25 (0, 0))) := ⟨hbS_⟩; have bm : Aside0 (Below w.heap.size w ku) := ⟨sS_.below Z0 bf.out⟩; clear hbS_ sS_; replace aa := bl; replace HB := bm; clear bl bm))
    refine bodyPost_ret (results_ctt rfl _ _ ab 25 #[.int .i64 0, .int .i64 0, .int .i64 0, .string ⟨#[]⟩, .int .i64 0, .int .i64 0, .string ⟨#[]⟩, .int .i64 0, .int .i64 0, .string ⟨#[]⟩, .int .i64 0, .string ⟨#[]⟩, .int .i64 0, .int .i64 0, .int .i64 0, .int .i64 0, .int .i64 0, .int .i64 0, .int .i64 0, .string ⟨#[]⟩, .string ⟨#[]⟩, .slice none 0 0, .int .i64 0, .string ⟨#[]⟩, .slice none 0 0] (0, 0) _ rfl Z2 Try.underlying25 rfl Z14) rfl ?_
    exact ⟨_, _, Z5, Z7, Z20, Z0⟩
  ·rw [if_neg c6] at H
   exact absurd H Z59

/-! ### rrep_Right: function 36 -/
def rrep_Right.j0 : Nat → Bool → Int → Int → Int → ByteArray → Int → Int → ByteArray → Int → Int → ByteArray → Int → ByteArray → Int → Int → Int → Int → Int → Int → Int → ByteArray → ByteArray → List (S46) → Int → ByteArray → List (S48) → Option (Bool)
 | 0, _, _, _, _, _, _, _, _, _, _, _, _, _, _, _, _, _, _, _, _, _, _, _, _, _, _ => none
 | k + 1, nW, cc, ct, cu, cv, cw, cx, cy, cd, cz, cA, cB, cl, bU, ce, cf, bV, bW, cg, cm, ch, ci, bX, cn, co, bQ => if nW = true then (none) else (if cc = 6 then (some true) else (none))
def rrep_Right.f (k : Nat) (ax : Int) (av : Int) (aw : Int) (ay : ByteArray) (aA : Int) (aH : Int) (aI : ByteArray) (aC : Int) (aD : Int) (aG : ByteArray) (au : Int) (ar : ByteArray) (ak : Int) (aj : Int) (ap : Int) (ah : Int) (ai : Int) (al : Int) (an : Int) (ac : ByteArray) (af : ByteArray) (ae : List (S46)) (ao : Int) (aq : ByteArray) (am : List (S48)) : Option (Bool) := (msg_Bare.f ax av aw ay aA aH aI aC aD aG au ar ak aj ap ah ai al an ac af ae ao aq am).bind fun aM => (if aM = true then ((ext_Right.f k am).bind fun aX => (rrep_Right.j0 k (!aX) ax av aw ay aA aH aI aC aD aG au ar ak aj ap ah ai al an ac af ae ao aq am)) else (rrep_Right.j0 k true ax av aw ay aA aH aI aC aD aG au ar ak aj ap ah ai al an ac af ae ao aq am))
theorem rrep_Right.mono_l : ∀ k, (∀ y0 y1 y2 y3 y4 y5 y6 y7 y8 y9 fG fH fI fJ fK fL fM fN fO fP fQ fR fS fT fU fV, LeO (rrep_Right.j0 k y0 y1 y2 y3 y4 y5 y6 y7 y8 y9 fG fH fI fJ fK fL fM fN fO fP fQ fR fS fT fU fV) (rrep_Right.j0 (k + 1) y0 y1 y2 y3 y4 y5 y6 y7 y8 y9 fG fH fI fJ fK fL fM fN fO fP fQ fR fS fT fU fV))
 | 0 => fun _ _ _ _ _ _ _ _ _ _ _ _ _ _ _ _ _ _ _ _ _ _ _ _ _ _ r h => by simp [rrep_Right.j0] at h
 | k + 1 => by
  have ih0 := rrep_Right.mono_l k
  ·intro y0 y1 y2 y3 y4 y5 y6 y7 y8 y9 fG fH fI fJ fK fL fM fN fO fP fQ fR fS fT fU fV
   unfold rrep_Right.j0
   repeat' first
   | (with_reducible exact ih0 ..)
   | (with_reducible exact ext_Right.mono _ _)
   | (with_reducible exact LeO.refl _)
   | (with_reducible exact LeO.none _)
   | (with_reducible refine LeO.ite ?_ ?_)
   | (with_reducible refine LeO.bind ?_ (fun _ => ?_))
   | exact ih0 ..
   | exact ext_Right.mono _ _
   | exact LeO.none _
   | refine LeO.ite ?_ ?_
   | refine LeO.bind ?_ (fun _ => ?_)
theorem rrep_Right.mono : ∀ a0 a1 a2 a3 a4 a5 a6 a7 a8 a9 gY gZ ha hf hh hj hl hm ht hu hv hA hB hC hD k, LeO (rrep_Right.f k a0 a1 a2 a3 a4 a5 a6 a7 a8 a9 gY gZ ha hf hh hj hl hm ht hu hv hA hB hC hD) (rrep_Right.f (k + 1) a0 a1 a2 a3 a4 a5 a6 a7 a8 a9 gY gZ ha hf hh hj hl hm ht hu hv hA hB hC hD) := by
 intro a0 a1 a2 a3 a4 a5 a6 a7 a8 a9 gY gZ ha hf hh hj hl hm ht hu hv hA hB hC hD k
 have ih0 := rrep_Right.mono_l k
 unfold rrep_Right.f
 repeat' first
   | (with_reducible exact ih0 ..)
   | (with_reducible exact ext_Right.mono _ _)
   | (with_reducible exact LeO.refl _)
   | (with_reducible exact LeO.none _)
   | (with_reducible refine LeO.ite ?_ ?_)
   | (with_reducible refine LeO.bind ?_ (fun _ => ?_))
   | exact ih0 ..
   | exact ext_Right.mono _ _
   | exact LeO.none _
   | refine LeO.ite ?_ ?_
   | refine LeO.bind ?_ (fun _ => ?_)

set_option maxHeartbeats 8000000 in
set_option maxRecDepth 100000 in
theorem rrep_Right.calls (k : Nat) (ax : Int) (av : Int) (aw : Int) (ay : ByteArray) (aA : Int) (aH : Int) (aI : ByteArray) (aC : Int) (aD : Int) (aG : ByteArray) (au : Int) (ar : ByteArray) (ak : Int) (aj : Int) (ap : Int) (ah : Int) (ai : Int) (al : Int) (an : Int) (ac : ByteArray) (af : ByteArray) (bs : Option Addr) (bq : Nat) (ae : List (S46)) (ao : Int) (aq : ByteArray) (bn : Option Addr) (bo : Nat) (am : List (S48)) (r : Bool) (w : World) (cD : Kd.C k46 w bs ae.length ae) (cE : ae.length ≤ bq) (cF : Kd.C k48 w bn am.length am) (cG : am.length ≤ bo) (h : rrep_Right.f k ax av aw ay aA aH aI aC aD aG au ar ak aj ap ah ai al an ac af ae ao aq am = some r) :
  Calls Try.prog 36 #[.agg #[.int .i64 ax, .int .i64 av, .int .i64 aw, .string ay, .int .i64 aA, .int .i64 aH, .string aI, .int .i64 aC, .int .i64 aD, .string aG, .int .i64 au, .string ar, .int .i64 ak, .int .i64 aj, .int .i64 ap, .int .i64 ah, .int .i64 ai, .int .i64 al, .int .i64 an, .string ac, .string af, .slice bs ae.length bq, .int .i64 ao, .string aq, .slice bn am.length bo]] w fun e w' => e = .returned (.bool r) ∧ Below w.heap.size w w' := by
 have fn := Try.underlying25
 have eL := Aside0.mk cD
 have bG := Aside0.mk cE
 clear cD cE
 have fb := Aside0.mk cF
 have bA := Aside0.mk cG
 clear cF cG
 have HB := Aside0.mk (Below.refl w.heap.size w)
 have H : ((msg_Bare.f ax av aw ay aA aH aI aC aD aG au ar ak aj ap ah ai al an ac af ae ao aq am).bind fun aM => (if aM = true then ((ext_Right.f k am).bind fun aX => (rrep_Right.j0 k (!aX) ax av aw ay aA aH aI aC aD aG au ar ak aj ap ah ai al an ac af ae ao aq am)) else (rrep_Right.j0 k true ax av aw ay aA aH aI aC aD aG au ar ak aj ap ah ai al an ac af ae ao aq am))) = some r := h
 clear h
 have jO := Aside0.mk H
 clear H
 go_enter Try.func36, Try.ntmps36
 go_upto_region 1 with (first | ((with_reducible refine Pre.gate_load 25 rfl ?_); (try (refine gate_guard Z22 ?_; dsimp only)); refine Pre.load_event rfl rfl rfl Z22 Z3 Try.underlying25 rfl Z14 ?_) | ((with_reducible refine gate_dst (N := 1) rfl ?_); (try (refine gate_guard Z22 ?_; dsimp only)); refine Sq.box 1 #[.int .i64 ax, .int .i64 av, .int .i64 aw, .string ay, .int .i64 aA, .int .i64 aH, .string aI, .int .i64 aC, .int .i64 aD, .string aG, .int .i64 au, .string ar, .int .i64 ak, .int .i64 aj, .int .i64 ap, .int .i64 ah, .int .i64 ai, .int .i64 al, .int .i64 an, .string ac, .string af, .slice bs ae.length bq, .int .i64 ao, .string aq, .slice bn am.length bo] 25 ?_; intro ab hg w3 hbox hb; have aa := Aside0.mk (hbox); have bR := Aside0.mk (Sq.ge hg Z1); have bf := Aside0.mk (Sq.ge hg Z1); replace HB := Aside0.mk (below_step Z1 hb); clear hb hbox hg))
 (try simp only [Act.put, Sq.s1, Sq.s2, Sq.s3])
 go_cut [11] (fun md wc => ∃ (kq : Nat) (cH : Bool), md = .bool cH ∧ Aside0 (rrep_Right.j0 kq cH ax av aw ay aA aH aI aC aD aG au ar ak aj ap ah ai al an ac af ae ao aq am = some r) ∧ Aside0 (kq ≤ k) ∧ Aside0 (wc.heap[ab]? = some (.cells #[.int .i64 ax, .int .i64 av, .int .i64 aw, .string ay, .int .i64 aA, .int .i64 aH, .string aI, .int .i64 aC, .int .i64 aD, .string aG, .int .i64 au, .string ar, .int .i64 ak, .int .i64 aj, .int .i64 ap, .int .i64 ah, .int .i64 ai, .int .i64 al, .int .i64 an, .string ac, .string af, (.slice bs ae.length bq), .int .i64 ao, .string aq, (.slice bn am.length bo)] 25 (0, 0))) ∧ Aside0 (Below w.heap.size w wc))
 case first =>
  have H := jO.out
  clear jO
  replace H := Option.bind_eq_some_iff.mp H
  obtain ⟨aM, mg, H⟩ := H
  replace H : (if aM = true then ((ext_Right.f k am).bind fun aX => (rrep_Right.j0 k (!aX) ax av aw ay aA aH aI aC aD aG au ar ak aj ap ah ai al an ac af ae ao aq am)) else (rrep_Right.j0 k true ax av aw ay aA aH aI aC aD aG au ar ak aj ap ah ai al an ac af ae ao aq am)) = some r := H
  have A4 := Aside0.mk mg
  clear mg
  by_cases c5 : aM = true
  ·subst c5
   replace H := Sq.itT H
   replace H := Option.bind_eq_some_iff.mp H
   obtain ⟨aX, oR, H⟩ := H
   replace H : (rrep_Right.j0 k (!aX) ax av aw ay aA aH aI aC aD aG au ar ak aj ap ah ai al an ac af ae ao aq am) = some r := H
   have A6 := Aside0.mk oR
   clear oR
   have H' := Aside0.mk H
   clear H
   have pf := cells_25 aa.out
   go_wp2_with (first | ((with_reducible refine Pre.gate_load 25 rfl ?_); (try (refine gate_guard Z22 ?_; dsimp only)); refine Pre.load_event rfl rfl rfl Z22 Z3 Try.underlying25 rfl Z14 ?_) | ((with_reducible refine gate_callee (f := 53) rfl ?_); refine goesL_ (some 4) rfl rfl Try.func53 Z14 rfl #[.agg #[.int .i64 ax, .int .i64 av, .int .i64 aw, .string ay, .int .i64 aA, .int .i64 aH, .string aI, .int .i64 aC, .int .i64 aD, .string aG, .int .i64 au, .string ar, .int .i64 ak, .int .i64 aj, .int .i64 ap, .int .i64 ah, .int .i64 ai, .int .i64 al, .int .i64 an, .string ac, .string af, .slice bs ae.length bq, .int .i64 ao, .string aq, .slice bn am.length bo]] rfl Z4 ?_; (with_reducible refine (msg_Bare.calls ax av aw ay aA aH aI aC aD aG au ar ak aj ap ah ai al an ac af _ _ ae ao aq _ _ am true _ ?side1 ?side2 ?side3 ?side4 A4.out).mono ?_); (case side1 => exact Z16); (case side2 => exact bG.out); (case side3 => exact Z12); (case side4 => exact bA.out); rintro e w8 ⟨rfl, hb⟩; refine ⟨_, rfl, ?_⟩; replace aa := Aside0.mk (blk_below (g := ab) Z2 hb); replace HB := Aside0.mk (below_step Z0 hb); clear hb; have tk := cells_25 aa.out) | (go_at_call 55; (with_reducible refine (ext_Right.calls k _ _ am aX _ ?side1 ?side2 A6.out).mono ?_); (case side1 => exact Z12); (case side2 => exact bA.out); rintro e sY ⟨rfl, hb⟩; replace aa := Aside0.mk (blk_below (g := ab) Z2 hb); replace HB := Aside0.mk (below_step Z0 hb); clear hb))
   go_meet
   case rel => exact ⟨_, (!aX), Z17, H', ⟨Z43⟩, ⟨Z2⟩, ⟨Z0⟩⟩
  ·replace c5 := Bool.eq_false_iff.mpr c5
   subst c5
   replace H := Sq.itF H
   have H' := Aside0.mk H
   clear H
   have oD := cells_25 aa.out
   go_wp2_with (first | ((with_reducible refine Pre.gate_load 25 rfl ?_); (try (refine gate_guard Z22 ?_; dsimp only)); refine Pre.load_event rfl rfl rfl Z22 Z3 Try.underlying25 rfl Z14 ?_) | ((with_reducible refine gate_callee (f := 53) rfl ?_); refine goesL_ (some 4) rfl rfl Try.func53 Z14 rfl #[.agg #[.int .i64 ax, .int .i64 av, .int .i64 aw, .string ay, .int .i64 aA, .int .i64 aH, .string aI, .int .i64 aC, .int .i64 aD, .string aG, .int .i64 au, .string ar, .int .i64 ak, .int .i64 aj, .int .i64 ap, .int .i64 ah, .int .i64 ai, .int .i64 al, .int .i64 an, .string ac, .string af, .slice bs ae.length bq, .int .i64 ao, .string aq, .slice bn am.length bo]] rfl Z4 ?_; (with_reducible refine (msg_Bare.calls ax av aw ay aA aH aI aC aD aG au ar ak aj ap ah ai al an ac af _ _ ae ao aq _ _ am false _ ?side1 ?side2 ?side3 ?side4 A4.out).mono ?_); (case side1 => exact Z16); (case side2 => exact bG.out); (case side3 => exact Z12); (case side4 => exact bA.out); rintro e po ⟨rfl, hb⟩; refine ⟨_, rfl, ?_⟩; replace aa := Aside0.mk (blk_below (g := ab) Z2 hb); replace HB := Aside0.mk (below_step Z0 hb); clear hb))
   go_meet
   case rel => exact ⟨_, (true), Z17, H', ⟨Z43⟩, ⟨Z2⟩, ⟨Z0⟩⟩
 case rest =>
  clear jO
  try clear c3
  obtain ⟨kq, cH, rfl, HA, mv, aa, HB⟩ := hcut
  cases kq with
  | zero => exact absurd HA.out (by simp [rrep_Right.j0])
  | succ kj1 =>
   have H := HA.out
   clear HA
   simp only [rrep_Right.j0] at H
   by_cases ew : cH = true
   ·subst ew
    replace H := Sq.itT H
    exact absurd H Z59
   ·replace ew := Bool.eq_false_iff.mpr ew
    subst ew
    replace H := Sq.itF H
    by_cases gz : ax = 6
    ·rw [if_pos gz] at H
     have kz : (ax == 6) = true := beq_iff_eq.mpr gz
     have kA : (ax != 6) = false := bne_eq_false_iff_eq.mpr gz
     clear gz
     obtain rfl := Option.some.inj H
     have mi := cells_25 aa.out
     go_wp2_with (first | ((with_reducible refine Pre.gate_load 25 rfl ?_); (try (refine gate_guard Z22 ?_; dsimp only)); refine Pre.load_event rfl rfl rfl Z22 Z3 Try.underlying25 rfl Z14 ?_))
     go_ret
     exact ⟨Z5, Z0⟩
    ·rw [if_neg gz] at H
     exact absurd H Z59

/-! ### rrep_Put: function 34 -/
def rrep_Put.f (k : Nat) (ax : Int) (av : Int) (aw : Int) (ay : ByteArray) (aA : Int) (aH : Int) (aI : ByteArray) (aC : Int) (aD : Int) (aG : ByteArray) (au : Int) (ar : ByteArray) (ak : Int) (aj : Int) (ap : Int) (ah : Int) (ai : Int) (al : Int) (an : Int) (ac : ByteArray) (af : ByteArray) (ae : List (S46)) (ao : Int) (aq : ByteArray) (am : List (S48)) : Option (ByteArray × Bool) := (rrep_Right.f k ax av aw ay aA aH aI aC aD aG au ar ak aj ap ah ai al an ac af ae ao aq am).bind fun aM => (if aM = true then ((ext_Put.f k am).bind fun bv => (if ax = 6 then (if 2 + bv.1.size ≤ 9223372036854775807 then (some ((⟨#[4, 0]⟩ : ByteArray) ++ bv.1, true)) else (none)) else (none))) else (none))
theorem rrep_Put.mono : ∀ a0 a1 a2 a3 a4 a5 a6 a7 a8 a9 gY gZ ha hf hh hj hl hm ht hu hv hA hB hC hD k, LeO (rrep_Put.f k a0 a1 a2 a3 a4 a5 a6 a7 a8 a9 gY gZ ha hf hh hj hl hm ht hu hv hA hB hC hD) (rrep_Put.f (k + 1) a0 a1 a2 a3 a4 a5 a6 a7 a8 a9 gY gZ ha hf hh hj hl hm ht hu hv hA hB hC hD) := by
 intro a0 a1 a2 a3 a4 a5 a6 a7 a8 a9 gY gZ ha hf hh hj hl hm ht hu hv hA hB hC hD k
 unfold rrep_Put.f
 repeat' first
   | (with_reducible exact ext_Put.mono _ _)
   | (with_reducible exact rrep_Right.mono _ _ _ _ _ _ _ _ _ _ _ _ _ _ _ _ _ _ _ _ _ _ _ _ _ _)
   | (with_reducible exact LeO.refl _)
   | (with_reducible exact LeO.none _)
   | (with_reducible refine LeO.ite ?_ ?_)
   | (with_reducible refine LeO.bind ?_ (fun _ => ?_))
   | exact ext_Put.mono _ _
   | exact rrep_Right.mono _ _ _ _ _ _ _ _ _ _ _ _ _ _ _ _ _ _ _ _ _ _ _ _ _ _
   | exact LeO.none _
   | refine LeO.ite ?_ ?_
   | refine LeO.bind ?_ (fun _ => ?_)

set_option maxHeartbeats 8000000 in
set_option maxRecDepth 100000 in
theorem rrep_Put.calls (k : Nat) (ax : Int) (av : Int) (aw : Int) (ay : ByteArray) (aA : Int) (aH : Int) (aI : ByteArray) (aC : Int) (aD : Int) (aG : ByteArray) (au : Int) (ar : ByteArray) (ak : Int) (aj : Int) (ap : Int) (ah : Int) (ai : Int) (al : Int) (an : Int) (ac : ByteArray) (af : ByteArray) (bs : Option Addr) (bq : Nat) (ae : List (S46)) (ao : Int) (aq : ByteArray) (bn : Option Addr) (bo : Nat) (am : List (S48)) (r1 : ByteArray) (r2 : Bool) (w : World) (cD : Kd.C k46 w bs ae.length ae) (cE : ae.length ≤ bq) (cF : Kd.C k48 w bn am.length am) (cG : am.length ≤ bo) (h : rrep_Put.f k ax av aw ay aA aH aI aC aD aG au ar ak aj ap ah ai al an ac af ae ao aq am = some (r1, r2)) :
  Calls Try.prog 34 #[.agg #[.int .i64 ax, .int .i64 av, .int .i64 aw, .string ay, .int .i64 aA, .int .i64 aH, .string aI, .int .i64 aC, .int .i64 aD, .string aG, .int .i64 au, .string ar, .int .i64 ak, .int .i64 aj, .int .i64 ap, .int .i64 ah, .int .i64 ai, .int .i64 al, .int .i64 an, .string ac, .string af, .slice bs ae.length bq, .int .i64 ao, .string aq, .slice bn am.length bo]] w fun e w' => e = .returned (.tuple #[.string r1, .bool r2]) ∧ Below w.heap.size w w' := by
 have fn := Try.underlying25
 have eL := Aside0.mk cD
 have bG := Aside0.mk cE
 clear cD cE
 have fb := Aside0.mk cF
 have bA := Aside0.mk cG
 clear cF cG
 have HB := Aside0.mk (Below.refl w.heap.size w)
 have H : ((rrep_Right.f k ax av aw ay aA aH aI aC aD aG au ar ak aj ap ah ai al an ac af ae ao aq am).bind fun aM => (if aM = true then ((ext_Put.f k am).bind fun bv => (if ax = 6 then (if 2 + bv.1.size ≤ 9223372036854775807 then (some ((⟨#[4, 0]⟩ : ByteArray) ++ bv.1, true)) else (none)) else (none))) else (none))) = some (r1, r2) := h
 clear h
 replace H := Option.bind_eq_some_iff.mp H
 obtain ⟨aM, gr, H⟩ := H
 replace H : (if aM = true then ((ext_Put.f k am).bind fun bv => (if ax = 6 then (if 2 + bv.1.size ≤ 9223372036854775807 then (some ((⟨#[4, 0]⟩ : ByteArray) ++ bv.1, true)) else (none)) else (none))) else (none)) = some (r1, r2) := H
 have A2 := Aside0.mk gr
 clear gr
 by_cases c3 : aM = true
 ·subst c3
  have H1 : ((ext_Put.f k am).bind fun bv => (if ax = 6 then (if 2 + bv.1.size ≤ 9223372036854775807 then (some ((⟨#[4, 0]⟩ : ByteArray) ++ bv.1, true)) else (none)) else (none))) = some (r1, r2) := by rw [if_pos rfl] at H; exact H
  clear H
  have H := H1
  clear H1
  replace H := Option.bind_eq_some_iff.mp H
  obtain ⟨⟨aX, aV⟩, mg, H⟩ := H
  replace H : (if ax = 6 then (if 2 + aX.size ≤ 9223372036854775807 then (some ((⟨#[4, 0]⟩ : ByteArray) ++ aX, true)) else (none)) else (none)) = some (r1, r2) := H
  have A4 := Aside0.mk mg
  clear mg
  by_cases c5 : ax = 6
  ·rw [if_pos c5] at H
   have fg : (ax == 6) = true := beq_iff_eq.mpr c5
   have im : (ax != 6) = false := bne_eq_false_iff_eq.mpr c5
   clear c5
   by_cases c6 : 2 + aX.size ≤ 9223372036854775807
   ·rw [if_pos c6] at H
    have ga := eq_true c6
    have ii : decide (2 + aX.size ≤ 9223372036854775807) = true := decide_eq_true c6
    try have oY : (9223372036854775807 < 2 + aX.size) = False := eq_false (Nat.not_lt.2 c6)
    try (have oZ := oY; simp only [ByteArray.size_append] at oZ)
    simp only [Option.some.injEq, Prod.mk.injEq] at H
    obtain ⟨rfl, rfl⟩ := H
    go_enter Try.func34, Try.ntmps34
    go_wp2_with (first | ((with_reducible refine Pre.gate_load 25 rfl ?_); (try (refine gate_guard Z22 ?_; dsimp only)); refine Pre.load_event rfl rfl rfl Z22 Z3 Try.underlying25 rfl Z14 ?_) | ((with_reducible refine gate_dst (N := 1) rfl ?_); refine Sq.box 1 #[.int .i64 ax, .int .i64 av, .int .i64 aw, .string ay, .int .i64 aA, .int .i64 aH, .string aI, .int .i64 aC, .int .i64 aD, .string aG, .int .i64 au, .string ar, .int .i64 ak, .int .i64 aj, .int .i64 ap, .int .i64 ah, .int .i64 ai, .int .i64 al, .int .i64 an, .string ac, .string af, .slice bs ae.length bq, .int .i64 ao, .string aq, .slice bn am.length bo] 25 ?_; intro ab hg w7 hbox hb; have aa := Aside0.mk (hbox); have bR := Aside0.mk (Sq.ge hg Z1); have bf := Aside0.mk (Sq.ge hg Z1); replace HB := Aside0.mk (below_step Z1 hb); clear hb hbox hg; have nL := cells_25 aa.out) | ((with_reducible refine gate_callee (f := 36) rfl ?_); refine goesL_ (some 11) rfl rfl Try.func36 Z14 rfl #[.agg #[.int .i64 ax, .int .i64 av, .int .i64 aw, .string ay, .int .i64 aA, .int .i64 aH, .string aI, .int .i64 aC, .int .i64 aD, .string aG, .int .i64 au, .string ar, .int .i64 ak, .int .i64 aj, .int .i64 ap, .int .i64 ah, .int .i64 ai, .int .i64 al, .int .i64 an, .string ac, .string af, .slice bs ae.length bq, .int .i64 ao, .string aq, .slice bn am.length bo]] rfl Z4 ?_; (with_reducible refine (rrep_Right.calls k ax av aw ay aA aH aI aC aD aG au ar ak aj ap ah ai al an ac af _ _ ae ao aq _ _ am true _ ?side1 ?side2 ?side3 ?side4 A2.out).mono ?_); (case side1 => exact Z16); (case side2 => exact bG.out); (case side3 => exact Z12); (case side4 => exact bA.out); rintro e w9 ⟨rfl, hb⟩; refine ⟨_, rfl, ?_⟩; replace aa := Aside0.mk (blk_below (g := ab) Z2 hb); replace HB := Aside0.mk (below_step Z0 hb); clear hb; have iX := cells_25 aa.out) | ((with_reducible refine gate_callee (f := 49) rfl ?_); refine goesL_ (some 16) rfl rfl Try.func49 Z14 rfl #[.slice bn am.length bo] rfl Z4 ?_; (with_reducible refine (ext_Put.calls k _ _ am aX aV _ ?side1 ?side2 A4.out).mono ?_); (case side1 => exact Z12); (case side2 => exact bA.out); rintro e jQ ⟨rfl, hb⟩; refine ⟨_, rfl, ?_⟩; replace aa := Aside0.mk (blk_below (g := ab) Z2 hb); replace HB := Aside0.mk (below_step Z0 hb); clear hb; have lD := cells_25 aa.out))
    go_ret2
    exact ⟨Z5, Z0⟩
   ·rw [if_neg c6] at H
    exact absurd H Z59
  ·rw [if_neg c5] at H
   exact absurd H Z59
 ·replace c3 := Bool.eq_false_iff.mpr c3
  subst c3
  have H1 : (none) = some (r1, r2) := by rw [if_neg (show ¬ (false = true) by decide)] at H; exact H
  clear H
  have H := H1
  clear H1
  exact absurd H Z59

end Go.Proofs.Ytccjakjjaemmkaa.PAP
