-- Written by mp.py, a program of this work (wip/tools), out of the translation; Lean checks it.
import Derived.Test.YtccjakjjaemmkaaPAExZ
import Derived.Test.YtccjakjjaemmkaaPAExmsgBare
import Derived.Test.YtccjakjjaemmkaaPAExoctet
namespace Go.Proofs.Ytccjakjjaemmkaa.PAE
open Go.RowKit Go.Proofs.YtccjakjjaemmkaaW.PrintWords Go.Proofs.YtccjakjjaemmkaaW.PrintLast Go.Proofs.YtccjakjjaemmkaaW.PrintMore
attribute [local go_sem] max2_int min2_int max_two min_two max_three min_three max_four min_four   -- for this text's walks alone
set_option linter.unusedVariables false
set_option linter.unusedSimpArgs false

/-! ### rrep_ack: function 68 -/
def rrep_ack.f (k : Nat) (a0 : ByteArray) : Option (Int × Int × Int × ByteArray × Int × Int × ByteArray × Int × Int × ByteArray × Int × ByteArray × Int × Int × Int × Int × Int × Int × Int × ByteArray × ByteArray × (List (S46)) × Int × ByteArray × (List (S48)) × Int × Int) := if (a0.size : Int) < 2 then (none) else (if 1 < (a0.size : Int) then (if (bt a0 1) = 0 then (if 2 ≤ (a0.size : Int) then ((ext_Get.f k (a0.extract 2 a0.size)).bind fun aX => (if aX.2.2 = 0 then (some (6, 0, 0, (⟨#[]⟩ : ByteArray), 0, 0, (⟨#[]⟩ : ByteArray), 0, 0, (⟨#[]⟩ : ByteArray), 0, (⟨#[]⟩ : ByteArray), 0, 0, 0, 0, 0, 0, 0, (⟨#[]⟩ : ByteArray), (⟨#[]⟩ : ByteArray), ([] : List (S46)), 0, (⟨#[]⟩ : ByteArray), aX.1, 0, 0)) else (none))) else (none)) else (none)) else (none))
theorem rrep_ack.mono : ∀ a0 k, LeO (rrep_ack.f k a0) (rrep_ack.f (k + 1) a0) := by
 intro a0 k
 unfold rrep_ack.f
 have m0 := ext_Get.mono
 exact Sq.mo
set_option maxRecDepth 100000 in
theorem rrep_ack.bd32 (v0 : Int) (kv : Option Addr) (n24 dz : Nat) : Try.prog.built 25 [(0, .int .i64 v0), (24, .slice kv n24 dz)] = some #[.int .i64 v0, .int .i64 0, .int .i64 0, .string ⟨#[]⟩, .int .i64 0, .int .i64 0, .string ⟨#[]⟩, .int .i64 0, .int .i64 0, .string ⟨#[]⟩, .int .i64 0, .string ⟨#[]⟩, .int .i64 0, .int .i64 0, .int .i64 0, .int .i64 0, .int .i64 0, .int .i64 0, .int .i64 0, .string ⟨#[]⟩, .string ⟨#[]⟩, .slice none 0 0, .int .i64 0, .string ⟨#[]⟩, .slice kv n24 dz] := by kernel_rfl
set_option maxHeartbeats 8000000 in
set_option maxRecDepth 100000 in
theorem rrep_ack.calls (k : Nat) (a0 : ByteArray) (r1 : Int) (r2 : Int) (r3 : Int) (r4 : ByteArray) (r5 : Int) (r6 : Int) (r7 : ByteArray) (r8 : Int) (r9 : Int) (r10 : ByteArray) (r11 : Int) (r12 : ByteArray) (r13 : Int) (r14 : Int) (r15 : Int) (r16 : Int) (r17 : Int) (r18 : Int) (r19 : Int) (r20 : ByteArray) (r21 : ByteArray) (r22 : List (S46)) (r23 : Int) (r24 : ByteArray) (r25 : List (S48)) (r26 : Int) (r27 : Int) (w : World) (h : rrep_ack.f k a0 = some (r1, r2, r3, r4, r5, r6, r7, r8, r9, r10, r11, r12, r13, r14, r15, r16, r17, r18, r19, r20, r21, r22, r23, r24, r25, r26, r27)) :
  Calls Try.prog 68 #[.string a0] w fun e w' => ∃ v21_ v24_ : Value, e = .returned (.tuple #[.agg #[.int .i64 r1, .int .i64 r2, .int .i64 r3, .string r4, .int .i64 r5, .int .i64 r6, .string r7, .int .i64 r8, .int .i64 r9, .string r10, .int .i64 r11, .string r12, .int .i64 r13, .int .i64 r14, .int .i64 r15, .int .i64 r16, .int .i64 r17, .int .i64 r18, .int .i64 r19, .string r20, .string r21, v21_, .int .i64 r23, .string r24, v24_], .int .i64 r26, .int .i64 r27]) ∧ Kd.R k46 46 w' w.heap.size (fun _ => True) v21_ r22 ∧ Kd.R k48 48 w' w.heap.size (fun _ => True) v24_ r25 ∧ Below w.heap.size w w' := by
 have dM := Try.underlying25
 have HB := Aside0.mk (Below.refl w.heap.size w)
 have H : (if (a0.size : Int) < 2 then (none) else (if 1 < (a0.size : Int) then (if (bt a0 1) = 0 then (if 2 ≤ (a0.size : Int) then ((ext_Get.f k (a0.extract 2 a0.size)).bind fun aX => (if aX.2.2 = 0 then (some (6, 0, 0, (⟨#[]⟩ : ByteArray), 0, 0, (⟨#[]⟩ : ByteArray), 0, 0, (⟨#[]⟩ : ByteArray), 0, (⟨#[]⟩ : ByteArray), 0, 0, 0, 0, 0, 0, 0, (⟨#[]⟩ : ByteArray), (⟨#[]⟩ : ByteArray), ([] : List (S46)), 0, (⟨#[]⟩ : ByteArray), aX.1, 0, 0)) else (none))) else (none)) else (none)) else (none))) = some (r1, r2, r3, r4, r5, r6, r7, r8, r9, r10, r11, r12, r13, r14, r15, r16, r17, r18, r19, r20, r21, r22, r23, r24, r25, r26, r27) := h
 clear h
 by_cases c2 : (a0.size : Int) < 2
 ·rw [if_pos c2] at H
  exact absurd H Z35
 ·rw [if_neg c2] at H
  have fR : decide ((a0.size : Int) < 2) = false := decide_eq_false c2
  have iX : decide (a0.size < 2) = false := decide_eq_false Z29
  clear c2
  by_cases c3 : 1 < (a0.size : Int)
  ·rw [if_pos c3] at H
   have fh : decide (1 < (a0.size : Int)) = true := decide_eq_true c3
   have hL : decide (1 < a0.size) = true := decide_eq_true Z29
   clear c3
   by_cases c5 : (bt a0 1) = 0
   ·rw [if_pos c5] at H
    have dx : ((bt a0 1) == 0) = true := beq_iff_eq.mpr c5
    have fJ : ((bt a0 1) != 0) = false := bne_eq_false_iff_eq.mpr c5
    clear c5
    by_cases c6 : 2 ≤ (a0.size : Int)
    ·rw [if_pos c6] at H
     have dW := eq_true c6
     have ft : decide (2 ≤ (a0.size : Int)) = true := decide_eq_true c6
     clear c6
     replace H := Option.bind_eq_some_iff.mp H
     obtain ⟨⟨aU, aY, bg⟩, ie, H⟩ := H
     replace H : (if bg = 0 then (some (6, 0, 0, (⟨#[]⟩ : ByteArray), 0, 0, (⟨#[]⟩ : ByteArray), 0, 0, (⟨#[]⟩ : ByteArray), 0, (⟨#[]⟩ : ByteArray), 0, 0, 0, 0, 0, 0, 0, (⟨#[]⟩ : ByteArray), (⟨#[]⟩ : ByteArray), ([] : List (S46)), 0, (⟨#[]⟩ : ByteArray), aU, 0, 0)) else (none)) = some (r1, r2, r3, r4, r5, r6, r7, r8, r9, r10, r11, r12, r13, r14, r15, r16, r17, r18, r19, r20, r21, r22, r23, r24, r25, r26, r27) := H
     have A7 := Aside0.mk ie
     clear ie
     by_cases c8 : bg = 0
     ·rw [if_pos c8] at H
      have fS : (bg == 0) = true := beq_iff_eq.mpr c8
      have gF : (bg != 0) = false := bne_eq_false_iff_eq.mpr c8
      clear c8
      simp only [Option.some.injEq, Prod.mk.injEq] at H
      obtain ⟨rfl, rfl, rfl, rfl, rfl, rfl, rfl, rfl, rfl, rfl, rfl, rfl, rfl, rfl, rfl, rfl, rfl, rfl, rfl, rfl, rfl, rfl, rfl, rfl, rfl, rfl, rfl⟩ := H
      go_enter Try.func68, Try.ntmps68
      go_wp2_with (first | ((with_reducible refine gate_dst (N := 32) rfl ?_); refine Pre.build_event 32 25 [(0, Go.Operand.const (Go.Value.int Go.IntKind.i64 6)), (24, Go.Operand.tmp 31)] rfl rfl rfl (rrep_ack.bd32 _ _ _ _) ?_) | ((with_reducible refine gate_dst (N := 2) rfl ?_); refine Sq.box 2 #[.int .i64 0, .int .i64 0, .int .i64 0, .string ⟨#[]⟩, .int .i64 0, .int .i64 0, .string ⟨#[]⟩, .int .i64 0, .int .i64 0, .string ⟨#[]⟩, .int .i64 0, .string ⟨#[]⟩, .int .i64 0, .int .i64 0, .int .i64 0, .int .i64 0, .int .i64 0, .int .i64 0, .int .i64 0, .string ⟨#[]⟩, .string ⟨#[]⟩, .slice none 0 0, .int .i64 0, .string ⟨#[]⟩, .slice none 0 0] 25 ?_; intro aE hg w9 hbox hb; have al := Aside0.mk (hbox); have cd := Aside0.mk (Sq.ge hg Z2); have bV := Aside0.mk (Sq.ge hg Z2); replace HB := Aside0.mk (below_step Z2 hb); clear hb hbox hg; have p4 : 0 ≤ (1 : Int) := Z29; have q4 : 1 < a0.size := (by have : (1 : Int) < (a0.size : Int) := of_decide_eq_true Z8; omega); have hx4 : ∀ h : 1 < a0.size, ((a0[1]'h).toNat : Int) = bt a0 1 := bt_at a0 1; clear p4; have qi4 : (1 < (a0.size : Int)) = True := eq_true (of_decide_eq_true Z8); replace q4 := eq_true q4) | ((with_reducible refine gate_callee (f := 59) rfl ?_); refine goesL_ (some 21) rfl rfl Try.func59 Z11 rfl #[.string (a0.extract 2 a0.size)] rfl Z4 ?_; (with_reducible refine (ext_Get.calls k (a0.extract 2 a0.size) aU aY bg _ A7.out).mono ?_); rintro e nF ⟨nG, rfl, ho0, hb⟩; refine ⟨_, rfl, ?_⟩; have gP := Aside0.mk (Kd.R_lower ho0 (below_size Z0)); replace al := Aside0.mk (blk_below (g := aE) Z3 hb); replace HB := Aside0.mk (below_step Z0 hb); clear hb ho0; obtain ⟨gX, gY, eo11⟩ := Kd.R_slice gP.out; subst eo11; have gs := cells_25 al.out) | ((with_reducible refine Pre.gate_store 25 rfl ?_); refine Pre.store_abs (cur := #[.int .i64 0, .int .i64 0, .int .i64 0, .string ⟨#[]⟩, .int .i64 0, .int .i64 0, .string ⟨#[]⟩, .int .i64 0, .int .i64 0, .string ⟨#[]⟩, .int .i64 0, .string ⟨#[]⟩, .int .i64 0, .int .i64 0, .int .i64 0, .int .i64 0, .int .i64 0, .int .i64 0, .int .i64 0, .string ⟨#[]⟩, .string ⟨#[]⟩, .slice none 0 0, .int .i64 0, .string ⟨#[]⟩, .slice none 0 0]) (e := 25) rfl rfl rfl Z14 Z14 Z3 Z11 Z14 Z14 ?_; intro hS hbS_ sS_; have bi : Aside0 (Kd.R k48 48 hS w.heap.size (fun _ => True) (.slice gX aU.length gY) aU) := ⟨Kd.R_mono (Pre.R_sets sS_ (Kd.R_types gP.out al.out Z21) (fun _ hk => hk.2)) (fun _ hk => trivial)⟩; have bp : Aside0 (hS.heap[aE]? = some (.cells #[.int .i64 6, .int .i64 0, .int .i64 0, .string ⟨#[]⟩, .int .i64 0, .int .i64 0, .string ⟨#[]⟩, .int .i64 0, .int .i64 0, .string ⟨#[]⟩, .int .i64 0, .string ⟨#[]⟩, .int .i64 0, .int .i64 0, .int .i64 0, .int .i64 0, .int .i64 0, .int .i64 0, .int .i64 0, .string ⟨#[]⟩, .string ⟨#[]⟩, .slice none 0 0, .int .i64 0, .string ⟨#[]⟩, .slice gX aU.length gY] 25 (0, 0))) := ⟨hbS_⟩; have bT : Aside0 (Below w.heap.size w hS) := ⟨sS_.below Z0 bV.out⟩; clear hbS_ sS_; replace gP := bi; replace al := bp; replace HB := bT; clear bi bp bT))
      refine bodyPost_ret (results_ctt rfl _ _ aE 25 #[.int .i64 6, .int .i64 0, .int .i64 0, .string ⟨#[]⟩, .int .i64 0, .int .i64 0, .string ⟨#[]⟩, .int .i64 0, .int .i64 0, .string ⟨#[]⟩, .int .i64 0, .string ⟨#[]⟩, .int .i64 0, .int .i64 0, .int .i64 0, .int .i64 0, .int .i64 0, .int .i64 0, .int .i64 0, .string ⟨#[]⟩, .string ⟨#[]⟩, .slice none 0 0, .int .i64 0, .string ⟨#[]⟩, .slice gX aU.length gY] (0, 0) _ rfl Z3 Try.underlying25 rfl Z11) rfl ?_
      exact ⟨_, _, Z6, Z62, by (with_reducible repeat (first | apply Kd.R_alloc | apply Kd.R_drewN | apply Kd.R_drew)); exact gP.out, Z0⟩
     ·rw [if_neg c8] at H
      exact absurd H Z35
    ·rw [if_neg c6] at H
     exact absurd H Z35
   ·rw [if_neg c5] at H
    exact absurd H Z35
  ·rw [if_neg c3] at H
   exact absurd H Z35

/-! ### rrep_Get: function 38 -/
def rrep_Get.j0 : Nat → ByteArray → Bool → Option (Int × Int × Int × ByteArray × Int × Int × ByteArray × Int × Int × ByteArray × Int × ByteArray × Int × Int × Int × Int × Int × Int × Int × ByteArray × ByteArray × (List (S46)) × Int × ByteArray × (List (S48)) × Int × Int)
 | 0, _, _ => none
 | k + 1, x0, oX => if oX = true then ((rrep_ack.f k x0).bind fun aX => (some (aX.1, aX.2.1, aX.2.2.1, aX.2.2.2.1, aX.2.2.2.2.1, aX.2.2.2.2.2.1, aX.2.2.2.2.2.2.1, aX.2.2.2.2.2.2.2.1, aX.2.2.2.2.2.2.2.2.1, aX.2.2.2.2.2.2.2.2.2.1, aX.2.2.2.2.2.2.2.2.2.2.1, aX.2.2.2.2.2.2.2.2.2.2.2.1, aX.2.2.2.2.2.2.2.2.2.2.2.2.1, aX.2.2.2.2.2.2.2.2.2.2.2.2.2.1, aX.2.2.2.2.2.2.2.2.2.2.2.2.2.2.1, aX.2.2.2.2.2.2.2.2.2.2.2.2.2.2.2.1, aX.2.2.2.2.2.2.2.2.2.2.2.2.2.2.2.2.1, aX.2.2.2.2.2.2.2.2.2.2.2.2.2.2.2.2.2.1, aX.2.2.2.2.2.2.2.2.2.2.2.2.2.2.2.2.2.2.1, aX.2.2.2.2.2.2.2.2.2.2.2.2.2.2.2.2.2.2.2.1, aX.2.2.2.2.2.2.2.2.2.2.2.2.2.2.2.2.2.2.2.2.1, aX.2.2.2.2.2.2.2.2.2.2.2.2.2.2.2.2.2.2.2.2.2.1, aX.2.2.2.2.2.2.2.2.2.2.2.2.2.2.2.2.2.2.2.2.2.2.1, aX.2.2.2.2.2.2.2.2.2.2.2.2.2.2.2.2.2.2.2.2.2.2.2.1, aX.2.2.2.2.2.2.2.2.2.2.2.2.2.2.2.2.2.2.2.2.2.2.2.2.1, aX.2.2.2.2.2.2.2.2.2.2.2.2.2.2.2.2.2.2.2.2.2.2.2.2.2.1, aX.2.2.2.2.2.2.2.2.2.2.2.2.2.2.2.2.2.2.2.2.2.2.2.2.2.2))) else (none)
def rrep_Get.f (k : Nat) (a0 : ByteArray) : Option (Int × Int × Int × ByteArray × Int × Int × ByteArray × Int × Int × ByteArray × Int × ByteArray × Int × Int × Int × Int × Int × Int × Int × ByteArray × ByteArray × (List (S46)) × Int × ByteArray × (List (S48)) × Int × Int) := if a0.toList = ([] : List UInt8) then (rrep_Get.j0 k a0 false) else (if 0 < (a0.size : Int) then (rrep_Get.j0 k a0 ((bt a0 0) == 4)) else (none))
theorem rrep_Get.mono_l : ∀ k, (∀ y0 y1, LeO (rrep_Get.j0 k y0 y1) (rrep_Get.j0 (k + 1) y0 y1))
 | 0 => Sq.mz
 | k + 1 => by
  have ih0 := rrep_Get.mono_l k
  ·intros
   unfold rrep_Get.j0
   have m0 := rrep_ack.mono
   exact Sq.mo
theorem rrep_Get.mono : ∀ a0 k, LeO (rrep_Get.f k a0) (rrep_Get.f (k + 1) a0) := by
 intro a0 k
 have ih0 := rrep_Get.mono_l k
 unfold rrep_Get.f
 have m0 := rrep_ack.mono
 exact Sq.mo
set_option maxRecDepth 100000 in
theorem rrep_Get.bd62 (v0 : Int) (iJ : Int) (v7 : Int) (hY : Int) (kv : Option Addr) (n24 dz : Nat) : Try.prog.built 25 [(0, .int .i64 v0), (15, .int .i64 iJ), (7, .int .i64 v7), (16, .int .i64 hY), (24, .slice kv n24 dz)] = some #[.int .i64 v0, .int .i64 0, .int .i64 0, .string ⟨#[]⟩, .int .i64 0, .int .i64 0, .string ⟨#[]⟩, .int .i64 v7, .int .i64 0, .string ⟨#[]⟩, .int .i64 0, .string ⟨#[]⟩, .int .i64 0, .int .i64 0, .int .i64 0, .int .i64 iJ, .int .i64 hY, .int .i64 0, .int .i64 0, .string ⟨#[]⟩, .string ⟨#[]⟩, .slice none 0 0, .int .i64 0, .string ⟨#[]⟩, .slice kv n24 dz] := by kernel_rfl
set_option maxHeartbeats 8000000 in
set_option maxRecDepth 100000 in
theorem rrep_Get.calls (k : Nat) (a0 : ByteArray) (r1 : Int) (r2 : Int) (r3 : Int) (r4 : ByteArray) (r5 : Int) (r6 : Int) (r7 : ByteArray) (r8 : Int) (r9 : Int) (r10 : ByteArray) (r11 : Int) (r12 : ByteArray) (r13 : Int) (r14 : Int) (r15 : Int) (r16 : Int) (r17 : Int) (r18 : Int) (r19 : Int) (r20 : ByteArray) (r21 : ByteArray) (r22 : List (S46)) (r23 : Int) (r24 : ByteArray) (r25 : List (S48)) (r26 : Int) (r27 : Int) (w : World) (h : rrep_Get.f k a0 = some (r1, r2, r3, r4, r5, r6, r7, r8, r9, r10, r11, r12, r13, r14, r15, r16, r17, r18, r19, r20, r21, r22, r23, r24, r25, r26, r27)) :
  Calls Try.prog 38 #[.string a0] w fun e w' => ∃ v21_ v24_ : Value, e = .returned (.tuple #[.agg #[.int .i64 r1, .int .i64 r2, .int .i64 r3, .string r4, .int .i64 r5, .int .i64 r6, .string r7, .int .i64 r8, .int .i64 r9, .string r10, .int .i64 r11, .string r12, .int .i64 r13, .int .i64 r14, .int .i64 r15, .int .i64 r16, .int .i64 r17, .int .i64 r18, .int .i64 r19, .string r20, .string r21, v21_, .int .i64 r23, .string r24, v24_], .int .i64 r26, .int .i64 r27]) ∧ Kd.R k46 46 w' w.heap.size (fun _ => True) v21_ r22 ∧ Kd.R k48 48 w' w.heap.size (fun _ => True) v24_ r25 ∧ Below w.heap.size w w' := by
 have dM := Try.underlying25
 have kZ := Try.underlying60
 have HB := Aside0.mk (Below.refl w.heap.size w)
 have H : (if a0.toList = ([] : List UInt8) then (rrep_Get.j0 k a0 false) else (if 0 < (a0.size : Int) then (rrep_Get.j0 k a0 ((bt a0 0) == 4)) else (none))) = some (r1, r2, r3, r4, r5, r6, r7, r8, r9, r10, r11, r12, r13, r14, r15, r16, r17, r18, r19, r20, r21, r22, r23, r24, r25, r26, r27) := h
 clear h
 have fT := Aside0.mk H
 clear H
 go_enter Try.func38, Try.ntmps38
 go_upto_region 1 with (first | ((with_reducible refine gate_dst (N := 62) rfl ?_); refine Pre.build_event 62 25 [(0, Go.Operand.const (Go.Value.int Go.IntKind.i64 4)), (15, Go.Operand.tmp 54), (7, Go.Operand.tmp 57), (16, Go.Operand.tmp 60), (24, Go.Operand.tmp 61)] rfl rfl rfl (rrep_Get.bd62 _ _ _ _ _ _ _) ?_) | ((with_reducible refine Pre.gate_load 25 rfl ?_); (try (refine gate_guard Z14 ?_; dsimp only)); refine Pre.load_event rfl rfl rfl Z14 Z1 Try.underlying25 rfl Z11 ?_) | ((with_reducible refine gate_dst (N := 2) rfl ?_); refine Sq.box 2 #[.int .i64 0, .int .i64 0, .int .i64 0, .string ⟨#[]⟩, .int .i64 0, .int .i64 0, .string ⟨#[]⟩, .int .i64 0, .int .i64 0, .string ⟨#[]⟩, .int .i64 0, .string ⟨#[]⟩, .int .i64 0, .int .i64 0, .int .i64 0, .int .i64 0, .int .i64 0, .int .i64 0, .int .i64 0, .string ⟨#[]⟩, .string ⟨#[]⟩, .slice none 0 0, .int .i64 0, .string ⟨#[]⟩, .slice none 0 0] 25 ?_; intro aE hg w3 hbox hb; have al := Aside0.mk (hbox); have cd := Aside0.mk (Sq.ge hg Z2); have bV := Aside0.mk (Sq.ge hg Z2); replace HB := Aside0.mk (below_step Z2 hb); clear hb hbox hg))
 (try simp only [Act.put, Sq.s1, Sq.s2, Sq.s3])
 go_cut [17] (fun jO wc => ∃ (kq : Nat) (iv : Bool), jO = .bool iv ∧ Aside0 (rrep_Get.j0 kq a0 iv = some (r1, r2, r3, r4, r5, r6, r7, r8, r9, r10, r11, r12, r13, r14, r15, r16, r17, r18, r19, r20, r21, r22, r23, r24, r25, r26, r27)) ∧ Aside0 (kq ≤ k) ∧ Aside0 (wc.heap[aE]? = some (.cells #[.int .i64 0, .int .i64 0, .int .i64 0, .string ⟨#[]⟩, .int .i64 0, .int .i64 0, .string ⟨#[]⟩, .int .i64 0, .int .i64 0, .string ⟨#[]⟩, .int .i64 0, .string ⟨#[]⟩, .int .i64 0, .int .i64 0, .int .i64 0, .int .i64 0, .int .i64 0, .int .i64 0, .int .i64 0, .string ⟨#[]⟩, .string ⟨#[]⟩, (.slice none 0 0), .int .i64 0, .string ⟨#[]⟩, (.slice none 0 0)] 25 (0, 0))) ∧ Aside0 (Below w.heap.size w wc))
 case first =>
  have H := fT.out
  clear fT
  by_cases c4 : a0.toList = ([] : List UInt8)
  ·rw [if_pos c4] at H
   have cf : (a0.toList == ([] : List UInt8)) = true := beq_iff_eq.mpr c4
   have fd : (a0.toList != ([] : List UInt8)) = false := bne_eq_false_iff_eq.mpr c4
   clear c4
   (first | rw [cf] | (simp only [i64_w, i32_w]; rw [cf]) | skip)
   have H' := Aside0.mk H
   clear H
   go_wp2_with (first | ((with_reducible refine gate_dst (N := 62) rfl ?_); refine Pre.build_event 62 25 [(0, Go.Operand.const (Go.Value.int Go.IntKind.i64 4)), (15, Go.Operand.tmp 54), (7, Go.Operand.tmp 57), (16, Go.Operand.tmp 60), (24, Go.Operand.tmp 61)] rfl rfl rfl (rrep_Get.bd62 _ _ _ _ _ _ _) ?_) | ((with_reducible refine Pre.gate_load 25 rfl ?_); (try (refine gate_guard Z14 ?_; dsimp only)); refine Pre.load_event rfl rfl rfl Z14 Z1 Try.underlying25 rfl Z11 ?_))
   go_meet
   case rel => exact ⟨_, (false), Z10, H', ⟨Z20⟩, ⟨Z3⟩, ⟨Z0⟩⟩
  ·rw [if_neg c4] at H
   have cf : (a0.toList == ([] : List UInt8)) = false := beq_eq_false_iff_ne.mpr c4
   have fd : (a0.toList != ([] : List UInt8)) = true := bne_iff_ne.mpr c4
   (first | rw [cf] | (simp only [i64_w, i32_w]; rw [cf]) | skip)
   by_cases c5 : 0 < (a0.size : Int)
   ·rw [if_pos c5] at H
    have dx : decide (0 < (a0.size : Int)) = true := decide_eq_true c5
    have fJ : decide (0 < a0.size) = true := decide_eq_true Z29
    clear c5
    have H' := Aside0.mk H
    clear H
    have p6 : 0 ≤ (0 : Int) := Z29
    have q6 : 0 < a0.size := (by have : (0 : Int) < (a0.size : Int) := of_decide_eq_true Z8; omega)
    have hx6 : ∀ h : 0 < a0.size, ((a0[0]'h).toNat : Int) = bt a0 0 := bt_at a0 0
    clear p6
    have qi6 : (0 < (a0.size : Int)) = True := eq_true (of_decide_eq_true Z8)
    replace q6 := eq_true q6
    go_wp2_with (first | ((with_reducible refine gate_dst (N := 62) rfl ?_); refine Pre.build_event 62 25 [(0, Go.Operand.const (Go.Value.int Go.IntKind.i64 4)), (15, Go.Operand.tmp 54), (7, Go.Operand.tmp 57), (16, Go.Operand.tmp 60), (24, Go.Operand.tmp 61)] rfl rfl rfl (rrep_Get.bd62 _ _ _ _ _ _ _) ?_) | ((with_reducible refine Pre.gate_load 25 rfl ?_); (try (refine gate_guard Z14 ?_; dsimp only)); refine Pre.load_event rfl rfl rfl Z14 Z1 Try.underlying25 rfl Z11 ?_))
    go_meet
    case rel => exact ⟨_, (((bt a0 0) == 4)), Z10, H', ⟨Z20⟩, ⟨Z3⟩, ⟨Z0⟩⟩
   ·rw [if_neg c5] at H
    exact absurd H Z35
 case rest =>
  clear fT
  try clear c3
  obtain ⟨kq, iv, rfl, HA, hT, al, HB⟩ := hcut
  cases kq with
  | zero => exact absurd HA.out (by simp [rrep_Get.j0])
  | succ kj1 =>
   have H := HA.out
   clear HA
   simp only [rrep_Get.j0] at H
   by_cases c7 : iv = true
   ·subst c7
    have H1 : ((rrep_ack.f kj1 a0).bind fun aX => (some (aX.1, aX.2.1, aX.2.2.1, aX.2.2.2.1, aX.2.2.2.2.1, aX.2.2.2.2.2.1, aX.2.2.2.2.2.2.1, aX.2.2.2.2.2.2.2.1, aX.2.2.2.2.2.2.2.2.1, aX.2.2.2.2.2.2.2.2.2.1, aX.2.2.2.2.2.2.2.2.2.2.1, aX.2.2.2.2.2.2.2.2.2.2.2.1, aX.2.2.2.2.2.2.2.2.2.2.2.2.1, aX.2.2.2.2.2.2.2.2.2.2.2.2.2.1, aX.2.2.2.2.2.2.2.2.2.2.2.2.2.2.1, aX.2.2.2.2.2.2.2.2.2.2.2.2.2.2.2.1, aX.2.2.2.2.2.2.2.2.2.2.2.2.2.2.2.2.1, aX.2.2.2.2.2.2.2.2.2.2.2.2.2.2.2.2.2.1, aX.2.2.2.2.2.2.2.2.2.2.2.2.2.2.2.2.2.2.1, aX.2.2.2.2.2.2.2.2.2.2.2.2.2.2.2.2.2.2.2.1, aX.2.2.2.2.2.2.2.2.2.2.2.2.2.2.2.2.2.2.2.2.1, aX.2.2.2.2.2.2.2.2.2.2.2.2.2.2.2.2.2.2.2.2.2.1, aX.2.2.2.2.2.2.2.2.2.2.2.2.2.2.2.2.2.2.2.2.2.2.1, aX.2.2.2.2.2.2.2.2.2.2.2.2.2.2.2.2.2.2.2.2.2.2.2.1, aX.2.2.2.2.2.2.2.2.2.2.2.2.2.2.2.2.2.2.2.2.2.2.2.2.1, aX.2.2.2.2.2.2.2.2.2.2.2.2.2.2.2.2.2.2.2.2.2.2.2.2.2.1, aX.2.2.2.2.2.2.2.2.2.2.2.2.2.2.2.2.2.2.2.2.2.2.2.2.2.2))) = some (r1, r2, r3, r4, r5, r6, r7, r8, r9, r10, r11, r12, r13, r14, r15, r16, r17, r18, r19, r20, r21, r22, r23, r24, r25, r26, r27) := by rw [if_pos rfl] at H; exact H
    clear H
    have H := H1
    clear H1
    replace H := Option.bind_eq_some_iff.mp H
    obtain ⟨⟨aU, aY, bg, bH, aW, bX, aH, aQ, ba, cP, dX, dg, fi, dD, dU, eT, fj, fk, fl, fm, eU, gu, fn, eV, gv, gw, jl⟩, kw, H⟩ := H
    replace H : (some (aU, aY, bg, bH, aW, bX, aH, aQ, ba, cP, dX, dg, fi, dD, dU, eT, fj, fk, fl, fm, eU, gu, fn, eV, gv, gw, jl)) = some (r1, r2, r3, r4, r5, r6, r7, r8, r9, r10, r11, r12, r13, r14, r15, r16, r17, r18, r19, r20, r21, r22, r23, r24, r25, r26, r27) := H
    have A8 := Aside0.mk kw
    clear kw
    simp only [Option.some.injEq, Prod.mk.injEq] at H
    obtain ⟨rfl, rfl, rfl, rfl, rfl, rfl, rfl, rfl, rfl, rfl, rfl, rfl, rfl, rfl, rfl, rfl, rfl, rfl, rfl, rfl, rfl, rfl, rfl, rfl, rfl, rfl, rfl⟩ := H
    go_wp2_with (first | ((with_reducible refine gate_dst (N := 62) rfl ?_); refine Pre.build_event 62 25 [(0, Go.Operand.const (Go.Value.int Go.IntKind.i64 4)), (15, Go.Operand.tmp 54), (7, Go.Operand.tmp 57), (16, Go.Operand.tmp 60), (24, Go.Operand.tmp 61)] rfl rfl rfl (rrep_Get.bd62 _ _ _ _ _ _ _) ?_) | ((with_reducible refine Pre.gate_load 25 rfl ?_); (try (refine gate_guard Z14 ?_; dsimp only)); refine Pre.load_event rfl rfl rfl Z14 Z1 Try.underlying25 rfl Z11 ?_) | ((with_reducible refine gate_callee (f := 68) rfl ?_); refine goesL_ (some 19) rfl rfl Try.func68 Z11 rfl #[.string a0] rfl Z4 ?_; (with_reducible refine (rrep_ack.calls kj1 a0 aU aY bg bH aW bX aH aQ ba cP dX dg fi dD dU eT fj fk fl fm eU gu fn eV gv gw jl _ A8.out).mono ?_); rintro e w9 ⟨nH, nI, rfl, ho0, ho1, hb⟩; refine ⟨_, rfl, ?_⟩; have fM := Aside0.mk (Kd.R_lower ho0 (below_size Z0)); have fN := Aside0.mk (Kd.R_lower ho1 (below_size Z0)); replace al := Aside0.mk (blk_below (g := aE) Z3 hb); replace HB := Aside0.mk (below_step Z0 hb); clear hb ho0 ho1; have fL := cells_25 al.out; obtain ⟨gX, gY, eo11⟩ := Kd.R_slice fM.out; subst eo11; obtain ⟨mc, jV, eo12⟩ := Kd.R_slice fN.out; subst eo12) | ((with_reducible refine Pre.gate_store 25 rfl ?_); refine Pre.store_abs (cur := #[.int .i64 0, .int .i64 0, .int .i64 0, .string ⟨#[]⟩, .int .i64 0, .int .i64 0, .string ⟨#[]⟩, .int .i64 0, .int .i64 0, .string ⟨#[]⟩, .int .i64 0, .string ⟨#[]⟩, .int .i64 0, .int .i64 0, .int .i64 0, .int .i64 0, .int .i64 0, .int .i64 0, .int .i64 0, .string ⟨#[]⟩, .string ⟨#[]⟩, .slice none 0 0, .int .i64 0, .string ⟨#[]⟩, .slice none 0 0]) (e := 25) rfl rfl rfl Z14 Z14 Z3 Z11 Z14 Z14 ?_; intro hS hbS_ sS_; have bi : Aside0 (Kd.R k46 46 hS w.heap.size (fun _ => True) (.slice gX gu.length gY) gu) := ⟨Kd.R_mono (Pre.R_sets sS_ (Kd.R_types fM.out al.out Z21) (fun _ hk => hk.2)) (fun _ hk => trivial)⟩; have bp : Aside0 (Kd.R k48 48 hS w.heap.size (fun _ => True) (.slice mc gv.length jV) gv) := ⟨Kd.R_mono (Pre.R_sets sS_ (Kd.R_types fN.out al.out Z21) (fun _ hk => hk.2)) (fun _ hk => trivial)⟩; have bT : Aside0 (hS.heap[aE]? = some (.cells #[.int .i64 aU, .int .i64 aY, .int .i64 bg, .string bH, .int .i64 aW, .int .i64 bX, .string aH, .int .i64 aQ, .int .i64 ba, .string cP, .int .i64 dX, .string dg, .int .i64 fi, .int .i64 dD, .int .i64 dU, .int .i64 eT, .int .i64 fj, .int .i64 fk, .int .i64 fl, .string fm, .string eU, .slice gX gu.length gY, .int .i64 fn, .string eV, .slice mc gv.length jV] 25 (0, 0))) := ⟨hbS_⟩; have kx : Aside0 (Below w.heap.size w hS) := ⟨sS_.below Z0 bV.out⟩; clear hbS_ sS_; replace fM := bi; replace fN := bp; replace al := bT; replace HB := kx; clear bi bp bT kx))
    refine bodyPost_ret (results_ctt rfl _ _ aE 25 _ (0, 0) _ rfl Z3 Try.underlying25 rfl Z11) rfl ?_
    exact ⟨_, _, Z6, by (with_reducible repeat (first | apply Kd.R_alloc | apply Kd.R_drewN | apply Kd.R_drew)); exact fM.out, by (with_reducible repeat (first | apply Kd.R_alloc | apply Kd.R_drewN | apply Kd.R_drew)); exact fN.out, Z0⟩
   ·replace c7 := Bool.eq_false_iff.mpr c7
    subst c7
    have H1 : (none) = some (r1, r2, r3, r4, r5, r6, r7, r8, r9, r10, r11, r12, r13, r14, r15, r16, r17, r18, r19, r20, r21, r22, r23, r24, r25, r26, r27) := by rw [if_neg (show ¬ (false = true) by decide)] at H; exact H
    clear H
    have H := H1
    clear H1
    exact absurd H Z35

/-! ### rrep_Right: function 36 -/
def rrep_Right.j0 : Nat → Bool → Int → Int → Int → ByteArray → Int → Int → ByteArray → Int → Int → ByteArray → Int → ByteArray → Int → Int → Int → Int → Int → Int → Int → ByteArray → ByteArray → List (S46) → Int → ByteArray → List (S48) → Option (Bool)
 | 0, _, _, _, _, _, _, _, _, _, _, _, _, _, _, _, _, _, _, _, _, _, _, _, _, _, _ => none
 | k + 1, jh, bq, bI, bJ, bK, bL, bM, bN, br, bO, bP, bQ, bD, bs, bA, bv, bo, bu, bB, bE, bw, bx, bf, bF, bG, bj => if jh = true then (some false) else (if bq = 6 then (some true) else (if bq = 4 then (if bo ≥ 0 then (if bo < 4 then (if br ≥ 0 then (if br < 32 then ((octet_Fits.f bu 1).bind fun bg => (if bg = true then ((octet_Fits.f bs 4).bind fun bH => (if bH = true then ((octet_Fits.f bv 4).bind fun aW => (if aW = true then (if (bw.size : Int) = 4 then (some ((bx.size : Int) == 4)) else (some false)) else (some false))) else (some false))) else (some false))) else (some false)) else (some false)) else (some false)) else (some false)) else (some false)))
def rrep_Right.f (k : Nat) (aD : Int) (aw : Int) (ax : Int) (au : ByteArray) (aA : Int) (ay : Int) (av : ByteArray) (ar : Int) (aC : Int) (az : ByteArray) (ao : Int) (am : ByteArray) (ah : Int) (aj : Int) (ak : Int) (ae : Int) (ag : Int) (ai : Int) (an : Int) (aa : ByteArray) (ab : ByteArray) (ac : List (S46)) (ap : Int) (aq : ByteArray) (af : List (S48)) : Option (Bool) := (msg_Bare.f aD aw ax au aA ay av ar aC az ao am ah aj ak ae ag ai an aa ab ac ap aq af).bind fun aU => (if aU = true then ((ext_Right.f k af).bind fun aY => (rrep_Right.j0 k (!aY) aD aw ax au aA ay av ar aC az ao am ah aj ak ae ag ai an aa ab ac ap aq af)) else (rrep_Right.j0 k true aD aw ax au aA ay av ar aC az ao am ah aj ak ae ag ai an aa ab ac ap aq af))
theorem rrep_Right.mono_l : ∀ k, (∀ y0 y1 y2 y3 y4 y5 y6 y7 y8 y9 er es et eu ev ew ex ey ez eA eB eC eD eE eF eG, LeO (rrep_Right.j0 k y0 y1 y2 y3 y4 y5 y6 y7 y8 y9 er es et eu ev ew ex ey ez eA eB eC eD eE eF eG) (rrep_Right.j0 (k + 1) y0 y1 y2 y3 y4 y5 y6 y7 y8 y9 er es et eu ev ew ex ey ez eA eB eC eD eE eF eG))
 | 0 => Sq.mz
 | k + 1 => by
  have ih0 := rrep_Right.mono_l k
  ·intros
   unfold rrep_Right.j0
   have m0 := ext_Right.mono
   exact Sq.mo
theorem rrep_Right.mono : ∀ a0 a1 a2 a3 a4 a5 a6 a7 a8 a9 dY dZ ea eb ec ed ee ef eg eh ei ej ek el em k, LeO (rrep_Right.f k a0 a1 a2 a3 a4 a5 a6 a7 a8 a9 dY dZ ea eb ec ed ee ef eg eh ei ej ek el em) (rrep_Right.f (k + 1) a0 a1 a2 a3 a4 a5 a6 a7 a8 a9 dY dZ ea eb ec ed ee ef eg eh ei ej ek el em) := by
 intro a0 a1 a2 a3 a4 a5 a6 a7 a8 a9 dY dZ ea eb ec ed ee ef eg eh ei ej ek el em k
 have ih0 := rrep_Right.mono_l k
 unfold rrep_Right.f
 have m0 := ext_Right.mono
 exact Sq.mo

set_option maxHeartbeats 8000000 in
set_option maxRecDepth 100000 in
theorem rrep_Right.calls (k : Nat) (aD : Int) (aw : Int) (ax : Int) (au : ByteArray) (aA : Int) (ay : Int) (av : ByteArray) (ar : Int) (aC : Int) (az : ByteArray) (ao : Int) (am : ByteArray) (ah : Int) (aj : Int) (ak : Int) (ae : Int) (ag : Int) (ai : Int) (an : Int) (aa : ByteArray) (ab : ByteArray) (aP : Option Addr) (aN : Nat) (ac : List (S46)) (ap : Int) (aq : ByteArray) (aJ : Option Addr) (aK : Nat) (af : List (S48)) (r : Bool) (w : World) (bk : Kd.C k46 w aP ac.length ac) (bl : ac.length ≤ aN) (bm : Kd.C k48 w aJ af.length af) (bn : af.length ≤ aK) (h : rrep_Right.f k aD aw ax au aA ay av ar aC az ao am ah aj ak ae ag ai an aa ab ac ap aq af = some r) :
  Calls Try.prog 36 #[.agg #[.int .i64 aD, .int .i64 aw, .int .i64 ax, .string au, .int .i64 aA, .int .i64 ay, .string av, .int .i64 ar, .int .i64 aC, .string az, .int .i64 ao, .string am, .int .i64 ah, .int .i64 aj, .int .i64 ak, .int .i64 ae, .int .i64 ag, .int .i64 ai, .int .i64 an, .string aa, .string ab, .slice aP ac.length aN, .int .i64 ap, .string aq, .slice aJ af.length aK]] w fun e w' => e = .returned (.bool r) ∧ Below w.heap.size w w' := by
 have dM := Try.underlying25
 have cc := Aside0.mk bk
 have aZ := Aside0.mk bl
 clear bk bl
 have bZ := Aside0.mk bm
 have aT := Aside0.mk bn
 clear bm bn
 have HB := Aside0.mk (Below.refl w.heap.size w)
 have H : ((msg_Bare.f aD aw ax au aA ay av ar aC az ao am ah aj ak ae ag ai an aa ab ac ap aq af).bind fun aU => (if aU = true then ((ext_Right.f k af).bind fun aY => (rrep_Right.j0 k (!aY) aD aw ax au aA ay av ar aC az ao am ah aj ak ae ag ai an aa ab ac ap aq af)) else (rrep_Right.j0 k true aD aw ax au aA ay av ar aC az ao am ah aj ak ae ag ai an aa ab ac ap aq af))) = some r := h
 clear h
 have fT := Aside0.mk H
 clear H
 go_enter Try.func36, Try.ntmps36
 go_upto_region 1 with (first | ((with_reducible refine Pre.gate_load 25 rfl ?_); (try (refine gate_guard Z14 ?_; dsimp only)); refine Pre.load_event rfl rfl rfl Z14 Z1 Try.underlying25 rfl Z11 ?_) | ((with_reducible refine gate_dst (N := 1) rfl ?_); (try (refine gate_guard Z14 ?_; dsimp only)); refine Sq.box 1 #[.int .i64 aD, .int .i64 aw, .int .i64 ax, .string au, .int .i64 aA, .int .i64 ay, .string av, .int .i64 ar, .int .i64 aC, .string az, .int .i64 ao, .string am, .int .i64 ah, .int .i64 aj, .int .i64 ak, .int .i64 ae, .int .i64 ag, .int .i64 ai, .int .i64 an, .string aa, .string ab, .slice aP ac.length aN, .int .i64 ap, .string aq, .slice aJ af.length aK] 25 ?_; intro aE hg w3 hbox hb; have al := Aside0.mk (hbox); have cd := Aside0.mk (Sq.ge hg Z2); have bV := Aside0.mk (Sq.ge hg Z2); replace HB := Aside0.mk (below_step Z2 hb); clear hb hbox hg))
 (try simp only [Act.put, Sq.s1, Sq.s2, Sq.s3])
 go_cut [11] (fun iq wc => ∃ (kq : Nat) (ce : Bool), iq = .bool ce ∧ Aside0 (rrep_Right.j0 kq ce aD aw ax au aA ay av ar aC az ao am ah aj ak ae ag ai an aa ab ac ap aq af = some r) ∧ Aside0 (kq ≤ k) ∧ Aside0 (wc.heap[aE]? = some (.cells #[.int .i64 aD, .int .i64 aw, .int .i64 ax, .string au, .int .i64 aA, .int .i64 ay, .string av, .int .i64 ar, .int .i64 aC, .string az, .int .i64 ao, .string am, .int .i64 ah, .int .i64 aj, .int .i64 ak, .int .i64 ae, .int .i64 ag, .int .i64 ai, .int .i64 an, .string aa, .string ab, (.slice aP ac.length aN), .int .i64 ap, .string aq, (.slice aJ af.length aK)] 25 (0, 0))) ∧ Aside0 (Below w.heap.size w wc))
 case first =>
  have H := fT.out
  clear fT
  replace H := Option.bind_eq_some_iff.mp H
  obtain ⟨aU, gl, H⟩ := H
  replace H : (if aU = true then ((ext_Right.f k af).bind fun aY => (rrep_Right.j0 k (!aY) aD aw ax au aA ay av ar aC az ao am ah aj ak ae ag ai an aa ab ac ap aq af)) else (rrep_Right.j0 k true aD aw ax au aA ay av ar aC az ao am ah aj ak ae ag ai an aa ab ac ap aq af)) = some r := H
  have A4 := Aside0.mk gl
  clear gl
  by_cases c5 : aU = true
  ·subst c5
   replace H := Sq.itT H
   replace H := Option.bind_eq_some_iff.mp H
   obtain ⟨aY, hD, H⟩ := H
   replace H : (rrep_Right.j0 k (!aY) aD aw ax au aA ay av ar aC az ao am ah aj ak ae ag ai an aa ab ac ap aq af) = some r := H
   have A6 := Aside0.mk hD
   clear hD
   have H' := Aside0.mk H
   clear H
   have iI := cells_25 al.out
   go_wp2_with (first | ((with_reducible refine Pre.gate_load 25 rfl ?_); (try (refine gate_guard Z14 ?_; dsimp only)); refine Pre.load_event rfl rfl rfl Z14 Z1 Try.underlying25 rfl Z11 ?_) | ((with_reducible refine gate_callee (f := 53) rfl ?_); refine goesL_ (some 4) rfl rfl Try.func53 Z11 rfl #[.agg #[.int .i64 aD, .int .i64 aw, .int .i64 ax, .string au, .int .i64 aA, .int .i64 ay, .string av, .int .i64 ar, .int .i64 aC, .string az, .int .i64 ao, .string am, .int .i64 ah, .int .i64 aj, .int .i64 ak, .int .i64 ae, .int .i64 ag, .int .i64 ai, .int .i64 an, .string aa, .string ab, .slice aP ac.length aN, .int .i64 ap, .string aq, .slice aJ af.length aK]] rfl Z4 ?_; (with_reducible refine (msg_Bare.calls aD aw ax au aA ay av ar aC az ao am ah aj ak ae ag ai an aa ab _ _ ac ap aq _ _ af true _ ?side1 ?side2 ?side3 ?side4 A4.out).mono ?_); (case side1 => exact Z7); (case side2 => exact aZ.out); (case side3 => exact Z5); (case side4 => exact aT.out); rintro e w8 ⟨rfl, hb⟩; refine ⟨_, rfl, ?_⟩; replace al := Aside0.mk (blk_below (g := aE) Z3 hb); replace HB := Aside0.mk (below_step Z0 hb); clear hb; have ji := cells_25 al.out) | (go_at_call 55; (with_reducible refine (ext_Right.calls k _ _ af aY _ ?side1 ?side2 A6.out).mono ?_); (case side1 => exact Z5); (case side2 => exact aT.out); rintro e nF ⟨rfl, hb⟩; replace al := Aside0.mk (blk_below (g := aE) Z3 hb); replace HB := Aside0.mk (below_step Z0 hb); clear hb))
   go_meet
   case rel => exact ⟨_, (!aY), Z10, H', ⟨Z20⟩, ⟨Z3⟩, ⟨Z0⟩⟩
  ·replace c5 := Bool.eq_false_iff.mpr c5
   subst c5
   replace H := Sq.itF H
   have H' := Aside0.mk H
   clear H
   have jm := cells_25 al.out
   go_wp2_with (first | ((with_reducible refine Pre.gate_load 25 rfl ?_); (try (refine gate_guard Z14 ?_; dsimp only)); refine Pre.load_event rfl rfl rfl Z14 Z1 Try.underlying25 rfl Z11 ?_) | ((with_reducible refine gate_callee (f := 53) rfl ?_); refine goesL_ (some 4) rfl rfl Try.func53 Z11 rfl #[.agg #[.int .i64 aD, .int .i64 aw, .int .i64 ax, .string au, .int .i64 aA, .int .i64 ay, .string av, .int .i64 ar, .int .i64 aC, .string az, .int .i64 ao, .string am, .int .i64 ah, .int .i64 aj, .int .i64 ak, .int .i64 ae, .int .i64 ag, .int .i64 ai, .int .i64 an, .string aa, .string ab, .slice aP ac.length aN, .int .i64 ap, .string aq, .slice aJ af.length aK]] rfl Z4 ?_; (with_reducible refine (msg_Bare.calls aD aw ax au aA ay av ar aC az ao am ah aj ak ae ag ai an aa ab _ _ ac ap aq _ _ af false _ ?side1 ?side2 ?side3 ?side4 A4.out).mono ?_); (case side1 => exact Z7); (case side2 => exact aZ.out); (case side3 => exact Z5); (case side4 => exact aT.out); rintro e ky ⟨rfl, hb⟩; refine ⟨_, rfl, ?_⟩; replace al := Aside0.mk (blk_below (g := aE) Z3 hb); replace HB := Aside0.mk (below_step Z0 hb); clear hb))
   go_meet
   case rel => exact ⟨_, (true), Z10, H', ⟨Z20⟩, ⟨Z3⟩, ⟨Z0⟩⟩
 case rest =>
  clear fT
  try clear c3
  obtain ⟨kq, ce, rfl, HA, hT, al, HB⟩ := hcut
  cases kq with
  | zero => exact absurd HA.out (by simp [rrep_Right.j0])
  | succ kj1 =>
   have H := HA.out
   clear HA
   simp only [rrep_Right.j0] at H
   by_cases dB : ce = true
   ·subst dB
    replace H := Sq.itT H
    obtain rfl := Option.some.inj H
    go_wp2_with (first | ((with_reducible refine Pre.gate_load 25 rfl ?_); (try (refine gate_guard Z14 ?_; dsimp only)); refine Pre.load_event rfl rfl rfl Z14 Z1 Try.underlying25 rfl Z11 ?_))
    go_ret
    exact ⟨Z6, Z0⟩
   ·replace dB := Bool.eq_false_iff.mpr dB
    subst dB
    replace H := Sq.itF H
    by_cases dQ : aD = 6
    ·rw [if_pos dQ] at H
     have il : (aD == 6) = true := beq_iff_eq.mpr dQ
     have im : (aD != 6) = false := bne_eq_false_iff_eq.mpr dQ
     clear dQ
     obtain rfl := Option.some.inj H
     have md := cells_25 al.out
     go_wp2_with (first | ((with_reducible refine Pre.gate_load 25 rfl ?_); (try (refine gate_guard Z14 ?_; dsimp only)); refine Pre.load_event rfl rfl rfl Z14 Z1 Try.underlying25 rfl Z11 ?_))
     go_ret
     exact ⟨Z6, Z0⟩
    ·rw [if_neg dQ] at H
     have il : (aD == 6) = false := beq_eq_false_iff_ne.mpr dQ
     have im : (aD != 6) = true := bne_iff_ne.mpr dQ
     by_cases dy : aD = 4
     ·rw [if_pos dy] at H
      have eP : (aD == 4) = true := beq_iff_eq.mpr dy
      have fV : (aD != 4) = false := bne_eq_false_iff_eq.mpr dy
      clear dy
      by_cases eM : ae ≥ 0
      ·rw [if_pos eM] at H
       have fW : decide (0 ≤ ae) = true := decide_eq_true eM
       clear eM
       by_cases ep : ae < 4
       ·rw [if_pos ep] at H
        have fy : decide (ae < 4) = true := decide_eq_true ep
        clear ep
        by_cases eN : ar ≥ 0
        ·rw [if_pos eN] at H
         have fz : decide (0 ≤ ar) = true := decide_eq_true eN
         clear eN
         by_cases gZ : ar < 32
         ·rw [if_pos gZ] at H
          have jn : decide (ar < 32) = true := decide_eq_true gZ
          clear gZ
          replace H := Option.bind_eq_some_iff.mp H
          obtain ⟨bg, jo, H⟩ := H
          replace H : (if bg = true then ((octet_Fits.f ah 4).bind fun bH => (if bH = true then ((octet_Fits.f ak 4).bind fun aW => (if aW = true then (if (aa.size : Int) = 4 then (some ((ab.size : Int) == 4)) else (some false)) else (some false))) else (some false))) else (some false)) = some r := H
          have dR := Aside0.mk jo
          clear jo
          by_cases hl : bg = true
          ·subst hl
           replace H := Sq.itT H
           replace H := Option.bind_eq_some_iff.mp H
           obtain ⟨bH, jp, H⟩ := H
           replace H : (if bH = true then ((octet_Fits.f ak 4).bind fun aW => (if aW = true then (if (aa.size : Int) = 4 then (some ((ab.size : Int) == 4)) else (some false)) else (some false))) else (some false)) = some r := H
           have lm := Aside0.mk jp
           clear jp
           by_cases dz : bH = true
           ·subst dz
            replace H := Sq.itT H
            replace H := Option.bind_eq_some_iff.mp H
            obtain ⟨aW, me, H⟩ := H
            replace H : (if aW = true then (if (aa.size : Int) = 4 then (some ((ab.size : Int) == 4)) else (some false)) else (some false)) = some r := H
            have nJ := Aside0.mk me
            clear me
            by_cases iO : aW = true
            ·subst iO
             replace H := Sq.itT H
             by_cases la : (aa.size : Int) = 4
             ·rw [if_pos la] at H
              have mf : ((aa.size : Int) == 4) = true := beq_iff_eq.mpr la
              have mg : ((aa.size : Int) != 4) = false := bne_eq_false_iff_eq.mpr la
              clear la
              obtain rfl := Option.some.inj H
              have ir := cells_25 al.out
              go_wp2_with (first | ((with_reducible refine Pre.gate_load 25 rfl ?_); (try (refine gate_guard Z14 ?_; dsimp only)); refine Pre.load_event rfl rfl rfl Z14 Z1 Try.underlying25 rfl Z11 ?_) | (go_at_call 54; (with_reducible refine (octet_Fits.calls ag 1 true _ dR.out).mono ?_); rintro e w' ⟨rfl, ⟨nd, rfl⟩⟩) | (go_at_call 54; (with_reducible refine (octet_Fits.calls ah 4 true _ lm.out).mono ?_); rintro e w' ⟨rfl, ⟨nd, rfl⟩⟩) | (go_at_call 54; (with_reducible refine (octet_Fits.calls ak 4 true _ nJ.out).mono ?_); rintro e w' ⟨rfl, ⟨nd, rfl⟩⟩))
              go_ret
              exact ⟨Z6, Z0⟩
             ·rw [if_neg la] at H
              have mf : ((aa.size : Int) == 4) = false := beq_eq_false_iff_ne.mpr la
              have mg : ((aa.size : Int) != 4) = true := bne_iff_ne.mpr la
              obtain rfl := Option.some.inj H
              have gK := cells_25 al.out
              go_wp2_with (first | ((with_reducible refine Pre.gate_load 25 rfl ?_); (try (refine gate_guard Z14 ?_; dsimp only)); refine Pre.load_event rfl rfl rfl Z14 Z1 Try.underlying25 rfl Z11 ?_) | (go_at_call 54; (with_reducible refine (octet_Fits.calls ag 1 true _ dR.out).mono ?_); rintro e w' ⟨rfl, ⟨nd, rfl⟩⟩) | (go_at_call 54; (with_reducible refine (octet_Fits.calls ah 4 true _ lm.out).mono ?_); rintro e w' ⟨rfl, ⟨nd, rfl⟩⟩) | (go_at_call 54; (with_reducible refine (octet_Fits.calls ak 4 true _ nJ.out).mono ?_); rintro e w' ⟨rfl, ⟨nd, rfl⟩⟩))
              go_ret
              exact ⟨Z6, Z0⟩
            ·replace iO := Bool.eq_false_iff.mpr iO
             subst iO
             replace H := Sq.itF H
             obtain rfl := Option.some.inj H
             have iu := cells_25 al.out
             go_wp2_with (first | ((with_reducible refine Pre.gate_load 25 rfl ?_); (try (refine gate_guard Z14 ?_; dsimp only)); refine Pre.load_event rfl rfl rfl Z14 Z1 Try.underlying25 rfl Z11 ?_) | (go_at_call 54; (with_reducible refine (octet_Fits.calls ag 1 true _ dR.out).mono ?_); rintro e w' ⟨rfl, ⟨nd, rfl⟩⟩) | (go_at_call 54; (with_reducible refine (octet_Fits.calls ah 4 true _ lm.out).mono ?_); rintro e w' ⟨rfl, ⟨nd, rfl⟩⟩) | (go_at_call 54; (with_reducible refine (octet_Fits.calls ak 4 false _ nJ.out).mono ?_); rintro e w' ⟨rfl, ⟨nd, rfl⟩⟩))
             go_ret
             exact ⟨Z6, Z0⟩
           ·replace dz := Bool.eq_false_iff.mpr dz
            subst dz
            replace H := Sq.itF H
            obtain rfl := Option.some.inj H
            have kn := cells_25 al.out
            go_wp2_with (first | ((with_reducible refine Pre.gate_load 25 rfl ?_); (try (refine gate_guard Z14 ?_; dsimp only)); refine Pre.load_event rfl rfl rfl Z14 Z1 Try.underlying25 rfl Z11 ?_) | (go_at_call 54; (with_reducible refine (octet_Fits.calls ag 1 true _ dR.out).mono ?_); rintro e w' ⟨rfl, ⟨nd, rfl⟩⟩) | (go_at_call 54; (with_reducible refine (octet_Fits.calls ah 4 false _ lm.out).mono ?_); rintro e w' ⟨rfl, ⟨nd, rfl⟩⟩))
            go_ret
            exact ⟨Z6, Z0⟩
          ·replace hl := Bool.eq_false_iff.mpr hl
           subst hl
           replace H := Sq.itF H
           obtain rfl := Option.some.inj H
           have ma := cells_25 al.out
           go_wp2_with (first | ((with_reducible refine Pre.gate_load 25 rfl ?_); (try (refine gate_guard Z14 ?_; dsimp only)); refine Pre.load_event rfl rfl rfl Z14 Z1 Try.underlying25 rfl Z11 ?_) | (go_at_call 54; (with_reducible refine (octet_Fits.calls ag 1 false _ dR.out).mono ?_); rintro e w' ⟨rfl, ⟨nd, rfl⟩⟩))
           go_ret
           exact ⟨Z6, Z0⟩
         ·rw [if_neg gZ] at H
          have jn : decide (ar < 32) = false := decide_eq_false gZ
          clear gZ
          obtain rfl := Option.some.inj H
          have ja := cells_25 al.out
          go_wp2_with (first | ((with_reducible refine Pre.gate_load 25 rfl ?_); (try (refine gate_guard Z14 ?_; dsimp only)); refine Pre.load_event rfl rfl rfl Z14 Z1 Try.underlying25 rfl Z11 ?_))
          go_ret
          exact ⟨Z6, Z0⟩
        ·rw [if_neg eN] at H
         have fz : decide (0 ≤ ar) = false := decide_eq_false eN
         clear eN
         obtain rfl := Option.some.inj H
         have mb := cells_25 al.out
         go_wp2_with (first | ((with_reducible refine Pre.gate_load 25 rfl ?_); (try (refine gate_guard Z14 ?_; dsimp only)); refine Pre.load_event rfl rfl rfl Z14 Z1 Try.underlying25 rfl Z11 ?_))
         go_ret
         exact ⟨Z6, Z0⟩
       ·rw [if_neg ep] at H
        have fy : decide (ae < 4) = false := decide_eq_false ep
        clear ep
        obtain rfl := Option.some.inj H
        have ij := cells_25 al.out
        go_wp2_with (first | ((with_reducible refine Pre.gate_load 25 rfl ?_); (try (refine gate_guard Z14 ?_; dsimp only)); refine Pre.load_event rfl rfl rfl Z14 Z1 Try.underlying25 rfl Z11 ?_))
        go_ret
        exact ⟨Z6, Z0⟩
      ·rw [if_neg eM] at H
       have fW : decide (0 ≤ ae) = false := decide_eq_false eM
       clear eM
       obtain rfl := Option.some.inj H
       have ku := cells_25 al.out
       go_wp2_with (first | ((with_reducible refine Pre.gate_load 25 rfl ?_); (try (refine gate_guard Z14 ?_; dsimp only)); refine Pre.load_event rfl rfl rfl Z14 Z1 Try.underlying25 rfl Z11 ?_))
       go_ret
       exact ⟨Z6, Z0⟩
     ·rw [if_neg dy] at H
      have eP : (aD == 4) = false := beq_eq_false_iff_ne.mpr dy
      have fV : (aD != 4) = true := bne_iff_ne.mpr dy
      obtain rfl := Option.some.inj H
      have ko := cells_25 al.out
      go_wp2_with (first | ((with_reducible refine Pre.gate_load 25 rfl ?_); (try (refine gate_guard Z14 ?_; dsimp only)); refine Pre.load_event rfl rfl rfl Z14 Z1 Try.underlying25 rfl Z11 ?_))
      go_ret
      exact ⟨Z6, Z0⟩

/-! ### rrep_Put: function 34 -/
def rrep_Put.f (k : Nat) (aD : Int) (aw : Int) (ax : Int) (au : ByteArray) (aA : Int) (ay : Int) (av : ByteArray) (ar : Int) (aC : Int) (az : ByteArray) (ao : Int) (am : ByteArray) (ah : Int) (aj : Int) (ak : Int) (ae : Int) (ag : Int) (ai : Int) (an : Int) (aa : ByteArray) (ab : ByteArray) (ac : List (S46)) (ap : Int) (aq : ByteArray) (af : List (S48)) : Option (ByteArray × Bool) := (rrep_Right.f k aD aw ax au aA ay av ar aC az ao am ah aj ak ae ag ai an aa ab ac ap aq af).bind fun aU => (if aU = true then ((ext_Put.f k af).bind fun bR => (if aD = 6 then (if 2 + bR.1.size ≤ 9223372036854775807 then (some ((⟨#[4, 0]⟩ : ByteArray) ++ bR.1, true)) else (none)) else ((octet_Put.f k ah 4).bind fun cD => ((octet_Put.f k ak 4).bind fun ca => ((some (([2, (wrap64 (ae * 64)) % 256, (ar) % 256, (ag) % 256] : List Int) : List Int)).bind fun bY => (if (strOfNums bY).size + aa.size ≤ 9223372036854775807 then (if ((strOfNums bY) ++ aa).size + cD.1.size ≤ 9223372036854775807 then (if (((strOfNums bY) ++ aa) ++ cD.1).size + ab.size ≤ 9223372036854775807 then (if ((((strOfNums bY) ++ aa) ++ cD.1) ++ ab).size + ca.1.size ≤ 9223372036854775807 then (if (((((strOfNums bY) ++ aa) ++ cD.1) ++ ab) ++ ca.1).size + bR.1.size ≤ 9223372036854775807 then (some ((((((strOfNums bY) ++ aa) ++ cD.1) ++ ab) ++ ca.1) ++ bR.1, true)) else (none)) else (none)) else (none)) else (none)) else (none))))))) else (some ((⟨#[]⟩ : ByteArray), false)))
theorem rrep_Put.mono : ∀ a0 a1 a2 a3 a4 a5 a6 a7 a8 a9 dY dZ ea eb ec ed ee ef eg eh ei ej ek el em k, LeO (rrep_Put.f k a0 a1 a2 a3 a4 a5 a6 a7 a8 a9 dY dZ ea eb ec ed ee ef eg eh ei ej ek el em) (rrep_Put.f (k + 1) a0 a1 a2 a3 a4 a5 a6 a7 a8 a9 dY dZ ea eb ec ed ee ef eg eh ei ej ek el em) := by
 intros
 rename_i k
 unfold rrep_Put.f
 have m0 := ext_Put.mono
 have m1 := octet_Put.mono
 have m2 := rrep_Right.mono
 exact Sq.mo

set_option maxHeartbeats 8000000 in
set_option maxRecDepth 100000 in
theorem rrep_Put.calls (k : Nat) (aD : Int) (aw : Int) (ax : Int) (au : ByteArray) (aA : Int) (ay : Int) (av : ByteArray) (ar : Int) (aC : Int) (az : ByteArray) (ao : Int) (am : ByteArray) (ah : Int) (aj : Int) (ak : Int) (ae : Int) (ag : Int) (ai : Int) (an : Int) (aa : ByteArray) (ab : ByteArray) (aP : Option Addr) (aN : Nat) (ac : List (S46)) (ap : Int) (aq : ByteArray) (aJ : Option Addr) (aK : Nat) (af : List (S48)) (r1 : ByteArray) (r2 : Bool) (w : World) (bk : Kd.C k46 w aP ac.length ac) (bl : ac.length ≤ aN) (bm : Kd.C k48 w aJ af.length af) (bn : af.length ≤ aK) (h : rrep_Put.f k aD aw ax au aA ay av ar aC az ao am ah aj ak ae ag ai an aa ab ac ap aq af = some (r1, r2)) :
  Calls Try.prog 34 #[.agg #[.int .i64 aD, .int .i64 aw, .int .i64 ax, .string au, .int .i64 aA, .int .i64 ay, .string av, .int .i64 ar, .int .i64 aC, .string az, .int .i64 ao, .string am, .int .i64 ah, .int .i64 aj, .int .i64 ak, .int .i64 ae, .int .i64 ag, .int .i64 ai, .int .i64 an, .string aa, .string ab, .slice aP ac.length aN, .int .i64 ap, .string aq, .slice aJ af.length aK]] w fun e w' => e = .returned (.tuple #[.string r1, .bool r2]) ∧ Below w.heap.size w w' := by
 have dM := Try.underlying25
 have cc := Aside0.mk bk
 have aZ := Aside0.mk bl
 clear bk bl
 have bZ := Aside0.mk bm
 have aT := Aside0.mk bn
 clear bm bn
 have HB := Aside0.mk (Below.refl w.heap.size w)
 have H : ((rrep_Right.f k aD aw ax au aA ay av ar aC az ao am ah aj ak ae ag ai an aa ab ac ap aq af).bind fun aU => (if aU = true then ((ext_Put.f k af).bind fun bR => (if aD = 6 then (if 2 + bR.1.size ≤ 9223372036854775807 then (some ((⟨#[4, 0]⟩ : ByteArray) ++ bR.1, true)) else (none)) else ((octet_Put.f k ah 4).bind fun cD => ((octet_Put.f k ak 4).bind fun ca => ((some (([2, (wrap64 (ae * 64)) % 256, (ar) % 256, (ag) % 256] : List Int) : List Int)).bind fun bY => (if (strOfNums bY).size + aa.size ≤ 9223372036854775807 then (if ((strOfNums bY) ++ aa).size + cD.1.size ≤ 9223372036854775807 then (if (((strOfNums bY) ++ aa) ++ cD.1).size + ab.size ≤ 9223372036854775807 then (if ((((strOfNums bY) ++ aa) ++ cD.1) ++ ab).size + ca.1.size ≤ 9223372036854775807 then (if (((((strOfNums bY) ++ aa) ++ cD.1) ++ ab) ++ ca.1).size + bR.1.size ≤ 9223372036854775807 then (some ((((((strOfNums bY) ++ aa) ++ cD.1) ++ ab) ++ ca.1) ++ bR.1, true)) else (none)) else (none)) else (none)) else (none)) else (none))))))) else (some ((⟨#[]⟩ : ByteArray), false)))) = some (r1, r2) := h
 clear h
 replace H := Option.bind_eq_some_iff.mp H
 obtain ⟨aU, dL, H⟩ := H
 replace H : (if aU = true then ((ext_Put.f k af).bind fun bR => (if aD = 6 then (if 2 + bR.1.size ≤ 9223372036854775807 then (some ((⟨#[4, 0]⟩ : ByteArray) ++ bR.1, true)) else (none)) else ((octet_Put.f k ah 4).bind fun cD => ((octet_Put.f k ak 4).bind fun ca => ((some (([2, (wrap64 (ae * 64)) % 256, (ar) % 256, (ag) % 256] : List Int) : List Int)).bind fun bY => (if (strOfNums bY).size + aa.size ≤ 9223372036854775807 then (if ((strOfNums bY) ++ aa).size + cD.1.size ≤ 9223372036854775807 then (if (((strOfNums bY) ++ aa) ++ cD.1).size + ab.size ≤ 9223372036854775807 then (if ((((strOfNums bY) ++ aa) ++ cD.1) ++ ab).size + ca.1.size ≤ 9223372036854775807 then (if (((((strOfNums bY) ++ aa) ++ cD.1) ++ ab) ++ ca.1).size + bR.1.size ≤ 9223372036854775807 then (some ((((((strOfNums bY) ++ aa) ++ cD.1) ++ ab) ++ ca.1) ++ bR.1, true)) else (none)) else (none)) else (none)) else (none)) else (none))))))) else (some ((⟨#[]⟩ : ByteArray), false))) = some (r1, r2) := H
 have A2 := Aside0.mk dL
 clear dL
 by_cases c3 : aU = true
 ·subst c3
  have H1 : ((ext_Put.f k af).bind fun bR => (if aD = 6 then (if 2 + bR.1.size ≤ 9223372036854775807 then (some ((⟨#[4, 0]⟩ : ByteArray) ++ bR.1, true)) else (none)) else ((octet_Put.f k ah 4).bind fun cD => ((octet_Put.f k ak 4).bind fun ca => ((some (([2, (wrap64 (ae * 64)) % 256, (ar) % 256, (ag) % 256] : List Int) : List Int)).bind fun bY => (if (strOfNums bY).size + aa.size ≤ 9223372036854775807 then (if ((strOfNums bY) ++ aa).size + cD.1.size ≤ 9223372036854775807 then (if (((strOfNums bY) ++ aa) ++ cD.1).size + ab.size ≤ 9223372036854775807 then (if ((((strOfNums bY) ++ aa) ++ cD.1) ++ ab).size + ca.1.size ≤ 9223372036854775807 then (if (((((strOfNums bY) ++ aa) ++ cD.1) ++ ab) ++ ca.1).size + bR.1.size ≤ 9223372036854775807 then (some ((((((strOfNums bY) ++ aa) ++ cD.1) ++ ab) ++ ca.1) ++ bR.1, true)) else (none)) else (none)) else (none)) else (none)) else (none))))))) = some (r1, r2) := by rw [if_pos rfl] at H; exact H
  clear H
  have H := H1
  clear H1
  replace H := Option.bind_eq_some_iff.mp H
  obtain ⟨⟨aY, bg⟩, gl, H⟩ := H
  replace H : (if aD = 6 then (if 2 + aY.size ≤ 9223372036854775807 then (some ((⟨#[4, 0]⟩ : ByteArray) ++ aY, true)) else (none)) else ((octet_Put.f k ah 4).bind fun cD => ((octet_Put.f k ak 4).bind fun ca => ((some (([2, (wrap64 (ae * 64)) % 256, (ar) % 256, (ag) % 256] : List Int) : List Int)).bind fun bY => (if (strOfNums bY).size + aa.size ≤ 9223372036854775807 then (if ((strOfNums bY) ++ aa).size + cD.1.size ≤ 9223372036854775807 then (if (((strOfNums bY) ++ aa) ++ cD.1).size + ab.size ≤ 9223372036854775807 then (if ((((strOfNums bY) ++ aa) ++ cD.1) ++ ab).size + ca.1.size ≤ 9223372036854775807 then (if (((((strOfNums bY) ++ aa) ++ cD.1) ++ ab) ++ ca.1).size + aY.size ≤ 9223372036854775807 then (some ((((((strOfNums bY) ++ aa) ++ cD.1) ++ ab) ++ ca.1) ++ aY, true)) else (none)) else (none)) else (none)) else (none)) else (none)))))) = some (r1, r2) := H
  have A4 := Aside0.mk gl
  clear gl
  by_cases c5 : aD = 6
  ·rw [if_pos c5] at H
   have dx : (aD == 6) = true := beq_iff_eq.mpr c5
   have fJ : (aD != 6) = false := bne_eq_false_iff_eq.mpr c5
   clear c5
   by_cases c6 : 2 + aY.size ≤ 9223372036854775807
   ·rw [if_pos c6] at H
    have dW := eq_true c6
    have ft : decide (2 + aY.size ≤ 9223372036854775807) = true := decide_eq_true c6
    try have ha : (9223372036854775807 < 2 + aY.size) = False := eq_false (Nat.not_lt.2 c6)
    try (have hf := ha; simp only [ByteArray.size_append] at hf)
    simp only [Option.some.injEq, Prod.mk.injEq] at H
    obtain ⟨rfl, rfl⟩ := H
    go_enter Try.func34, Try.ntmps34
    go_wp2_with (first | ((with_reducible refine Pre.gate_load 25 rfl ?_); (try (refine gate_guard Z14 ?_; dsimp only)); refine Pre.load_event rfl rfl rfl Z14 Z1 Try.underlying25 rfl Z11 ?_) | ((with_reducible refine gate_dst (N := 1) rfl ?_); refine Sq.box 1 #[.int .i64 aD, .int .i64 aw, .int .i64 ax, .string au, .int .i64 aA, .int .i64 ay, .string av, .int .i64 ar, .int .i64 aC, .string az, .int .i64 ao, .string am, .int .i64 ah, .int .i64 aj, .int .i64 ak, .int .i64 ae, .int .i64 ag, .int .i64 ai, .int .i64 an, .string aa, .string ab, .slice aP ac.length aN, .int .i64 ap, .string aq, .slice aJ af.length aK] 25 ?_; intro aE hg w7 hbox hb; have al := Aside0.mk (hbox); have cd := Aside0.mk (Sq.ge hg Z2); have bV := Aside0.mk (Sq.ge hg Z2); replace HB := Aside0.mk (below_step Z2 hb); clear hb hbox hg; have iK := cells_25 al.out) | ((with_reducible refine gate_callee (f := 36) rfl ?_); refine goesL_ (some 11) rfl rfl Try.func36 Z11 rfl #[.agg #[.int .i64 aD, .int .i64 aw, .int .i64 ax, .string au, .int .i64 aA, .int .i64 ay, .string av, .int .i64 ar, .int .i64 aC, .string az, .int .i64 ao, .string am, .int .i64 ah, .int .i64 aj, .int .i64 ak, .int .i64 ae, .int .i64 ag, .int .i64 ai, .int .i64 an, .string aa, .string ab, .slice aP ac.length aN, .int .i64 ap, .string aq, .slice aJ af.length aK]] rfl Z4 ?_; (with_reducible refine (rrep_Right.calls k aD aw ax au aA ay av ar aC az ao am ah aj ak ae ag ai an aa ab _ _ ac ap aq _ _ af true _ ?side1 ?side2 ?side3 ?side4 A2.out).mono ?_); (case side1 => exact Z7); (case side2 => exact aZ.out); (case side3 => exact Z5); (case side4 => exact aT.out); rintro e w9 ⟨rfl, hb⟩; refine ⟨_, rfl, ?_⟩; replace al := Aside0.mk (blk_below (g := aE) Z3 hb); replace HB := Aside0.mk (below_step Z0 hb); clear hb; have fL := cells_25 al.out) | ((with_reducible refine gate_callee (f := 49) rfl ?_); refine goesL_ (some 16) rfl rfl Try.func49 Z11 rfl #[.slice aJ af.length aK] rfl Z4 ?_; (with_reducible refine (ext_Put.calls k _ _ af aY bg _ ?side1 ?side2 A4.out).mono ?_); (case side1 => exact Z5); (case side2 => exact aT.out); rintro e kt ⟨rfl, hb⟩; refine ⟨_, rfl, ?_⟩; replace al := Aside0.mk (blk_below (g := aE) Z3 hb); replace HB := Aside0.mk (below_step Z0 hb); clear hb; have gs := cells_25 al.out))
    go_ret2
    exact ⟨Z6, Z0⟩
   ·rw [if_neg c6] at H
    exact absurd H Z35
  ·rw [if_neg c5] at H
   have dx : (aD == 6) = false := beq_eq_false_iff_ne.mpr c5
   have fJ : (aD != 6) = true := bne_iff_ne.mpr c5
   replace H := Option.bind_eq_some_iff.mp H
   obtain ⟨⟨bH, aW⟩, hv, H⟩ := H
   replace H : ((octet_Put.f k ak 4).bind fun ca => ((some (([2, (wrap64 (ae * 64)) % 256, (ar) % 256, (ag) % 256] : List Int) : List Int)).bind fun bY => (if (strOfNums bY).size + aa.size ≤ 9223372036854775807 then (if ((strOfNums bY) ++ aa).size + bH.size ≤ 9223372036854775807 then (if (((strOfNums bY) ++ aa) ++ bH).size + ab.size ≤ 9223372036854775807 then (if ((((strOfNums bY) ++ aa) ++ bH) ++ ab).size + ca.1.size ≤ 9223372036854775807 then (if (((((strOfNums bY) ++ aa) ++ bH) ++ ab) ++ ca.1).size + aY.size ≤ 9223372036854775807 then (some ((((((strOfNums bY) ++ aa) ++ bH) ++ ab) ++ ca.1) ++ aY, true)) else (none)) else (none)) else (none)) else (none)) else (none)))) = some (r1, r2) := H
   have kl := Aside0.mk hv
   clear hv
   replace H := Option.bind_eq_some_iff.mp H
   obtain ⟨⟨bX, aH⟩, fO, H⟩ := H
   replace H : ((some (([2, (wrap64 (ae * 64)) % 256, (ar) % 256, (ag) % 256] : List Int) : List Int)).bind fun bY => (if (strOfNums bY).size + aa.size ≤ 9223372036854775807 then (if ((strOfNums bY) ++ aa).size + bH.size ≤ 9223372036854775807 then (if (((strOfNums bY) ++ aa) ++ bH).size + ab.size ≤ 9223372036854775807 then (if ((((strOfNums bY) ++ aa) ++ bH) ++ ab).size + bX.size ≤ 9223372036854775807 then (if (((((strOfNums bY) ++ aa) ++ bH) ++ ab) ++ bX).size + aY.size ≤ 9223372036854775807 then (some ((((((strOfNums bY) ++ aa) ++ bH) ++ ab) ++ bX) ++ aY, true)) else (none)) else (none)) else (none)) else (none)) else (none))) = some (r1, r2) := H
   have jW := Aside0.mk fO
   clear fO
   obtain ⟨bY, hy109⟩ : ∃ y_ : List Int, y_ = (([2, (wrap64 (ae * 64)) % 256, (ar) % 256, (ag) % 256] : List Int)) := ⟨_, rfl⟩
   replace H : (if (strOfNums bY).size + aa.size ≤ 9223372036854775807 then (if ((strOfNums bY) ++ aa).size + bH.size ≤ 9223372036854775807 then (if (((strOfNums bY) ++ aa) ++ bH).size + ab.size ≤ 9223372036854775807 then (if ((((strOfNums bY) ++ aa) ++ bH) ++ ab).size + bX.size ≤ 9223372036854775807 then (if (((((strOfNums bY) ++ aa) ++ bH) ++ ab) ++ bX).size + aY.size ≤ 9223372036854775807 then (some ((((((strOfNums bY) ++ aa) ++ bH) ++ ab) ++ bX) ++ aY, true)) else (none)) else (none)) else (none)) else (none)) else (none)) = some (r1, r2) := by first | (rw [hy109]; with_reducible exact H) | (have H2_ := (Option.bind_some _ _).symm.trans H; rw [hy109]; with_reducible exact H2_) | (have H2_ := (Option.bind_some _ _).symm.trans H; with_reducible exact H2_) | with_reducible exact H | (rw [hy109]; exact H) | exact H
   have Ny109 := Aside0.mk hy109
   clear hy109
   by_cases dA : (strOfNums bY).size + aa.size ≤ 9223372036854775807
   ·rw [if_pos dA] at H
    have fv := eq_true dA
    have fw : decide ((strOfNums bY).size + aa.size ≤ 9223372036854775807) = true := decide_eq_true dA
    try have mh : (9223372036854775807 < (strOfNums bY).size + aa.size) = False := eq_false (Nat.not_lt.2 dA)
    try (have mi := mh; simp only [ByteArray.size_append] at mi)
    by_cases dy : ((strOfNums bY) ++ aa).size + bH.size ≤ 9223372036854775807
    ·rw [if_pos dy] at H
     have eP := eq_true dy
     have fV : decide (((strOfNums bY) ++ aa).size + bH.size ≤ 9223372036854775807) = true := decide_eq_true dy
     try have gQ : (9223372036854775807 < ((strOfNums bY) ++ aa).size + bH.size) = False := eq_false (Nat.not_lt.2 dy)
     try (have hM := gQ; simp only [ByteArray.size_append] at hM)
     by_cases eM : (((strOfNums bY) ++ aa) ++ bH).size + ab.size ≤ 9223372036854775807
     ·rw [if_pos eM] at H
      have fW := eq_true eM
      have jq : decide ((((strOfNums bY) ++ aa) ++ bH).size + ab.size ≤ 9223372036854775807) = true := decide_eq_true eM
      try have jr : (9223372036854775807 < (((strOfNums bY) ++ aa) ++ bH).size + ab.size) = False := eq_false (Nat.not_lt.2 eM)
      try (have js := jr; simp only [ByteArray.size_append] at js)
      by_cases ep : ((((strOfNums bY) ++ aa) ++ bH) ++ ab).size + bX.size ≤ 9223372036854775807
      ·rw [if_pos ep] at H
       have fy := eq_true ep
       have gL : decide (((((strOfNums bY) ++ aa) ++ bH) ++ ab).size + bX.size ≤ 9223372036854775807) = true := decide_eq_true ep
       try have mj : (9223372036854775807 < ((((strOfNums bY) ++ aa) ++ bH) ++ ab).size + bX.size) = False := eq_false (Nat.not_lt.2 ep)
       try (have ml := mj; simp only [ByteArray.size_append] at ml)
       by_cases eN : (((((strOfNums bY) ++ aa) ++ bH) ++ ab) ++ bX).size + aY.size ≤ 9223372036854775807
       ·rw [if_pos eN] at H
        have fz := eq_true eN
        have gM : decide ((((((strOfNums bY) ++ aa) ++ bH) ++ ab) ++ bX).size + aY.size ≤ 9223372036854775807) = true := decide_eq_true eN
        try have jt : (9223372036854775807 < (((((strOfNums bY) ++ aa) ++ bH) ++ ab) ++ bX).size + aY.size) = False := eq_false (Nat.not_lt.2 eN)
        try (have ju := jt; simp only [ByteArray.size_append] at ju)
        simp only [Option.some.injEq, Prod.mk.injEq] at H
        obtain ⟨rfl, rfl⟩ := H
        go_enter Try.func34, Try.ntmps34
        go_wp2_with (first | ((with_reducible refine Pre.gate_load 25 rfl ?_); (try (refine gate_guard Z14 ?_; dsimp only)); refine Pre.load_event rfl rfl rfl Z14 Z1 Try.underlying25 rfl Z11 ?_) | ((with_reducible refine gate_dst (N := 1) rfl ?_); refine Sq.box 1 #[.int .i64 aD, .int .i64 aw, .int .i64 ax, .string au, .int .i64 aA, .int .i64 ay, .string av, .int .i64 ar, .int .i64 aC, .string az, .int .i64 ao, .string am, .int .i64 ah, .int .i64 aj, .int .i64 ak, .int .i64 ae, .int .i64 ag, .int .i64 ai, .int .i64 an, .string aa, .string ab, .slice aP ac.length aN, .int .i64 ap, .string aq, .slice aJ af.length aK] 25 ?_; intro aE hg iM hbox hb; have al := Aside0.mk (hbox); have cd := Aside0.mk (Sq.ge hg Z2); have bV := Aside0.mk (Sq.ge hg Z2); replace HB := Aside0.mk (below_step Z2 hb); clear hb hbox hg; have ih := cells_25 al.out) | ((with_reducible refine gate_callee (f := 36) rfl ?_); refine goesL_ (some 11) rfl rfl Try.func36 Z11 rfl #[.agg #[.int .i64 aD, .int .i64 aw, .int .i64 ax, .string au, .int .i64 aA, .int .i64 ay, .string av, .int .i64 ar, .int .i64 aC, .string az, .int .i64 ao, .string am, .int .i64 ah, .int .i64 aj, .int .i64 ak, .int .i64 ae, .int .i64 ag, .int .i64 ai, .int .i64 an, .string aa, .string ab, .slice aP ac.length aN, .int .i64 ap, .string aq, .slice aJ af.length aK]] rfl Z4 ?_; (with_reducible refine (rrep_Right.calls k aD aw ax au aA ay av ar aC az ao am ah aj ak ae ag ai an aa ab _ _ ac ap aq _ _ af true _ ?side1 ?side2 ?side3 ?side4 A2.out).mono ?_); (case side1 => exact Z7); (case side2 => exact aZ.out); (case side3 => exact Z5); (case side4 => exact aT.out); rintro e kV ⟨rfl, hb⟩; refine ⟨_, rfl, ?_⟩; replace al := Aside0.mk (blk_below (g := aE) Z3 hb); replace HB := Aside0.mk (below_step Z0 hb); clear hb; have km := cells_25 al.out) | ((with_reducible refine gate_callee (f := 49) rfl ?_); refine goesL_ (some 16) rfl rfl Try.func49 Z11 rfl #[.slice aJ af.length aK] rfl Z4 ?_; (with_reducible refine (ext_Put.calls k _ _ af aY bg _ ?side1 ?side2 A4.out).mono ?_); (case side1 => exact Z5); (case side2 => exact aT.out); rintro e gJ ⟨rfl, hb⟩; refine ⟨_, rfl, ?_⟩; replace al := Aside0.mk (blk_below (g := aE) Z3 hb); replace HB := Aside0.mk (below_step Z0 hb); clear hb; have ii := cells_25 al.out) | ((with_reducible refine gate_callee (f := 67) rfl ?_); refine goesL_ (some 27) rfl rfl Try.func67 Z11 rfl #[.int .i64 ah, .int .i64 4] rfl Z4 ?_; (with_reducible refine (octet_Put.calls k ah 4 bH aW _ kl.out).mono ?_); rintro e iH ⟨rfl, hb⟩; refine ⟨_, rfl, ?_⟩; replace al := Aside0.mk (blk_below (g := aE) Z3 hb); replace HB := Aside0.mk (below_step Z0 hb); clear hb; have hz := cells_25 al.out) | ((with_reducible refine gate_callee (f := 67) rfl ?_); refine goesL_ (some 33) rfl rfl Try.func67 Z11 rfl #[.int .i64 ak, .int .i64 4] rfl Z4 ?_; (with_reducible refine (octet_Put.calls k ak 4 bX aH _ jW.out).mono ?_); rintro e lS ⟨rfl, hb⟩; refine ⟨_, rfl, ?_⟩; replace al := Aside0.mk (blk_below (g := aE) Z3 hb); replace HB := Aside0.mk (below_step Z0 hb); clear hb; have gK := cells_25 al.out) | ((with_reducible refine gate_dst (N := 46) rfl ?_); refine Kd.R_lit (Kd.int .u8) _ 5 ?hg (N := 46) ?hd (xs := ([2, (wrap64 (ae * 64)) % 256, (ar) % 256, (ag) % 256] : List Int)) (inner := [.int .u8 2, .int .u8 ((wrap64 (ae * 64)) % 256), .int .u8 ((ar) % 256), .int .u8 ((ag) % 256)]) (ok := fun _ => True) (okp := fun _ => True) ?hr ?hp (fun _ hk => hk) trivial (Below.refl _ _) (Nat.le_refl _) Z35 ?_; (case hd => rfl); (case hg => rfl); (case hr => first | (go_simp; done) | (go_simp; rfl)); (case hp => exact (Reps.one (show Kd.M (Kd.int .u8) _ _ _ 2 [.int .u8 2] from rfl) (Reps.one (show Kd.M (Kd.int .u8) _ _ _ ((wrap64 (ae * 64)) % 256) [.int .u8 ((wrap64 (ae * 64)) % 256)] from rfl) (Reps.one (show Kd.M (Kd.int .u8) _ _ _ ((ar) % 256) [.int .u8 ((ar) % 256)] from rfl) (Reps.one (show Kd.M (Kd.int .u8) _ _ _ ((ag) % 256) [.int .u8 ((ag) % 256)] from rfl) (Reps.none _ _)))))); intro v110 iZ ho31 hb hg_ hnew_; clear hg_ hnew_; (first | rw [← Ny109.out] at ho31 | (simp only [Int.reduceToNat] at ho31; rw [← Ny109.out] at ho31)); have mm := Aside0.mk (Kd.R_lower ho31 (below_size Z0)); replace al := Aside0.mk (blk_below (g := aE) Z3 hb); replace HB := Aside0.mk (below_step Z0 hb); clear hb ho31; have hcv32 := own_string (P := Try.prog) Try.underlying51 Try.underlying5 Try.underlying9 (Kd.own_of_R mm.out); have ja := cells_25 al.out))
        go_ret2
        exact ⟨Z6, Z0⟩
       ·rw [if_neg eN] at H
        exact absurd H Z35
      ·rw [if_neg ep] at H
       exact absurd H Z35
     ·rw [if_neg eM] at H
      exact absurd H Z35
    ·rw [if_neg dy] at H
     exact absurd H Z35
   ·rw [if_neg dA] at H
    exact absurd H Z35
 ·replace c3 := Bool.eq_false_iff.mpr c3
  subst c3
  have H1 : (some ((⟨#[]⟩ : ByteArray), false)) = some (r1, r2) := by rw [if_neg (show ¬ (false = true) by decide)] at H; exact H
  clear H
  have H := H1
  clear H1
  simp only [Option.some.injEq, Prod.mk.injEq] at H
  obtain ⟨rfl, rfl⟩ := H
  go_enter Try.func34, Try.ntmps34
  go_wp2_with (first | ((with_reducible refine Pre.gate_load 25 rfl ?_); (try (refine gate_guard Z14 ?_; dsimp only)); refine Pre.load_event rfl rfl rfl Z14 Z1 Try.underlying25 rfl Z11 ?_) | ((with_reducible refine gate_dst (N := 1) rfl ?_); refine Sq.box 1 #[.int .i64 aD, .int .i64 aw, .int .i64 ax, .string au, .int .i64 aA, .int .i64 ay, .string av, .int .i64 ar, .int .i64 aC, .string az, .int .i64 ao, .string am, .int .i64 ah, .int .i64 aj, .int .i64 ak, .int .i64 ae, .int .i64 ag, .int .i64 ai, .int .i64 an, .string aa, .string ab, .slice aP ac.length aN, .int .i64 ap, .string aq, .slice aJ af.length aK] 25 ?_; intro aE hg oK hbox hb; have al := Aside0.mk (hbox); have cd := Aside0.mk (Sq.ge hg Z2); have bV := Aside0.mk (Sq.ge hg Z2); replace HB := Aside0.mk (below_step Z2 hb); clear hb hbox hg; have ij := cells_25 al.out) | ((with_reducible refine gate_callee (f := 36) rfl ?_); refine goesL_ (some 11) rfl rfl Try.func36 Z11 rfl #[.agg #[.int .i64 aD, .int .i64 aw, .int .i64 ax, .string au, .int .i64 aA, .int .i64 ay, .string av, .int .i64 ar, .int .i64 aC, .string az, .int .i64 ao, .string am, .int .i64 ah, .int .i64 aj, .int .i64 ak, .int .i64 ae, .int .i64 ag, .int .i64 ai, .int .i64 an, .string aa, .string ab, .slice aP ac.length aN, .int .i64 ap, .string aq, .slice aJ af.length aK]] rfl Z4 ?_; (with_reducible refine (rrep_Right.calls k aD aw ax au aA ay av ar aC az ao am ah aj ak ae ag ai an aa ab _ _ ac ap aq _ _ af false _ ?side1 ?side2 ?side3 ?side4 A2.out).mono ?_); (case side1 => exact Z7); (case side2 => exact aZ.out); (case side3 => exact Z5); (case side4 => exact aT.out); rintro e oL ⟨rfl, hb⟩; refine ⟨_, rfl, ?_⟩; replace al := Aside0.mk (blk_below (g := aE) Z3 hb); replace HB := Aside0.mk (below_step Z0 hb); clear hb))
  go_ret2
  exact ⟨Z6, Z0⟩

end Go.Proofs.Ytccjakjjaemmkaa.PAE
