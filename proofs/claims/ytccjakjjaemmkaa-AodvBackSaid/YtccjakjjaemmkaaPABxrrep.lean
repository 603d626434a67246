-- Written by mp.py, a program of this work (wip/tools), out of the translation; Lean checks it.
import Derived.Test.YtccjakjjaemmkaaPABxZ
import Derived.Test.YtccjakjjaemmkaaPABxext
import Derived.Test.YtccjakjjaemmkaaPABxmsgBare
import Derived.Test.YtccjakjjaemmkaaPABxoctet
namespace Go.Proofs.Ytccjakjjaemmkaa.PAB
open Go.RowKit Go.Proofs.YtccjakjjaemmkaaW.PrintWords Go.Proofs.YtccjakjjaemmkaaW.PrintLast Go.Proofs.YtccjakjjaemmkaaW.PrintMore
attribute [local go_sem] max2_int min2_int max_two min_two max_three min_three max_four min_four   -- for this text's walks alone
set_option linter.unusedVariables false
set_option linter.unusedSimpArgs false

/-! ### rrep_ack: function 68 -/
def rrep_ack.f (k : Nat) (a0 : ByteArray) : Option (Int × Int × Int × ByteArray × Int × Int × ByteArray × Int × Int × ByteArray × Int × ByteArray × Int × Int × Int × Int × Int × Int × Int × ByteArray × ByteArray × (List (S46)) × Int × ByteArray × (List (S48)) × Int × Int) := if (a0.size : Int) < 2 then (some (0, 0, 0, (⟨#[]⟩ : ByteArray), 0, 0, (⟨#[]⟩ : ByteArray), 0, 0, (⟨#[]⟩ : ByteArray), 0, (⟨#[]⟩ : ByteArray), 0, 0, 0, 0, 0, 0, 0, (⟨#[]⟩ : ByteArray), (⟨#[]⟩ : ByteArray), ([] : List (S46)), 0, (⟨#[]⟩ : ByteArray), ([] : List (S48)), (a0.size : Int), 2)) else (if 1 < (a0.size : Int) then (if (bt a0 1) = 0 then (if 2 ≤ (a0.size : Int) then ((ext_Get.f k (a0.extract 2 a0.size)).bind fun aJ => (if aJ.2.2 = 0 then (some (6, 0, 0, (⟨#[]⟩ : ByteArray), 0, 0, (⟨#[]⟩ : ByteArray), 0, 0, (⟨#[]⟩ : ByteArray), 0, (⟨#[]⟩ : ByteArray), 0, 0, 0, 0, 0, 0, 0, (⟨#[]⟩ : ByteArray), (⟨#[]⟩ : ByteArray), ([] : List (S46)), 0, (⟨#[]⟩ : ByteArray), aJ.1, 0, 0)) else (some (0, 0, 0, (⟨#[]⟩ : ByteArray), 0, 0, (⟨#[]⟩ : ByteArray), 0, 0, (⟨#[]⟩ : ByteArray), 0, (⟨#[]⟩ : ByteArray), 0, 0, 0, 0, 0, 0, 0, (⟨#[]⟩ : ByteArray), (⟨#[]⟩ : ByteArray), ([] : List (S46)), 0, (⟨#[]⟩ : ByteArray), ([] : List (S48)), wrap64 (aJ.2.1 + 2), aJ.2.2)))) else (none)) else (some (0, 0, 0, (⟨#[]⟩ : ByteArray), 0, 0, (⟨#[]⟩ : ByteArray), 0, 0, (⟨#[]⟩ : ByteArray), 0, (⟨#[]⟩ : ByteArray), 0, 0, 0, 0, 0, 0, 0, (⟨#[]⟩ : ByteArray), (⟨#[]⟩ : ByteArray), ([] : List (S46)), 0, (⟨#[]⟩ : ByteArray), ([] : List (S48)), 1, 5))) else (none))
theorem rrep_ack.mono : ∀ a0 k, LeO (rrep_ack.f k a0) (rrep_ack.f (k + 1) a0) := by
 intro a0 k
 unfold rrep_ack.f
 have m0 := ext_Get.mono
 exact Sq.mo
set_option maxRecDepth 100000 in
theorem rrep_ack.bd32 (v0 : Int) (ks : Option Addr) (n24 eb : Nat) : Try.prog.built 25 [(0, .int .i64 v0), (24, .slice ks n24 eb)] = some #[.int .i64 v0, .int .i64 0, .int .i64 0, .string ⟨#[]⟩, .int .i64 0, .int .i64 0, .string ⟨#[]⟩, .int .i64 0, .int .i64 0, .string ⟨#[]⟩, .int .i64 0, .string ⟨#[]⟩, .int .i64 0, .int .i64 0, .int .i64 0, .int .i64 0, .int .i64 0, .int .i64 0, .int .i64 0, .string ⟨#[]⟩, .string ⟨#[]⟩, .slice none 0 0, .int .i64 0, .string ⟨#[]⟩, .slice ks n24 eb] := by kernel_rfl
set_option maxHeartbeats 8000000 in
set_option maxRecDepth 100000 in
theorem rrep_ack.calls (k : Nat) (a0 : ByteArray) (r1 : Int) (r2 : Int) (r3 : Int) (r4 : ByteArray) (r5 : Int) (r6 : Int) (r7 : ByteArray) (r8 : Int) (r9 : Int) (r10 : ByteArray) (r11 : Int) (r12 : ByteArray) (r13 : Int) (r14 : Int) (r15 : Int) (r16 : Int) (r17 : Int) (r18 : Int) (r19 : Int) (r20 : ByteArray) (r21 : ByteArray) (r22 : List (S46)) (r23 : Int) (r24 : ByteArray) (r25 : List (S48)) (r26 : Int) (r27 : Int) (w : World) (h : rrep_ack.f k a0 = some (r1, r2, r3, r4, r5, r6, r7, r8, r9, r10, r11, r12, r13, r14, r15, r16, r17, r18, r19, r20, r21, r22, r23, r24, r25, r26, r27)) :
  Calls Try.prog 68 #[.string a0] w fun e w' => ∃ v21_ v24_ : Value, e = .returned (.tuple #[.agg #[.int .i64 r1, .int .i64 r2, .int .i64 r3, .string r4, .int .i64 r5, .int .i64 r6, .string r7, .int .i64 r8, .int .i64 r9, .string r10, .int .i64 r11, .string r12, .int .i64 r13, .int .i64 r14, .int .i64 r15, .int .i64 r16, .int .i64 r17, .int .i64 r18, .int .i64 r19, .string r20, .string r21, v21_, .int .i64 r23, .string r24, v24_], .int .i64 r26, .int .i64 r27]) ∧ Kd.R k46 46 w' w.heap.size (fun _ => True) v21_ r22 ∧ Kd.R k48 48 w' w.heap.size (fun _ => True) v24_ r25 ∧ Below w.heap.size w w' := by
 have fi := Try.underlying25
 have HB := Aside0.mk (Below.refl w.heap.size w)
 have H : (if (a0.size : Int) < 2 then (some (0, 0, 0, (⟨#[]⟩ : ByteArray), 0, 0, (⟨#[]⟩ : ByteArray), 0, 0, (⟨#[]⟩ : ByteArray), 0, (⟨#[]⟩ : ByteArray), 0, 0, 0, 0, 0, 0, 0, (⟨#[]⟩ : ByteArray), (⟨#[]⟩ : ByteArray), ([] : List (S46)), 0, (⟨#[]⟩ : ByteArray), ([] : List (S48)), (a0.size : Int), 2)) else (if 1 < (a0.size : Int) then (if (bt a0 1) = 0 then (if 2 ≤ (a0.size : Int) then ((ext_Get.f k (a0.extract 2 a0.size)).bind fun aJ => (if aJ.2.2 = 0 then (some (6, 0, 0, (⟨#[]⟩ : ByteArray), 0, 0, (⟨#[]⟩ : ByteArray), 0, 0, (⟨#[]⟩ : ByteArray), 0, (⟨#[]⟩ : ByteArray), 0, 0, 0, 0, 0, 0, 0, (⟨#[]⟩ : ByteArray), (⟨#[]⟩ : ByteArray), ([] : List (S46)), 0, (⟨#[]⟩ : ByteArray), aJ.1, 0, 0)) else (some (0, 0, 0, (⟨#[]⟩ : ByteArray), 0, 0, (⟨#[]⟩ : ByteArray), 0, 0, (⟨#[]⟩ : ByteArray), 0, (⟨#[]⟩ : ByteArray), 0, 0, 0, 0, 0, 0, 0, (⟨#[]⟩ : ByteArray), (⟨#[]⟩ : ByteArray), ([] : List (S46)), 0, (⟨#[]⟩ : ByteArray), ([] : List (S48)), wrap64 (aJ.2.1 + 2), aJ.2.2)))) else (none)) else (some (0, 0, 0, (⟨#[]⟩ : ByteArray), 0, 0, (⟨#[]⟩ : ByteArray), 0, 0, (⟨#[]⟩ : ByteArray), 0, (⟨#[]⟩ : ByteArray), 0, 0, 0, 0, 0, 0, 0, (⟨#[]⟩ : ByteArray), (⟨#[]⟩ : ByteArray), ([] : List (S46)), 0, (⟨#[]⟩ : ByteArray), ([] : List (S48)), 1, 5))) else (none))) = some (r1, r2, r3, r4, r5, r6, r7, r8, r9, r10, r11, r12, r13, r14, r15, r16, r17, r18, r19, r20, r21, r22, r23, r24, r25, r26, r27) := h
 clear h
 by_cases c2 : (a0.size : Int) < 2
 ·rw [if_pos c2] at H
  have gj : decide ((a0.size : Int) < 2) = true := decide_eq_true c2
  have ig : decide (a0.size < 2) = true := decide_eq_true Z40
  clear c2
  simp only [Option.some.injEq, Prod.mk.injEq] at H
  obtain ⟨rfl, rfl, rfl, rfl, rfl, rfl, rfl, rfl, rfl, rfl, rfl, rfl, rfl, rfl, rfl, rfl, rfl, rfl, rfl, rfl, rfl, rfl, rfl, rfl, rfl, rfl, rfl⟩ := H
  go_enter Try.func68, Try.ntmps68
  go_wp2_with (first | ((with_reducible refine gate_dst (N := 32) rfl ?_); refine Pre.build_event 32 25 [(0, Go.Operand.const (Go.Value.int Go.IntKind.i64 6)), (24, Go.Operand.tmp 31)] rfl rfl rfl (rrep_ack.bd32 _ _ _ _) ?_) | ((with_reducible refine gate_dst (N := 2) rfl ?_); refine Sq.box 2 #[.int .i64 0, .int .i64 0, .int .i64 0, .string ⟨#[]⟩, .int .i64 0, .int .i64 0, .string ⟨#[]⟩, .int .i64 0, .int .i64 0, .string ⟨#[]⟩, .int .i64 0, .string ⟨#[]⟩, .int .i64 0, .int .i64 0, .int .i64 0, .int .i64 0, .int .i64 0, .int .i64 0, .int .i64 0, .string ⟨#[]⟩, .string ⟨#[]⟩, .slice none 0 0, .int .i64 0, .string ⟨#[]⟩, .slice none 0 0] 25 ?_; intro ag hg w3 hbox hb; have ae := Aside0.mk (hbox); have cp := Aside0.mk (Sq.ge hg Z1); have bm := Aside0.mk (Sq.ge hg Z1); replace HB := Aside0.mk (below_step Z1 hb); clear hb hbox hg; have ml := cells_25 ae.out) | ((with_reducible refine Pre.gate_store 25 rfl ?_); refine Pre.store_abs (cur := #[.int .i64 0, .int .i64 0, .int .i64 0, .string ⟨#[]⟩, .int .i64 0, .int .i64 0, .string ⟨#[]⟩, .int .i64 0, .int .i64 0, .string ⟨#[]⟩, .int .i64 0, .string ⟨#[]⟩, .int .i64 0, .int .i64 0, .int .i64 0, .int .i64 0, .int .i64 0, .int .i64 0, .int .i64 0, .string ⟨#[]⟩, .string ⟨#[]⟩, .slice none 0 0, .int .i64 0, .string ⟨#[]⟩, .slice none 0 0]) (e := 25) rfl rfl rfl Z23 Z23 Z2 Z14 Z23 Z23 ?_; intro w5 hbS_ sS_; have bY : Aside0 (w5.heap[ag]? = some (.cells #[.int .i64 0, .int .i64 0, .int .i64 0, .string ⟨#[]⟩, .int .i64 0, .int .i64 0, .string ⟨#[]⟩, .int .i64 0, .int .i64 0, .string ⟨#[]⟩, .int .i64 0, .string ⟨#[]⟩, .int .i64 0, .int .i64 0, .int .i64 0, .int .i64 0, .int .i64 0, .int .i64 0, .int .i64 0, .string ⟨#[]⟩, .string ⟨#[]⟩, .slice none 0 0, .int .i64 0, .string ⟨#[]⟩, .slice none 0 0] 25 (0, 0))) := ⟨hbS_⟩; have ca : Aside0 (Below w.heap.size w w5) := ⟨sS_.below Z0 bm.out⟩; clear hbS_ sS_; replace ae := bY; replace HB := ca; clear bY ca))
  refine bodyPost_ret (results_ctt rfl _ _ ag 25 #[.int .i64 0, .int .i64 0, .int .i64 0, .string ⟨#[]⟩, .int .i64 0, .int .i64 0, .string ⟨#[]⟩, .int .i64 0, .int .i64 0, .string ⟨#[]⟩, .int .i64 0, .string ⟨#[]⟩, .int .i64 0, .int .i64 0, .int .i64 0, .int .i64 0, .int .i64 0, .int .i64 0, .int .i64 0, .string ⟨#[]⟩, .string ⟨#[]⟩, .slice none 0 0, .int .i64 0, .string ⟨#[]⟩, .slice none 0 0] (0, 0) _ rfl Z2 Try.underlying25 rfl Z14) rfl ?_
  exact ⟨_, _, Z5, Z13, Z24, Z0⟩
 ·rw [if_neg c2] at H
  have gj : decide ((a0.size : Int) < 2) = false := decide_eq_false c2
  have ig : decide (a0.size < 2) = false := decide_eq_false Z40
  clear c2
  by_cases c6 : 1 < (a0.size : Int)
  ·rw [if_pos c6] at H
   have fg : decide (1 < (a0.size : Int)) = true := decide_eq_true c6
   have fQ : decide (1 < a0.size) = true := decide_eq_true Z40
   clear c6
   by_cases c8 : (bt a0 1) = 0
   ·rw [if_pos c8] at H
    have hC : ((bt a0 1) == 0) = true := beq_iff_eq.mpr c8
    have jg : ((bt a0 1) != 0) = false := bne_eq_false_iff_eq.mpr c8
    clear c8
    by_cases c9 : 2 ≤ (a0.size : Int)
    ·rw [if_pos c9] at H
     have ic := eq_true c9
     have kv : decide (2 ≤ (a0.size : Int)) = true := decide_eq_true c9
     clear c9
     replace H := Option.bind_eq_some_iff.mp H
     obtain ⟨⟨aM, aW, aY⟩, ju, H⟩ := H
     replace H : (if aY = 0 then (some (6, 0, 0, (⟨#[]⟩ : ByteArray), 0, 0, (⟨#[]⟩ : ByteArray), 0, 0, (⟨#[]⟩ : ByteArray), 0, (⟨#[]⟩ : ByteArray), 0, 0, 0, 0, 0, 0, 0, (⟨#[]⟩ : ByteArray), (⟨#[]⟩ : ByteArray), ([] : List (S46)), 0, (⟨#[]⟩ : ByteArray), aM, 0, 0)) else (some (0, 0, 0, (⟨#[]⟩ : ByteArray), 0, 0, (⟨#[]⟩ : ByteArray), 0, 0, (⟨#[]⟩ : ByteArray), 0, (⟨#[]⟩ : ByteArray), 0, 0, 0, 0, 0, 0, 0, (⟨#[]⟩ : ByteArray), (⟨#[]⟩ : ByteArray), ([] : List (S46)), 0, (⟨#[]⟩ : ByteArray), ([] : List (S48)), wrap64 (aW + 2), aY))) = some (r1, r2, r3, r4, r5, r6, r7, r8, r9, r10, r11, r12, r13, r14, r15, r16, r17, r18, r19, r20, r21, r22, r23, r24, r25, r26, r27) := H
     have kO := Aside0.mk ju
     clear ju
     by_cases ee : aY = 0
     ·rw [if_pos ee] at H
      have eX : (aY == 0) = true := beq_iff_eq.mpr ee
      have hj : (aY != 0) = false := bne_eq_false_iff_eq.mpr ee
      clear ee
      simp only [Option.some.injEq, Prod.mk.injEq] at H
      obtain ⟨rfl, rfl, rfl, rfl, rfl, rfl, rfl, rfl, rfl, rfl, rfl, rfl, rfl, rfl, rfl, rfl, rfl, rfl, rfl, rfl, rfl, rfl, rfl, rfl, rfl, rfl, rfl⟩ := H
      go_enter Try.func68, Try.ntmps68
      go_wp2_with (first | ((with_reducible refine gate_dst (N := 32) rfl ?_); refine Pre.build_event 32 25 [(0, Go.Operand.const (Go.Value.int Go.IntKind.i64 6)), (24, Go.Operand.tmp 31)] rfl rfl rfl (rrep_ack.bd32 _ _ _ _) ?_) | ((with_reducible refine gate_dst (N := 2) rfl ?_); refine Sq.box 2 #[.int .i64 0, .int .i64 0, .int .i64 0, .string ⟨#[]⟩, .int .i64 0, .int .i64 0, .string ⟨#[]⟩, .int .i64 0, .int .i64 0, .string ⟨#[]⟩, .int .i64 0, .string ⟨#[]⟩, .int .i64 0, .int .i64 0, .int .i64 0, .int .i64 0, .int .i64 0, .int .i64 0, .int .i64 0, .string ⟨#[]⟩, .string ⟨#[]⟩, .slice none 0 0, .int .i64 0, .string ⟨#[]⟩, .slice none 0 0] 25 ?_; intro ag hg po hbox hb; have ae := Aside0.mk (hbox); have cp := Aside0.mk (Sq.ge hg Z1); have bm := Aside0.mk (Sq.ge hg Z1); replace HB := Aside0.mk (below_step Z1 hb); clear hb hbox hg; have p7 : 0 ≤ (1 : Int) := Z40; have q7 : 1 < a0.size := (by have : (1 : Int) < (a0.size : Int) := of_decide_eq_true Z6; omega); have hx7 : ∀ h : 1 < a0.size, ((a0[1]'h).toNat : Int) = bt a0 1 := bt_at a0 1; clear p7; have qi7 : (1 < (a0.size : Int)) = True := eq_true (of_decide_eq_true Z6); replace q7 := eq_true q7) | ((with_reducible refine gate_callee (f := 59) rfl ?_); refine goesL_ (some 21) rfl rfl Try.func59 Z14 rfl #[.string (a0.extract 2 a0.size)] rfl Z4 ?_; (with_reducible refine (ext_Get.calls k (a0.extract 2 a0.size) aM aW aY _ kO.out).mono ?_); rintro e ja ⟨ld, rfl, ho0, hb⟩; refine ⟨_, rfl, ?_⟩; have cd := Aside0.mk (Kd.R_lower ho0 (below_size Z0)); replace ae := Aside0.mk (blk_below (g := ag) Z2 hb); replace HB := Aside0.mk (below_step Z0 hb); clear hb ho0; obtain ⟨kQ, kR, eo14⟩ := Kd.R_slice cd.out; subst eo14; have lH := cells_25 ae.out) | ((with_reducible refine Pre.gate_store 25 rfl ?_); refine Pre.store_abs (cur := #[.int .i64 0, .int .i64 0, .int .i64 0, .string ⟨#[]⟩, .int .i64 0, .int .i64 0, .string ⟨#[]⟩, .int .i64 0, .int .i64 0, .string ⟨#[]⟩, .int .i64 0, .string ⟨#[]⟩, .int .i64 0, .int .i64 0, .int .i64 0, .int .i64 0, .int .i64 0, .int .i64 0, .int .i64 0, .string ⟨#[]⟩, .string ⟨#[]⟩, .slice none 0 0, .int .i64 0, .string ⟨#[]⟩, .slice none 0 0]) (e := 25) rfl rfl rfl Z23 Z23 Z2 Z14 Z23 Z23 ?_; intro jG hbS_ sS_; have bY : Aside0 (Kd.R k48 48 jG w.heap.size (fun _ => True) (.slice kQ aM.length kR) aM) := ⟨Kd.R_mono (Pre.R_sets sS_ (Kd.R_types cd.out ae.out Z29) (fun _ hk => hk.2)) (fun _ hk => trivial)⟩; have ca : Aside0 (jG.heap[ag]? = some (.cells #[.int .i64 6, .int .i64 0, .int .i64 0, .string ⟨#[]⟩, .int .i64 0, .int .i64 0, .string ⟨#[]⟩, .int .i64 0, .int .i64 0, .string ⟨#[]⟩, .int .i64 0, .string ⟨#[]⟩, .int .i64 0, .int .i64 0, .int .i64 0, .int .i64 0, .int .i64 0, .int .i64 0, .int .i64 0, .string ⟨#[]⟩, .string ⟨#[]⟩, .slice none 0 0, .int .i64 0, .string ⟨#[]⟩, .slice kQ aM.length kR] 25 (0, 0))) := ⟨hbS_⟩; have cZ : Aside0 (Below w.heap.size w jG) := ⟨sS_.below Z0 bm.out⟩; clear hbS_ sS_; replace cd := bY; replace ae := ca; replace HB := cZ; clear bY ca cZ))
      refine bodyPost_ret (results_ctt rfl _ _ ag 25 #[.int .i64 6, .int .i64 0, .int .i64 0, .string ⟨#[]⟩, .int .i64 0, .int .i64 0, .string ⟨#[]⟩, .int .i64 0, .int .i64 0, .string ⟨#[]⟩, .int .i64 0, .string ⟨#[]⟩, .int .i64 0, .int .i64 0, .int .i64 0, .int .i64 0, .int .i64 0, .int .i64 0, .int .i64 0, .string ⟨#[]⟩, .string ⟨#[]⟩, .slice none 0 0, .int .i64 0, .string ⟨#[]⟩, .slice kQ aM.length kR] (0, 0) _ rfl Z2 Try.underlying25 rfl Z14) rfl ?_
      exact ⟨_, _, Z5, Z13, Z62, Z0⟩
     ·rw [if_neg ee] at H
      have eX : (aY == 0) = false := beq_eq_false_iff_ne.mpr ee
      have hj : (aY != 0) = true := bne_iff_ne.mpr ee
      simp only [Option.some.injEq, Prod.mk.injEq] at H
      obtain ⟨rfl, rfl, rfl, rfl, rfl, rfl, rfl, rfl, rfl, rfl, rfl, rfl, rfl, rfl, rfl, rfl, rfl, rfl, rfl, rfl, rfl, rfl, rfl, rfl, rfl, rfl, rfl⟩ := H
      go_enter Try.func68, Try.ntmps68
      go_wp2_with (first | ((with_reducible refine gate_dst (N := 32) rfl ?_); refine Pre.build_event 32 25 [(0, Go.Operand.const (Go.Value.int Go.IntKind.i64 6)), (24, Go.Operand.tmp 31)] rfl rfl rfl (rrep_ack.bd32 _ _ _ _) ?_) | ((with_reducible refine gate_dst (N := 2) rfl ?_); refine Sq.box 2 #[.int .i64 0, .int .i64 0, .int .i64 0, .string ⟨#[]⟩, .int .i64 0, .int .i64 0, .string ⟨#[]⟩, .int .i64 0, .int .i64 0, .string ⟨#[]⟩, .int .i64 0, .string ⟨#[]⟩, .int .i64 0, .int .i64 0, .int .i64 0, .int .i64 0, .int .i64 0, .int .i64 0, .int .i64 0, .string ⟨#[]⟩, .string ⟨#[]⟩, .slice none 0 0, .int .i64 0, .string ⟨#[]⟩, .slice none 0 0] 25 ?_; intro ag hg iP hbox hb; have ae := Aside0.mk (hbox); have cp := Aside0.mk (Sq.ge hg Z1); have bm := Aside0.mk (Sq.ge hg Z1); replace HB := Aside0.mk (below_step Z1 hb); clear hb hbox hg; have p7 : 0 ≤ (1 : Int) := Z40; have q7 : 1 < a0.size := (by have : (1 : Int) < (a0.size : Int) := of_decide_eq_true Z6; omega); have hx7 : ∀ h : 1 < a0.size, ((a0[1]'h).toNat : Int) = bt a0 1 := bt_at a0 1; clear p7; have qi7 : (1 < (a0.size : Int)) = True := eq_true (of_decide_eq_true Z6); replace q7 := eq_true q7) | ((with_reducible refine gate_callee (f := 59) rfl ?_); refine goesL_ (some 21) rfl rfl Try.func59 Z14 rfl #[.string (a0.extract 2 a0.size)] rfl Z4 ?_; (with_reducible refine (ext_Get.calls k (a0.extract 2 a0.size) aM aW aY _ kO.out).mono ?_); rintro e li ⟨ld, rfl, ho0, hb⟩; refine ⟨_, rfl, ?_⟩; have cd := Aside0.mk (Kd.R_lower ho0 (below_size Z0)); replace ae := Aside0.mk (blk_below (g := ag) Z2 hb); replace HB := Aside0.mk (below_step Z0 hb); clear hb ho0; have jo := cells_25 ae.out) | ((with_reducible refine Pre.gate_store 25 rfl ?_); refine Pre.store_abs (cur := #[.int .i64 0, .int .i64 0, .int .i64 0, .string ⟨#[]⟩, .int .i64 0, .int .i64 0, .string ⟨#[]⟩, .int .i64 0, .int .i64 0, .string ⟨#[]⟩, .int .i64 0, .string ⟨#[]⟩, .int .i64 0, .int .i64 0, .int .i64 0, .int .i64 0, .int .i64 0, .int .i64 0, .int .i64 0, .string ⟨#[]⟩, .string ⟨#[]⟩, .slice none 0 0, .int .i64 0, .string ⟨#[]⟩, .slice none 0 0]) (e := 25) rfl rfl rfl Z23 Z23 Z2 Z14 Z23 Z23 ?_; intro jL hbS_ sS_; have bY : Aside0 (Kd.R k48 48 jL w.heap.size (fun _ => True) ld aM) := ⟨Kd.R_mono (Pre.R_sets sS_ (Kd.R_types cd.out ae.out Z29) (fun _ hk => hk.2)) (fun _ hk => trivial)⟩; have ca : Aside0 (jL.heap[ag]? = some (.cells #[.int .i64 0, .int .i64 0, .int .i64 0, .string ⟨#[]⟩, .int .i64 0, .int .i64 0, .string ⟨#[]⟩, .int .i64 0, .int .i64 0, .string ⟨#[]⟩, .int .i64 0, .string ⟨#[]⟩, .int .i64 0, .int .i64 0, .int .i64 0, .int .i64 0, .int .i64 0, .int .i64 0, .int .i64 0, .string ⟨#[]⟩, .string ⟨#[]⟩, .slice none 0 0, .int .i64 0, .string ⟨#[]⟩, .slice none 0 0] 25 (0, 0))) := ⟨hbS_⟩; have cZ : Aside0 (Below w.heap.size w jL) := ⟨sS_.below Z0 bm.out⟩; clear hbS_ sS_; replace cd := bY; replace ae := ca; replace HB := cZ; clear bY ca cZ))
      refine bodyPost_ret (results_ctt rfl _ _ ag 25 #[.int .i64 0, .int .i64 0, .int .i64 0, .string ⟨#[]⟩, .int .i64 0, .int .i64 0, .string ⟨#[]⟩, .int .i64 0, .int .i64 0, .string ⟨#[]⟩, .int .i64 0, .string ⟨#[]⟩, .int .i64 0, .int .i64 0, .int .i64 0, .int .i64 0, .int .i64 0, .int .i64 0, .int .i64 0, .string ⟨#[]⟩, .string ⟨#[]⟩, .slice none 0 0, .int .i64 0, .string ⟨#[]⟩, .slice none 0 0] (0, 0) _ rfl Z2 Try.underlying25 rfl Z14) rfl ?_
      exact ⟨_, _, Z5, Z13, Z24, Z0⟩
    ·rw [if_neg c9] at H
     exact absurd H Z71
   ·rw [if_neg c8] at H
    have hC : ((bt a0 1) == 0) = false := beq_eq_false_iff_ne.mpr c8
    have jg : ((bt a0 1) != 0) = true := bne_iff_ne.mpr c8
    simp only [Option.some.injEq, Prod.mk.injEq] at H
    obtain ⟨rfl, rfl, rfl, rfl, rfl, rfl, rfl, rfl, rfl, rfl, rfl, rfl, rfl, rfl, rfl, rfl, rfl, rfl, rfl, rfl, rfl, rfl, rfl, rfl, rfl, rfl, rfl⟩ := H
    go_enter Try.func68, Try.ntmps68
    go_wp2_with (first | ((with_reducible refine gate_dst (N := 32) rfl ?_); refine Pre.build_event 32 25 [(0, Go.Operand.const (Go.Value.int Go.IntKind.i64 6)), (24, Go.Operand.tmp 31)] rfl rfl rfl (rrep_ack.bd32 _ _ _ _) ?_) | ((with_reducible refine gate_dst (N := 2) rfl ?_); refine Sq.box 2 #[.int .i64 0, .int .i64 0, .int .i64 0, .string ⟨#[]⟩, .int .i64 0, .int .i64 0, .string ⟨#[]⟩, .int .i64 0, .int .i64 0, .string ⟨#[]⟩, .int .i64 0, .string ⟨#[]⟩, .int .i64 0, .int .i64 0, .int .i64 0, .int .i64 0, .int .i64 0, .int .i64 0, .int .i64 0, .string ⟨#[]⟩, .string ⟨#[]⟩, .slice none 0 0, .int .i64 0, .string ⟨#[]⟩, .slice none 0 0] 25 ?_; intro ag hg oN hbox hb; have ae := Aside0.mk (hbox); have cp := Aside0.mk (Sq.ge hg Z1); have bm := Aside0.mk (Sq.ge hg Z1); replace HB := Aside0.mk (below_step Z1 hb); clear hb hbox hg; have p7 : 0 ≤ (1 : Int) := Z40; have q7 : 1 < a0.size := (by have : (1 : Int) < (a0.size : Int) := of_decide_eq_true Z6; omega); have hx7 : ∀ h : 1 < a0.size, ((a0[1]'h).toNat : Int) = bt a0 1 := bt_at a0 1; clear p7; have qi7 : (1 < (a0.size : Int)) = True := eq_true (of_decide_eq_true Z6); replace q7 := eq_true q7; have jV := cells_25 ae.out) | ((with_reducible refine Pre.gate_store 25 rfl ?_); refine Pre.store_abs (cur := #[.int .i64 0, .int .i64 0, .int .i64 0, .string ⟨#[]⟩, .int .i64 0, .int .i64 0, .string ⟨#[]⟩, .int .i64 0, .int .i64 0, .string ⟨#[]⟩, .int .i64 0, .string ⟨#[]⟩, .int .i64 0, .int .i64 0, .int .i64 0, .int .i64 0, .int .i64 0, .int .i64 0, .int .i64 0, .string ⟨#[]⟩, .string ⟨#[]⟩, .slice none 0 0, .int .i64 0, .string ⟨#[]⟩, .slice none 0 0]) (e := 25) rfl rfl rfl Z23 Z23 Z2 Z14 Z23 Z23 ?_; intro jS hbS_ sS_; have bY : Aside0 (jS.heap[ag]? = some (.cells #[.int .i64 0, .int .i64 0, .int .i64 0, .string ⟨#[]⟩, .int .i64 0, .int .i64 0, .string ⟨#[]⟩, .int .i64 0, .int .i64 0, .string ⟨#[]⟩, .int .i64 0, .string ⟨#[]⟩, .int .i64 0, .int .i64 0, .int .i64 0, .int .i64 0, .int .i64 0, .int .i64 0, .int .i64 0, .string ⟨#[]⟩, .string ⟨#[]⟩, .slice none 0 0, .int .i64 0, .string ⟨#[]⟩, .slice none 0 0] 25 (0, 0))) := ⟨hbS_⟩; have ca : Aside0 (Below w.heap.size w jS) := ⟨sS_.below Z0 bm.out⟩; clear hbS_ sS_; replace ae := bY; replace HB := ca; clear bY ca))
    refine bodyPost_ret (results_ctt rfl _ _ ag 25 #[.int .i64 0, .int .i64 0, .int .i64 0, .string ⟨#[]⟩, .int .i64 0, .int .i64 0, .string ⟨#[]⟩, .int .i64 0, .int .i64 0, .string ⟨#[]⟩, .int .i64 0, .string ⟨#[]⟩, .int .i64 0, .int .i64 0, .int .i64 0, .int .i64 0, .int .i64 0, .int .i64 0, .int .i64 0, .string ⟨#[]⟩, .string ⟨#[]⟩, .slice none 0 0, .int .i64 0, .string ⟨#[]⟩, .slice none 0 0] (0, 0) _ rfl Z2 Try.underlying25 rfl Z14) rfl ?_
    exact ⟨_, _, Z5, Z13, Z24, Z0⟩
  ·rw [if_neg c6] at H
   exact absurd H Z71

/-! ### rrep_Right: function 36 -/
def rrep_Right.j0 : Nat → Bool → Int → Int → Int → ByteArray → Int → Int → ByteArray → Int → Int → ByteArray → Int → ByteArray → Int → Int → Int → Int → Int → Int → Int → ByteArray → ByteArray → List (S46) → Int → ByteArray → List (S48) → Option (Bool)
 | 0, _, _, _, _, _, _, _, _, _, _, _, _, _, _, _, _, _, _, _, _, _, _, _, _, _, _ => none
 | k + 1, ms, bB, bN, bO, bP, bQ, bR, bS, bC, bT, bU, bV, bI, bw, bD, bE, bx, bA, bF, bJ, bG, bH, bs, bK, bL, bp => if ms = true then (some false) else (if bB = 6 then (some true) else (if bB = 4 then (if bx ≥ 0 then (if bx < 4 then (if bC ≥ 0 then (if bC < 32 then ((octet_Fits.f bA 1).bind fun aY => (if aY = true then ((octet_Fits.f bw 4).bind fun bq => (if bq = true then ((octet_Fits.f bE 4).bind fun aT => (if aT = true then (if (bG.size : Int) = 4 then (some ((bH.size : Int) == 4)) else (some false)) else (some false))) else (some false))) else (some false))) else (some false)) else (some false)) else (some false)) else (some false)) else (some false)))
def rrep_Right.f (k : Nat) (ax : Int) (av : Int) (aw : Int) (ay : ByteArray) (az : Int) (aH : Int) (aE : ByteArray) (aA : Int) (aD : Int) (aC : ByteArray) (au : Int) (an : ByteArray) (al : Int) (ak : Int) (ar : Int) (af : Int) (ai : Int) (am : Int) (ao : Int) (aa : ByteArray) (ac : ByteArray) (ab : List (S46)) (ap : Int) (aq : ByteArray) (ah : List (S48)) : Option (Bool) := (msg_Bare.f ax av aw ay az aH aE aA aD aC au an al ak ar af ai am ao aa ac ab ap aq ah).bind fun aM => (if aM = true then ((ext_Right.f k ah).bind fun aW => (rrep_Right.j0 k (!aW) ax av aw ay az aH aE aA aD aC au an al ak ar af ai am ao aa ac ab ap aq ah)) else (rrep_Right.j0 k true ax av aw ay az aH aE aA aD aC au an al ak ar af ai am ao aa ac ab ap aq ah))
theorem rrep_Right.mono_l : ∀ k, (∀ y0 y1 y2 y3 y4 y5 y6 y7 y8 y9 fr fs ft fu fv fw fx fy fz fA fB fC fD fE fF fG, LeO (rrep_Right.j0 k y0 y1 y2 y3 y4 y5 y6 y7 y8 y9 fr fs ft fu fv fw fx fy fz fA fB fC fD fE fF fG) (rrep_Right.j0 (k + 1) y0 y1 y2 y3 y4 y5 y6 y7 y8 y9 fr fs ft fu fv fw fx fy fz fA fB fC fD fE fF fG))
 | 0 => Sq.mz
 | k + 1 => by
  have ih0 := rrep_Right.mono_l k
  ·intros
   unfold rrep_Right.j0
   have m0 := ext_Right.mono
   exact Sq.mo
theorem rrep_Right.mono : ∀ a0 a1 a2 a3 a4 a5 a6 a7 a8 a9 gs gu gv gw gy gz gA gB gC gD gE gF gG gH gI k, LeO (rrep_Right.f k a0 a1 a2 a3 a4 a5 a6 a7 a8 a9 gs gu gv gw gy gz gA gB gC gD gE gF gG gH gI) (rrep_Right.f (k + 1) a0 a1 a2 a3 a4 a5 a6 a7 a8 a9 gs gu gv gw gy gz gA gB gC gD gE gF gG gH gI) := by
 intro a0 a1 a2 a3 a4 a5 a6 a7 a8 a9 gs gu gv gw gy gz gA gB gC gD gE gF gG gH gI k
 have ih0 := rrep_Right.mono_l k
 unfold rrep_Right.f
 have m0 := ext_Right.mono
 exact Sq.mo

set_option maxHeartbeats 8000000 in
set_option maxRecDepth 100000 in
theorem rrep_Right.calls (k : Nat) (ax : Int) (av : Int) (aw : Int) (ay : ByteArray) (az : Int) (aH : Int) (aE : ByteArray) (aA : Int) (aD : Int) (aC : ByteArray) (au : Int) (an : ByteArray) (al : Int) (ak : Int) (ar : Int) (af : Int) (ai : Int) (am : Int) (ao : Int) (aa : ByteArray) (ac : ByteArray) (bg : Option Addr) (bb : Nat) (ab : List (S46)) (ap : Int) (aq : ByteArray) (aZ : Option Addr) (ba : Nat) (ah : List (S48)) (r : Bool) (w : World) (cf : Kd.C k46 w bg ab.length ab) (cg : ab.length ≤ bb) (ch : Kd.C k48 w aZ ah.length ah) (ci : ah.length ≤ ba) (h : rrep_Right.f k ax av aw ay az aH aE aA aD aC au an al ak ar af ai am ao aa ac ab ap aq ah = some r) :
  Calls Try.prog 36 #[.agg #[.int .i64 ax, .int .i64 av, .int .i64 aw, .string ay, .int .i64 az, .int .i64 aH, .string aE, .int .i64 aA, .int .i64 aD, .string aC, .int .i64 au, .string an, .int .i64 al, .int .i64 ak, .int .i64 ar, .int .i64 af, .int .i64 ai, .int .i64 am, .int .i64 ao, .string aa, .string ac, .slice bg ab.length bb, .int .i64 ap, .string aq, .slice aZ ah.length ba]] w fun e w' => e = .returned (.bool r) ∧ Below w.heap.size w w' := by
 have fi := Try.underlying25
 have ed := Aside0.mk cf
 have bM := Aside0.mk cg
 clear cf cg
 have er := Aside0.mk ch
 have br := Aside0.mk ci
 clear ch ci
 have HB := Aside0.mk (Below.refl w.heap.size w)
 have H : ((msg_Bare.f ax av aw ay az aH aE aA aD aC au an al ak ar af ai am ao aa ac ab ap aq ah).bind fun aM => (if aM = true then ((ext_Right.f k ah).bind fun aW => (rrep_Right.j0 k (!aW) ax av aw ay az aH aE aA aD aC au an al ak ar af ai am ao aa ac ab ap aq ah)) else (rrep_Right.j0 k true ax av aw ay az aH aE aA aD aC au an al ak ar af ai am ao aa ac ab ap aq ah))) = some r := h
 clear h
 have iR := Aside0.mk H
 clear H
 go_enter Try.func36, Try.ntmps36
 go_upto_region 1 with (first | ((with_reducible refine Pre.gate_load 25 rfl ?_); (try (refine gate_guard Z23 ?_; dsimp only)); refine Pre.load_event rfl rfl rfl Z23 Z3 Try.underlying25 rfl Z14 ?_) | ((with_reducible refine gate_dst (N := 1) rfl ?_); (try (refine gate_guard Z23 ?_; dsimp only)); refine Sq.box 1 #[.int .i64 ax, .int .i64 av, .int .i64 aw, .string ay, .int .i64 az, .int .i64 aH, .string aE, .int .i64 aA, .int .i64 aD, .string aC, .int .i64 au, .string an, .int .i64 al, .int .i64 ak, .int .i64 ar, .int .i64 af, .int .i64 ai, .int .i64 am, .int .i64 ao, .string aa, .string ac, .slice bg ab.length bb, .int .i64 ap, .string aq, .slice aZ ah.length ba] 25 ?_; intro ag hg w3 hbox hb; have ae := Aside0.mk (hbox); have cp := Aside0.mk (Sq.ge hg Z1); have bm := Aside0.mk (Sq.ge hg Z1); replace HB := Aside0.mk (below_step Z1 hb); clear hb hbox hg))
 (try simp only [Act.put, Sq.s1, Sq.s2, Sq.s3])
 go_cut [11] (fun kL wc => ∃ (kq : Nat) (cI : Bool), kL = .bool cI ∧ Aside0 (rrep_Right.j0 kq cI ax av aw ay az aH aE aA aD aC au an al ak ar af ai am ao aa ac ab ap aq ah = some r) ∧ Aside0 (kq ≤ k) ∧ Aside0 (wc.heap[ag]? = some (.cells #[.int .i64 ax, .int .i64 av, .int .i64 aw, .string ay, .int .i64 az, .int .i64 aH, .string aE, .int .i64 aA, .int .i64 aD, .string aC, .int .i64 au, .string an, .int .i64 al, .int .i64 ak, .int .i64 ar, .int .i64 af, .int .i64 ai, .int .i64 am, .int .i64 ao, .string aa, .string ac, (.slice bg ab.length bb), .int .i64 ap, .string aq, (.slice aZ ah.length ba)] 25 (0, 0))) ∧ Aside0 (Below w.heap.size w wc))
 case first =>
  have H := iR.out
  clear iR
  replace H := Option.bind_eq_some_iff.mp H
  obtain ⟨aM, ku, H⟩ := H
  replace H : (if aM = true then ((ext_Right.f k ah).bind fun aW => (rrep_Right.j0 k (!aW) ax av aw ay az aH aE aA aD aC au an al ak ar af ai am ao aa ac ab ap aq ah)) else (rrep_Right.j0 k true ax av aw ay az aH aE aA aD aC au an al ak ar af ai am ao aa ac ab ap aq ah)) = some r := H
  have A4 := Aside0.mk ku
  clear ku
  by_cases c5 : aM = true
  ·subst c5
   replace H := Sq.itT H
   replace H := Option.bind_eq_some_iff.mp H
   obtain ⟨aW, qR, H⟩ := H
   replace H : (rrep_Right.j0 k (!aW) ax av aw ay az aH aE aA aD aC au an al ak ar af ai am ao aa ac ab ap aq ah) = some r := H
   have A6 := Aside0.mk qR
   clear qR
   have H' := Aside0.mk H
   clear H
   have iO := cells_25 ae.out
   go_wp2_with (first | ((with_reducible refine Pre.gate_load 25 rfl ?_); (try (refine gate_guard Z23 ?_; dsimp only)); refine Pre.load_event rfl rfl rfl Z23 Z3 Try.underlying25 rfl Z14 ?_) | ((with_reducible refine gate_callee (f := 53) rfl ?_); refine goesL_ (some 4) rfl rfl Try.func53 Z14 rfl #[.agg #[.int .i64 ax, .int .i64 av, .int .i64 aw, .string ay, .int .i64 az, .int .i64 aH, .string aE, .int .i64 aA, .int .i64 aD, .string aC, .int .i64 au, .string an, .int .i64 al, .int .i64 ak, .int .i64 ar, .int .i64 af, .int .i64 ai, .int .i64 am, .int .i64 ao, .string aa, .string ac, .slice bg ab.length bb, .int .i64 ap, .string aq, .slice aZ ah.length ba]] rfl Z4 ?_; (with_reducible refine (msg_Bare.calls ax av aw ay az aH aE aA aD aC au an al ak ar af ai am ao aa ac _ _ ab ap aq _ _ ah true _ ?side1 ?side2 ?side3 ?side4 A4.out).mono ?_); (case side1 => exact Z10); (case side2 => exact bM.out); (case side3 => exact Z7); (case side4 => exact br.out); rintro e w8 ⟨rfl, hb⟩; refine ⟨_, rfl, ?_⟩; replace ae := Aside0.mk (blk_below (g := ag) Z2 hb); replace HB := Aside0.mk (below_step Z0 hb); clear hb; have kt := cells_25 ae.out) | (go_at_call 55; (with_reducible refine (ext_Right.calls k _ _ ah aW _ ?side1 ?side2 A6.out).mono ?_); (case side1 => exact Z7); (case side2 => exact br.out); rintro e rN ⟨rfl, hb⟩; replace ae := Aside0.mk (blk_below (g := ag) Z2 hb); replace HB := Aside0.mk (below_step Z0 hb); clear hb))
   go_meet
   case rel => exact ⟨_, (!aW), Z16, H', ⟨Z39⟩, ⟨Z2⟩, ⟨Z0⟩⟩
  ·replace c5 := Bool.eq_false_iff.mpr c5
   subst c5
   replace H := Sq.itF H
   have H' := Aside0.mk H
   clear H
   have jY := cells_25 ae.out
   go_wp2_with (first | ((with_reducible refine Pre.gate_load 25 rfl ?_); (try (refine gate_guard Z23 ?_; dsimp only)); refine Pre.load_event rfl rfl rfl Z23 Z3 Try.underlying25 rfl Z14 ?_) | ((with_reducible refine gate_callee (f := 53) rfl ?_); refine goesL_ (some 4) rfl rfl Try.func53 Z14 rfl #[.agg #[.int .i64 ax, .int .i64 av, .int .i64 aw, .string ay, .int .i64 az, .int .i64 aH, .string aE, .int .i64 aA, .int .i64 aD, .string aC, .int .i64 au, .string an, .int .i64 al, .int .i64 ak, .int .i64 ar, .int .i64 af, .int .i64 ai, .int .i64 am, .int .i64 ao, .string aa, .string ac, .slice bg ab.length bb, .int .i64 ap, .string aq, .slice aZ ah.length ba]] rfl Z4 ?_; (with_reducible refine (msg_Bare.calls ax av aw ay az aH aE aA aD aC au an al ak ar af ai am ao aa ac _ _ ab ap aq _ _ ah false _ ?side1 ?side2 ?side3 ?side4 A4.out).mono ?_); (case side1 => exact Z10); (case side2 => exact bM.out); (case side3 => exact Z7); (case side4 => exact br.out); rintro e po ⟨rfl, hb⟩; refine ⟨_, rfl, ?_⟩; replace ae := Aside0.mk (blk_below (g := ag) Z2 hb); replace HB := Aside0.mk (below_step Z0 hb); clear hb))
   go_meet
   case rel => exact ⟨_, (true), Z16, H', ⟨Z39⟩, ⟨Z2⟩, ⟨Z0⟩⟩
 case rest =>
  clear iR
  try clear c3
  obtain ⟨kq, cI, rfl, HA, kJ, ae, HB⟩ := hcut
  cases kq with
  | zero => exact absurd HA.out (by simp [rrep_Right.j0])
  | succ kj1 =>
   have H := HA.out
   clear HA
   simp only [rrep_Right.j0] at H
   by_cases eU : cI = true
   ·subst eU
    replace H := Sq.itT H
    obtain rfl := Option.some.inj H
    go_wp2_with (first | ((with_reducible refine Pre.gate_load 25 rfl ?_); (try (refine gate_guard Z23 ?_; dsimp only)); refine Pre.load_event rfl rfl rfl Z23 Z3 Try.underlying25 rfl Z14 ?_))
    go_ret
    exact ⟨Z5, Z0⟩
   ·replace eU := Bool.eq_false_iff.mpr eU
    subst eU
    replace H := Sq.itF H
    by_cases hH : ax = 6
    ·rw [if_pos hH] at H
     have lI : (ax == 6) = true := beq_iff_eq.mpr hH
     have lJ : (ax != 6) = false := bne_eq_false_iff_eq.mpr hH
     clear hH
     obtain rfl := Option.some.inj H
     have lH := cells_25 ae.out
     go_wp2_with (first | ((with_reducible refine Pre.gate_load 25 rfl ?_); (try (refine gate_guard Z23 ?_; dsimp only)); refine Pre.load_event rfl rfl rfl Z23 Z3 Try.underlying25 rfl Z14 ?_))
     go_ret
     exact ⟨Z5, Z0⟩
    ·rw [if_neg hH] at H
     have lI : (ax == 6) = false := beq_eq_false_iff_ne.mpr hH
     have lJ : (ax != 6) = true := bne_iff_ne.mpr hH
     by_cases fL : ax = 4
     ·rw [if_pos fL] at H
      have hQ : (ax == 4) = true := beq_iff_eq.mpr fL
      have ke : (ax != 4) = false := bne_eq_false_iff_eq.mpr fL
      clear fL
      by_cases hR : af ≥ 0
      ·rw [if_pos hR] at H
       have jZ : decide (0 ≤ af) = true := decide_eq_true hR
       clear hR
       by_cases hu : af < 4
       ·rw [if_pos hu] at H
        have ka : decide (af < 4) = true := decide_eq_true hu
        clear hu
        by_cases hA : aA ≥ 0
        ·rw [if_pos hA] at H
         have jx : decide (0 ≤ aA) = true := decide_eq_true hA
         clear hA
         by_cases kw : aA < 32
         ·rw [if_pos kw] at H
          have nB : decide (aA < 32) = true := decide_eq_true kw
          clear kw
          replace H := Option.bind_eq_some_iff.mp H
          obtain ⟨aY, jr, H⟩ := H
          replace H : (if aY = true then ((octet_Fits.f al 4).bind fun bq => (if bq = true then ((octet_Fits.f ar 4).bind fun aT => (if aT = true then (if (aa.size : Int) = 4 then (some ((ac.size : Int) == 4)) else (some false)) else (some false))) else (some false))) else (some false)) = some r := H
          have eF := Aside0.mk jr
          clear jr
          by_cases hv : aY = true
          ·subst hv
           replace H := Sq.itT H
           replace H := Option.bind_eq_some_iff.mp H
           obtain ⟨bq, js, H⟩ := H
           replace H : (if bq = true then ((octet_Fits.f ar 4).bind fun aT => (if aT = true then (if (aa.size : Int) = 4 then (some ((ac.size : Int) == 4)) else (some false)) else (some false))) else (some false)) = some r := H
           have mm := Aside0.mk js
           clear js
           by_cases eb : bq = true
           ·subst eb
            replace H := Sq.itT H
            replace H := Option.bind_eq_some_iff.mp H
            obtain ⟨aT, qS, H⟩ := H
            replace H : (if aT = true then (if (aa.size : Int) = 4 then (some ((ac.size : Int) == 4)) else (some false)) else (some false)) = some r := H
            have sJ := Aside0.mk qS
            clear qS
            by_cases mx : aT = true
            ·subst mx
             replace H := Sq.itT H
             by_cases iG : (aa.size : Int) = 4
             ·rw [if_pos iG] at H
              have hf : ((aa.size : Int) == 4) = true := beq_iff_eq.mpr iG
              have jN : ((aa.size : Int) != 4) = false := bne_eq_false_iff_eq.mpr iG
              clear iG
              obtain rfl := Option.some.inj H
              have lk := cells_25 ae.out
              go_wp2_with (first | ((with_reducible refine Pre.gate_load 25 rfl ?_); (try (refine gate_guard Z23 ?_; dsimp only)); refine Pre.load_event rfl rfl rfl Z23 Z3 Try.underlying25 rfl Z14 ?_) | (go_at_call 54; (with_reducible refine (octet_Fits.calls ai 1 true _ eF.out).mono ?_); rintro e w' ⟨rfl, ⟨nd, rfl⟩⟩) | (go_at_call 54; (with_reducible refine (octet_Fits.calls al 4 true _ mm.out).mono ?_); rintro e w' ⟨rfl, ⟨nd, rfl⟩⟩) | (go_at_call 54; (with_reducible refine (octet_Fits.calls ar 4 true _ sJ.out).mono ?_); rintro e w' ⟨rfl, ⟨nd, rfl⟩⟩))
              go_ret
              exact ⟨Z5, Z0⟩
             ·rw [if_neg iG] at H
              have hf : ((aa.size : Int) == 4) = false := beq_eq_false_iff_ne.mpr iG
              have jN : ((aa.size : Int) != 4) = true := bne_iff_ne.mpr iG
              obtain rfl := Option.some.inj H
              have nC := cells_25 ae.out
              go_wp2_with (first | ((with_reducible refine Pre.gate_load 25 rfl ?_); (try (refine gate_guard Z23 ?_; dsimp only)); refine Pre.load_event rfl rfl rfl Z23 Z3 Try.underlying25 rfl Z14 ?_) | (go_at_call 54; (with_reducible refine (octet_Fits.calls ai 1 true _ eF.out).mono ?_); rintro e w' ⟨rfl, ⟨nd, rfl⟩⟩) | (go_at_call 54; (with_reducible refine (octet_Fits.calls al 4 true _ mm.out).mono ?_); rintro e w' ⟨rfl, ⟨nd, rfl⟩⟩) | (go_at_call 54; (with_reducible refine (octet_Fits.calls ar 4 true _ sJ.out).mono ?_); rintro e w' ⟨rfl, ⟨nd, rfl⟩⟩))
              go_ret
              exact ⟨Z5, Z0⟩
            ·replace mx := Bool.eq_false_iff.mpr mx
             subst mx
             replace H := Sq.itF H
             obtain rfl := Option.some.inj H
             have kV := cells_25 ae.out
             go_wp2_with (first | ((with_reducible refine Pre.gate_load 25 rfl ?_); (try (refine gate_guard Z23 ?_; dsimp only)); refine Pre.load_event rfl rfl rfl Z23 Z3 Try.underlying25 rfl Z14 ?_) | (go_at_call 54; (with_reducible refine (octet_Fits.calls ai 1 true _ eF.out).mono ?_); rintro e w' ⟨rfl, ⟨nd, rfl⟩⟩) | (go_at_call 54; (with_reducible refine (octet_Fits.calls al 4 true _ mm.out).mono ?_); rintro e w' ⟨rfl, ⟨nd, rfl⟩⟩) | (go_at_call 54; (with_reducible refine (octet_Fits.calls ar 4 false _ sJ.out).mono ?_); rintro e w' ⟨rfl, ⟨nd, rfl⟩⟩))
             go_ret
             exact ⟨Z5, Z0⟩
           ·replace eb := Bool.eq_false_iff.mpr eb
            subst eb
            replace H := Sq.itF H
            obtain rfl := Option.some.inj H
            have qH := cells_25 ae.out
            go_wp2_with (first | ((with_reducible refine Pre.gate_load 25 rfl ?_); (try (refine gate_guard Z23 ?_; dsimp only)); refine Pre.load_event rfl rfl rfl Z23 Z3 Try.underlying25 rfl Z14 ?_) | (go_at_call 54; (with_reducible refine (octet_Fits.calls ai 1 true _ eF.out).mono ?_); rintro e w' ⟨rfl, ⟨nd, rfl⟩⟩) | (go_at_call 54; (with_reducible refine (octet_Fits.calls al 4 false _ mm.out).mono ?_); rintro e w' ⟨rfl, ⟨nd, rfl⟩⟩))
            go_ret
            exact ⟨Z5, Z0⟩
          ·replace hv := Bool.eq_false_iff.mpr hv
           subst hv
           replace H := Sq.itF H
           obtain rfl := Option.some.inj H
           have qT := cells_25 ae.out
           go_wp2_with (first | ((with_reducible refine Pre.gate_load 25 rfl ?_); (try (refine gate_guard Z23 ?_; dsimp only)); refine Pre.load_event rfl rfl rfl Z23 Z3 Try.underlying25 rfl Z14 ?_) | (go_at_call 54; (with_reducible refine (octet_Fits.calls ai 1 false _ eF.out).mono ?_); rintro e w' ⟨rfl, ⟨nd, rfl⟩⟩))
           go_ret
           exact ⟨Z5, Z0⟩
         ·rw [if_neg kw] at H
          have nB : decide (aA < 32) = false := decide_eq_false kw
          clear kw
          obtain rfl := Option.some.inj H
          have lK := cells_25 ae.out
          go_wp2_with (first | ((with_reducible refine Pre.gate_load 25 rfl ?_); (try (refine gate_guard Z23 ?_; dsimp only)); refine Pre.load_event rfl rfl rfl Z23 Z3 Try.underlying25 rfl Z14 ?_))
          go_ret
          exact ⟨Z5, Z0⟩
        ·rw [if_neg hA] at H
         have jx : decide (0 ≤ aA) = false := decide_eq_false hA
         clear hA
         obtain rfl := Option.some.inj H
         have hcz34 := cells_25 ae.out
         go_wp2_with (first | ((with_reducible refine Pre.gate_load 25 rfl ?_); (try (refine gate_guard Z23 ?_; dsimp only)); refine Pre.load_event rfl rfl rfl Z23 Z3 Try.underlying25 rfl Z14 ?_))
         go_ret
         exact ⟨Z5, Z0⟩
       ·rw [if_neg hu] at H
        have ka : decide (af < 4) = false := decide_eq_false hu
        clear hu
        obtain rfl := Option.some.inj H
        have nD := cells_25 ae.out
        go_wp2_with (first | ((with_reducible refine Pre.gate_load 25 rfl ?_); (try (refine gate_guard Z23 ?_; dsimp only)); refine Pre.load_event rfl rfl rfl Z23 Z3 Try.underlying25 rfl Z14 ?_))
        go_ret
        exact ⟨Z5, Z0⟩
      ·rw [if_neg hR] at H
       have jZ : decide (0 ≤ af) = false := decide_eq_false hR
       clear hR
       obtain rfl := Option.some.inj H
       have hcz36 := cells_25 ae.out
       go_wp2_with (first | ((with_reducible refine Pre.gate_load 25 rfl ?_); (try (refine gate_guard Z23 ?_; dsimp only)); refine Pre.load_event rfl rfl rfl Z23 Z3 Try.underlying25 rfl Z14 ?_))
       go_ret
       exact ⟨Z5, Z0⟩
     ·rw [if_neg fL] at H
      have hQ : (ax == 4) = false := beq_eq_false_iff_ne.mpr fL
      have ke : (ax != 4) = true := bne_iff_ne.mpr fL
      obtain rfl := Option.some.inj H
      have qU := cells_25 ae.out
      go_wp2_with (first | ((with_reducible refine Pre.gate_load 25 rfl ?_); (try (refine gate_guard Z23 ?_; dsimp only)); refine Pre.load_event rfl rfl rfl Z23 Z3 Try.underlying25 rfl Z14 ?_))
      go_ret
      exact ⟨Z5, Z0⟩

/-! ### rrep_Put: function 34 -/
def rrep_Put.f (k : Nat) (ax : Int) (av : Int) (aw : Int) (ay : ByteArray) (az : Int) (aH : Int) (aE : ByteArray) (aA : Int) (aD : Int) (aC : ByteArray) (au : Int) (an : ByteArray) (al : Int) (ak : Int) (ar : Int) (af : Int) (ai : Int) (am : Int) (ao : Int) (aa : ByteArray) (ac : ByteArray) (ab : List (S46)) (ap : Int) (aq : ByteArray) (ah : List (S48)) : Option (ByteArray × Bool) := (rrep_Right.f k ax av aw ay az aH aE aA aD aC au an al ak ar af ai am ao aa ac ab ap aq ah).bind fun aM => (if aM = true then ((ext_Put.f k ah).bind fun bu => (if ax = 6 then (if 2 + bu.1.size ≤ 9223372036854775807 then (some ((⟨#[4, 0]⟩ : ByteArray) ++ bu.1, true)) else (none)) else ((octet_Put.f k al 4).bind fun dw => ((octet_Put.f k ar 4).bind fun bW => ((some (([2, (wrap64 (af * 64)) % 256, (aA) % 256, (ai) % 256] : List Int) : List Int)).bind fun cj => (if (strOfNums cj).size + aa.size ≤ 9223372036854775807 then (if ((strOfNums cj) ++ aa).size + dw.1.size ≤ 9223372036854775807 then (if (((strOfNums cj) ++ aa) ++ dw.1).size + ac.size ≤ 9223372036854775807 then (if ((((strOfNums cj) ++ aa) ++ dw.1) ++ ac).size + bW.1.size ≤ 9223372036854775807 then (if (((((strOfNums cj) ++ aa) ++ dw.1) ++ ac) ++ bW.1).size + bu.1.size ≤ 9223372036854775807 then (some ((((((strOfNums cj) ++ aa) ++ dw.1) ++ ac) ++ bW.1) ++ bu.1, true)) else (none)) else (none)) else (none)) else (none)) else (none))))))) else (some ((⟨#[]⟩ : ByteArray), false)))
theorem rrep_Put.mono : ∀ a0 a1 a2 a3 a4 a5 a6 a7 a8 a9 gs gu gv gw gy gz gA gB gC gD gE gF gG gH gI k, LeO (rrep_Put.f k a0 a1 a2 a3 a4 a5 a6 a7 a8 a9 gs gu gv gw gy gz gA gB gC gD gE gF gG gH gI) (rrep_Put.f (k + 1) a0 a1 a2 a3 a4 a5 a6 a7 a8 a9 gs gu gv gw gy gz gA gB gC gD gE gF gG gH gI) := by
 intros
 rename_i k
 unfold rrep_Put.f
 have m0 := ext_Put.mono
 have m1 := octet_Put.mono
 have m2 := rrep_Right.mono
 exact Sq.mo

set_option maxHeartbeats 8000000 in
set_option maxRecDepth 100000 in
theorem rrep_Put.calls (k : Nat) (ax : Int) (av : Int) (aw : Int) (ay : ByteArray) (az : Int) (aH : Int) (aE : ByteArray) (aA : Int) (aD : Int) (aC : ByteArray) (au : Int) (an : ByteArray) (al : Int) (ak : Int) (ar : Int) (af : Int) (ai : Int) (am : Int) (ao : Int) (aa : ByteArray) (ac : ByteArray) (bg : Option Addr) (bb : Nat) (ab : List (S46)) (ap : Int) (aq : ByteArray) (aZ : Option Addr) (ba : Nat) (ah : List (S48)) (r1 : ByteArray) (r2 : Bool) (w : World) (cf : Kd.C k46 w bg ab.length ab) (cg : ab.length ≤ bb) (ch : Kd.C k48 w aZ ah.length ah) (ci : ah.length ≤ ba) (h : rrep_Put.f k ax av aw ay az aH aE aA aD aC au an al ak ar af ai am ao aa ac ab ap aq ah = some (r1, r2)) :
  Calls Try.prog 34 #[.agg #[.int .i64 ax, .int .i64 av, .int .i64 aw, .string ay, .int .i64 az, .int .i64 aH, .string aE, .int .i64 aA, .int .i64 aD, .string aC, .int .i64 au, .string an, .int .i64 al, .int .i64 ak, .int .i64 ar, .int .i64 af, .int .i64 ai, .int .i64 am, .int .i64 ao, .string aa, .string ac, .slice bg ab.length bb, .int .i64 ap, .string aq, .slice aZ ah.length ba]] w fun e w' => e = .returned (.tuple #[.string r1, .bool r2]) ∧ Below w.heap.size w w' := by
 have fi := Try.underlying25
 have ed := Aside0.mk cf
 have bM := Aside0.mk cg
 clear cf cg
 have er := Aside0.mk ch
 have br := Aside0.mk ci
 clear ch ci
 have HB := Aside0.mk (Below.refl w.heap.size w)
 have H : ((rrep_Right.f k ax av aw ay az aH aE aA aD aC au an al ak ar af ai am ao aa ac ab ap aq ah).bind fun aM => (if aM = true then ((ext_Put.f k ah).bind fun bu => (if ax = 6 then (if 2 + bu.1.size ≤ 9223372036854775807 then (some ((⟨#[4, 0]⟩ : ByteArray) ++ bu.1, true)) else (none)) else ((octet_Put.f k al 4).bind fun dw => ((octet_Put.f k ar 4).bind fun bW => ((some (([2, (wrap64 (af * 64)) % 256, (aA) % 256, (ai) % 256] : List Int) : List Int)).bind fun cj => (if (strOfNums cj).size + aa.size ≤ 9223372036854775807 then (if ((strOfNums cj) ++ aa).size + dw.1.size ≤ 9223372036854775807 then (if (((strOfNums cj) ++ aa) ++ dw.1).size + ac.size ≤ 9223372036854775807 then (if ((((strOfNums cj) ++ aa) ++ dw.1) ++ ac).size + bW.1.size ≤ 9223372036854775807 then (if (((((strOfNums cj) ++ aa) ++ dw.1) ++ ac) ++ bW.1).size + bu.1.size ≤ 9223372036854775807 then (some ((((((strOfNums cj) ++ aa) ++ dw.1) ++ ac) ++ bW.1) ++ bu.1, true)) else (none)) else (none)) else (none)) else (none)) else (none))))))) else (some ((⟨#[]⟩ : ByteArray), false)))) = some (r1, r2) := h
 clear h
 replace H := Option.bind_eq_some_iff.mp H
 obtain ⟨aM, gb, H⟩ := H
 replace H : (if aM = true then ((ext_Put.f k ah).bind fun bu => (if ax = 6 then (if 2 + bu.1.size ≤ 9223372036854775807 then (some ((⟨#[4, 0]⟩ : ByteArray) ++ bu.1, true)) else (none)) else ((octet_Put.f k al 4).bind fun dw => ((octet_Put.f k ar 4).bind fun bW => ((some (([2, (wrap64 (af * 64)) % 256, (aA) % 256, (ai) % 256] : List Int) : List Int)).bind fun cj => (if (strOfNums cj).size + aa.size ≤ 9223372036854775807 then (if ((strOfNums cj) ++ aa).size + dw.1.size ≤ 9223372036854775807 then (if (((strOfNums cj) ++ aa) ++ dw.1).size + ac.size ≤ 9223372036854775807 then (if ((((strOfNums cj) ++ aa) ++ dw.1) ++ ac).size + bW.1.size ≤ 9223372036854775807 then (if (((((strOfNums cj) ++ aa) ++ dw.1) ++ ac) ++ bW.1).size + bu.1.size ≤ 9223372036854775807 then (some ((((((strOfNums cj) ++ aa) ++ dw.1) ++ ac) ++ bW.1) ++ bu.1, true)) else (none)) else (none)) else (none)) else (none)) else (none))))))) else (some ((⟨#[]⟩ : ByteArray), false))) = some (r1, r2) := H
 have A2 := Aside0.mk gb
 clear gb
 by_cases c3 : aM = true
 ·subst c3
  have H1 : ((ext_Put.f k ah).bind fun bu => (if ax = 6 then (if 2 + bu.1.size ≤ 9223372036854775807 then (some ((⟨#[4, 0]⟩ : ByteArray) ++ bu.1, true)) else (none)) else ((octet_Put.f k al 4).bind fun dw => ((octet_Put.f k ar 4).bind fun bW => ((some (([2, (wrap64 (af * 64)) % 256, (aA) % 256, (ai) % 256] : List Int) : List Int)).bind fun cj => (if (strOfNums cj).size + aa.size ≤ 9223372036854775807 then (if ((strOfNums cj) ++ aa).size + dw.1.size ≤ 9223372036854775807 then (if (((strOfNums cj) ++ aa) ++ dw.1).size + ac.size ≤ 9223372036854775807 then (if ((((strOfNums cj) ++ aa) ++ dw.1) ++ ac).size + bW.1.size ≤ 9223372036854775807 then (if (((((strOfNums cj) ++ aa) ++ dw.1) ++ ac) ++ bW.1).size + bu.1.size ≤ 9223372036854775807 then (some ((((((strOfNums cj) ++ aa) ++ dw.1) ++ ac) ++ bW.1) ++ bu.1, true)) else (none)) else (none)) else (none)) else (none)) else (none))))))) = some (r1, r2) := by rw [if_pos rfl] at H; exact H
  clear H
  have H := H1
  clear H1
  replace H := Option.bind_eq_some_iff.mp H
  obtain ⟨⟨aW, aY⟩, ku, H⟩ := H
  replace H : (if ax = 6 then (if 2 + aW.size ≤ 9223372036854775807 then (some ((⟨#[4, 0]⟩ : ByteArray) ++ aW, true)) else (none)) else ((octet_Put.f k al 4).bind fun dw => ((octet_Put.f k ar 4).bind fun bW => ((some (([2, (wrap64 (af * 64)) % 256, (aA) % 256, (ai) % 256] : List Int) : List Int)).bind fun cj => (if (strOfNums cj).size + aa.size ≤ 9223372036854775807 then (if ((strOfNums cj) ++ aa).size + dw.1.size ≤ 9223372036854775807 then (if (((strOfNums cj) ++ aa) ++ dw.1).size + ac.size ≤ 9223372036854775807 then (if ((((strOfNums cj) ++ aa) ++ dw.1) ++ ac).size + bW.1.size ≤ 9223372036854775807 then (if (((((strOfNums cj) ++ aa) ++ dw.1) ++ ac) ++ bW.1).size + aW.size ≤ 9223372036854775807 then (some ((((((strOfNums cj) ++ aa) ++ dw.1) ++ ac) ++ bW.1) ++ aW, true)) else (none)) else (none)) else (none)) else (none)) else (none)))))) = some (r1, r2) := H
  have A4 := Aside0.mk ku
  clear ku
  by_cases c5 : ax = 6
  ·rw [if_pos c5] at H
   have fM : (ax == 6) = true := beq_iff_eq.mpr c5
   have ib : (ax != 6) = false := bne_eq_false_iff_eq.mpr c5
   clear c5
   by_cases c6 : 2 + aW.size ≤ 9223372036854775807
   ·rw [if_pos c6] at H
    have fg := eq_true c6
    have fQ : decide (2 + aW.size ≤ 9223372036854775807) = true := decide_eq_true c6
    try have oB : (9223372036854775807 < 2 + aW.size) = False := eq_false (Nat.not_lt.2 c6)
    try (have oC := oB; simp only [ByteArray.size_append] at oC)
    simp only [Option.some.injEq, Prod.mk.injEq] at H
    obtain ⟨rfl, rfl⟩ := H
    go_enter Try.func34, Try.ntmps34
    go_wp2_with (first | ((with_reducible refine Pre.gate_load 25 rfl ?_); (try (refine gate_guard Z23 ?_; dsimp only)); refine Pre.load_event rfl rfl rfl Z23 Z3 Try.underlying25 rfl Z14 ?_) | ((with_reducible refine gate_dst (N := 1) rfl ?_); refine Sq.box 1 #[.int .i64 ax, .int .i64 av, .int .i64 aw, .string ay, .int .i64 az, .int .i64 aH, .string aE, .int .i64 aA, .int .i64 aD, .string aC, .int .i64 au, .string an, .int .i64 al, .int .i64 ak, .int .i64 ar, .int .i64 af, .int .i64 ai, .int .i64 am, .int .i64 ao, .string aa, .string ac, .slice bg ab.length bb, .int .i64 ap, .string aq, .slice aZ ah.length ba] 25 ?_; intro ag hg w7 hbox hb; have ae := Aside0.mk (hbox); have cp := Aside0.mk (Sq.ge hg Z1); have bm := Aside0.mk (Sq.ge hg Z1); replace HB := Aside0.mk (below_step Z1 hb); clear hb hbox hg; have nX := cells_25 ae.out) | ((with_reducible refine gate_callee (f := 36) rfl ?_); refine goesL_ (some 11) rfl rfl Try.func36 Z14 rfl #[.agg #[.int .i64 ax, .int .i64 av, .int .i64 aw, .string ay, .int .i64 az, .int .i64 aH, .string aE, .int .i64 aA, .int .i64 aD, .string aC, .int .i64 au, .string an, .int .i64 al, .int .i64 ak, .int .i64 ar, .int .i64 af, .int .i64 ai, .int .i64 am, .int .i64 ao, .string aa, .string ac, .slice bg ab.length bb, .int .i64 ap, .string aq, .slice aZ ah.length ba]] rfl Z4 ?_; (with_reducible refine (rrep_Right.calls k ax av aw ay az aH aE aA aD aC au an al ak ar af ai am ao aa ac _ _ ab ap aq _ _ ah true _ ?side1 ?side2 ?side3 ?side4 A2.out).mono ?_); (case side1 => exact Z10); (case side2 => exact bM.out); (case side3 => exact Z7); (case side4 => exact br.out); rintro e w9 ⟨rfl, hb⟩; refine ⟨_, rfl, ?_⟩; replace ae := Aside0.mk (blk_below (g := ag) Z2 hb); replace HB := Aside0.mk (below_step Z0 hb); clear hb; have jj := cells_25 ae.out) | ((with_reducible refine gate_callee (f := 49) rfl ?_); refine goesL_ (some 16) rfl rfl Try.func49 Z14 rfl #[.slice aZ ah.length ba] rfl Z4 ?_; (with_reducible refine (ext_Put.calls k _ _ ah aW aY _ ?side1 ?side2 A4.out).mono ?_); (case side1 => exact Z7); (case side2 => exact br.out); rintro e ln ⟨rfl, hb⟩; refine ⟨_, rfl, ?_⟩; replace ae := Aside0.mk (blk_below (g := ag) Z2 hb); replace HB := Aside0.mk (below_step Z0 hb); clear hb; have jU := cells_25 ae.out))
    go_ret2
    exact ⟨Z5, Z0⟩
   ·rw [if_neg c6] at H
    exact absurd H Z71
  ·rw [if_neg c5] at H
   have fM : (ax == 6) = false := beq_eq_false_iff_ne.mpr c5
   have ib : (ax != 6) = true := bne_iff_ne.mpr c5
   replace H := Option.bind_eq_some_iff.mp H
   obtain ⟨⟨bq, aT⟩, lq, H⟩ := H
   replace H : ((octet_Put.f k ar 4).bind fun bW => ((some (([2, (wrap64 (af * 64)) % 256, (aA) % 256, (ai) % 256] : List Int) : List Int)).bind fun cj => (if (strOfNums cj).size + aa.size ≤ 9223372036854775807 then (if ((strOfNums cj) ++ aa).size + bq.size ≤ 9223372036854775807 then (if (((strOfNums cj) ++ aa) ++ bq).size + ac.size ≤ 9223372036854775807 then (if ((((strOfNums cj) ++ aa) ++ bq) ++ ac).size + bW.1.size ≤ 9223372036854775807 then (if (((((strOfNums cj) ++ aa) ++ bq) ++ ac) ++ bW.1).size + aW.size ≤ 9223372036854775807 then (some ((((((strOfNums cj) ++ aa) ++ bq) ++ ac) ++ bW.1) ++ aW, true)) else (none)) else (none)) else (none)) else (none)) else (none)))) = some (r1, r2) := H
   have sz := Aside0.mk lq
   clear lq
   replace H := Option.bind_eq_some_iff.mp H
   obtain ⟨⟨cu, aV⟩, hB, H⟩ := H
   replace H : ((some (([2, (wrap64 (af * 64)) % 256, (aA) % 256, (ai) % 256] : List Int) : List Int)).bind fun cj => (if (strOfNums cj).size + aa.size ≤ 9223372036854775807 then (if ((strOfNums cj) ++ aa).size + bq.size ≤ 9223372036854775807 then (if (((strOfNums cj) ++ aa) ++ bq).size + ac.size ≤ 9223372036854775807 then (if ((((strOfNums cj) ++ aa) ++ bq) ++ ac).size + cu.size ≤ 9223372036854775807 then (if (((((strOfNums cj) ++ aa) ++ bq) ++ ac) ++ cu).size + aW.size ≤ 9223372036854775807 then (some ((((((strOfNums cj) ++ aa) ++ bq) ++ ac) ++ cu) ++ aW, true)) else (none)) else (none)) else (none)) else (none)) else (none))) = some (r1, r2) := H
   have nL := Aside0.mk hB
   clear hB
   obtain ⟨cj, hy109⟩ : ∃ y_ : List Int, y_ = (([2, (wrap64 (af * 64)) % 256, (aA) % 256, (ai) % 256] : List Int)) := ⟨_, rfl⟩
   replace H : (if (strOfNums cj).size + aa.size ≤ 9223372036854775807 then (if ((strOfNums cj) ++ aa).size + bq.size ≤ 9223372036854775807 then (if (((strOfNums cj) ++ aa) ++ bq).size + ac.size ≤ 9223372036854775807 then (if ((((strOfNums cj) ++ aa) ++ bq) ++ ac).size + cu.size ≤ 9223372036854775807 then (if (((((strOfNums cj) ++ aa) ++ bq) ++ ac) ++ cu).size + aW.size ≤ 9223372036854775807 then (some ((((((strOfNums cj) ++ aa) ++ bq) ++ ac) ++ cu) ++ aW, true)) else (none)) else (none)) else (none)) else (none)) else (none)) = some (r1, r2) := by first | (rw [hy109]; with_reducible exact H) | (have H2_ := (Option.bind_some _ _).symm.trans H; rw [hy109]; with_reducible exact H2_) | (have H2_ := (Option.bind_some _ _).symm.trans H; with_reducible exact H2_) | with_reducible exact H | (rw [hy109]; exact H) | exact H
   have Ny109 := Aside0.mk hy109
   clear hy109
   by_cases eB : (strOfNums cj).size + aa.size ≤ 9223372036854775807
   ·rw [if_pos eB] at H
    have hL := eq_true eB
    have jm : decide ((strOfNums cj).size + aa.size ≤ 9223372036854775807) = true := decide_eq_true eB
    try have qV : (9223372036854775807 < (strOfNums cj).size + aa.size) = False := eq_false (Nat.not_lt.2 eB)
    try (have qW := qV; simp only [ByteArray.size_append] at qW)
    by_cases fL : ((strOfNums cj) ++ aa).size + bq.size ≤ 9223372036854775807
    ·rw [if_pos fL] at H
     have hQ := eq_true fL
     have ke : decide (((strOfNums cj) ++ aa).size + bq.size ≤ 9223372036854775807) = true := decide_eq_true fL
     try have ni : (9223372036854775807 < ((strOfNums cj) ++ aa).size + bq.size) = False := eq_false (Nat.not_lt.2 fL)
     try (have qX := ni; simp only [ByteArray.size_append] at qX)
     by_cases hR : (((strOfNums cj) ++ aa) ++ bq).size + ac.size ≤ 9223372036854775807
     ·rw [if_pos hR] at H
      have jZ := eq_true hR
      have qY : decide ((((strOfNums cj) ++ aa) ++ bq).size + ac.size ≤ 9223372036854775807) = true := decide_eq_true hR
      try have qZ : (9223372036854775807 < (((strOfNums cj) ++ aa) ++ bq).size + ac.size) = False := eq_false (Nat.not_lt.2 hR)
      try (have ra := qZ; simp only [ByteArray.size_append] at ra)
      by_cases hu : ((((strOfNums cj) ++ aa) ++ bq) ++ ac).size + cu.size ≤ 9223372036854775807
      ·rw [if_pos hu] at H
       have ka := eq_true hu
       have mZ : decide (((((strOfNums cj) ++ aa) ++ bq) ++ ac).size + cu.size ≤ 9223372036854775807) = true := decide_eq_true hu
       try have rb : (9223372036854775807 < ((((strOfNums cj) ++ aa) ++ bq) ++ ac).size + cu.size) = False := eq_false (Nat.not_lt.2 hu)
       try (have rc := rb; simp only [ByteArray.size_append] at rc)
       by_cases hA : (((((strOfNums cj) ++ aa) ++ bq) ++ ac) ++ cu).size + aW.size ≤ 9223372036854775807
       ·rw [if_pos hA] at H
        have jx := eq_true hA
        have lL : decide ((((((strOfNums cj) ++ aa) ++ bq) ++ ac) ++ cu).size + aW.size ≤ 9223372036854775807) = true := decide_eq_true hA
        try have re : (9223372036854775807 < (((((strOfNums cj) ++ aa) ++ bq) ++ ac) ++ cu).size + aW.size) = False := eq_false (Nat.not_lt.2 hA)
        try (have rf := re; simp only [ByteArray.size_append] at rf)
        simp only [Option.some.injEq, Prod.mk.injEq] at H
        obtain ⟨rfl, rfl⟩ := H
        go_enter Try.func34, Try.ntmps34
        go_wp2_with (first | ((with_reducible refine Pre.gate_load 25 rfl ?_); (try (refine gate_guard Z23 ?_; dsimp only)); refine Pre.load_event rfl rfl rfl Z23 Z3 Try.underlying25 rfl Z14 ?_) | ((with_reducible refine gate_dst (N := 1) rfl ?_); refine Sq.box 1 #[.int .i64 ax, .int .i64 av, .int .i64 aw, .string ay, .int .i64 az, .int .i64 aH, .string aE, .int .i64 aA, .int .i64 aD, .string aC, .int .i64 au, .string an, .int .i64 al, .int .i64 ak, .int .i64 ar, .int .i64 af, .int .i64 ai, .int .i64 am, .int .i64 ao, .string aa, .string ac, .slice bg ab.length bb, .int .i64 ap, .string aq, .slice aZ ah.length ba] 25 ?_; intro ag hg jL hbox hb; have ae := Aside0.mk (hbox); have cp := Aside0.mk (Sq.ge hg Z1); have bm := Aside0.mk (Sq.ge hg Z1); replace HB := Aside0.mk (below_step Z1 hb); clear hb hbox hg; have iF := cells_25 ae.out) | ((with_reducible refine gate_callee (f := 36) rfl ?_); refine goesL_ (some 11) rfl rfl Try.func36 Z14 rfl #[.agg #[.int .i64 ax, .int .i64 av, .int .i64 aw, .string ay, .int .i64 az, .int .i64 aH, .string aE, .int .i64 aA, .int .i64 aD, .string aC, .int .i64 au, .string an, .int .i64 al, .int .i64 ak, .int .i64 ar, .int .i64 af, .int .i64 ai, .int .i64 am, .int .i64 ao, .string aa, .string ac, .slice bg ab.length bb, .int .i64 ap, .string aq, .slice aZ ah.length ba]] rfl Z4 ?_; (with_reducible refine (rrep_Right.calls k ax av aw ay az aH aE aA aD aC au an al ak ar af ai am ao aa ac _ _ ab ap aq _ _ ah true _ ?side1 ?side2 ?side3 ?side4 A2.out).mono ?_); (case side1 => exact Z10); (case side2 => exact bM.out); (case side3 => exact Z7); (case side4 => exact br.out); rintro e mN ⟨rfl, hb⟩; refine ⟨_, rfl, ?_⟩; replace ae := Aside0.mk (blk_below (g := ag) Z2 hb); replace HB := Aside0.mk (below_step Z0 hb); clear hb; have lj := cells_25 ae.out) | ((with_reducible refine gate_callee (f := 49) rfl ?_); refine goesL_ (some 16) rfl rfl Try.func49 Z14 rfl #[.slice aZ ah.length ba] rfl Z4 ?_; (with_reducible refine (ext_Put.calls k _ _ ah aW aY _ ?side1 ?side2 A4.out).mono ?_); (case side1 => exact Z7); (case side2 => exact br.out); rintro e oa ⟨rfl, hb⟩; refine ⟨_, rfl, ?_⟩; replace ae := Aside0.mk (blk_below (g := ag) Z2 hb); replace HB := Aside0.mk (below_step Z0 hb); clear hb; have kd := cells_25 ae.out) | ((with_reducible refine gate_callee (f := 67) rfl ?_); refine goesL_ (some 27) rfl rfl Try.func67 Z14 rfl #[.int .i64 al, .int .i64 4] rfl Z4 ?_; (with_reducible refine (octet_Put.calls k al 4 bq aT _ sz.out).mono ?_); rintro e jM ⟨rfl, hb⟩; refine ⟨_, rfl, ?_⟩; replace ae := Aside0.mk (blk_below (g := ag) Z2 hb); replace HB := Aside0.mk (below_step Z0 hb); clear hb; have na := cells_25 ae.out) | ((with_reducible refine gate_callee (f := 67) rfl ?_); refine goesL_ (some 33) rfl rfl Try.func67 Z14 rfl #[.int .i64 ar, .int .i64 4] rfl Z4 ?_; (with_reducible refine (octet_Put.calls k ar 4 cu aV _ nL.out).mono ?_); rintro e nr ⟨rfl, hb⟩; refine ⟨_, rfl, ?_⟩; replace ae := Aside0.mk (blk_below (g := ag) Z2 hb); replace HB := Aside0.mk (below_step Z0 hb); clear hb; have nC := cells_25 ae.out) | ((with_reducible refine gate_dst (N := 46) rfl ?_); refine Kd.R_lit (Kd.int .u8) _ 5 ?hg (N := 46) ?hd (xs := ([2, (wrap64 (af * 64)) % 256, (aA) % 256, (ai) % 256] : List Int)) (inner := [.int .u8 2, .int .u8 ((wrap64 (af * 64)) % 256), .int .u8 ((aA) % 256), .int .u8 ((ai) % 256)]) (ok := fun _ => True) (okp := fun _ => True) ?hr ?hp (fun _ hk => hk) trivial (Below.refl _ _) (Nat.le_refl _) Z71 ?_; (case hd => rfl); (case hg => rfl); (case hr => first | (go_simp; done) | (go_simp; rfl)); (case hp => exact (Reps.one (show Kd.M (Kd.int .u8) _ _ _ 2 [.int .u8 2] from rfl) (Reps.one (show Kd.M (Kd.int .u8) _ _ _ ((wrap64 (af * 64)) % 256) [.int .u8 ((wrap64 (af * 64)) % 256)] from rfl) (Reps.one (show Kd.M (Kd.int .u8) _ _ _ ((aA) % 256) [.int .u8 ((aA) % 256)] from rfl) (Reps.one (show Kd.M (Kd.int .u8) _ _ _ ((ai) % 256) [.int .u8 ((ai) % 256)] from rfl) (Reps.none _ _)))))); intro v110 sc ho31 hb hg_ hnew_; clear hg_ hnew_; (first | rw [← Ny109.out] at ho31 | (simp only [Int.reduceToNat] at ho31; rw [← Ny109.out] at ho31)); have rg := Aside0.mk (Kd.R_lower ho31 (below_size Z0)); replace ae := Aside0.mk (blk_below (g := ag) Z2 hb); replace HB := Aside0.mk (below_step Z0 hb); clear hb ho31; have hcv32 := own_string (P := Try.prog) Try.underlying51 Try.underlying5 Try.underlying9 (Kd.own_of_R rg.out); have lK := cells_25 ae.out))
        go_ret2
        exact ⟨Z5, Z0⟩
       ·rw [if_neg hA] at H
        exact absurd H Z71
      ·rw [if_neg hu] at H
       exact absurd H Z71
     ·rw [if_neg hR] at H
      exact absurd H Z71
    ·rw [if_neg fL] at H
     exact absurd H Z71
   ·rw [if_neg eB] at H
    exact absurd H Z71
 ·replace c3 := Bool.eq_false_iff.mpr c3
  subst c3
  have H1 : (some ((⟨#[]⟩ : ByteArray), false)) = some (r1, r2) := by rw [if_neg (show ¬ (false = true) by decide)] at H; exact H
  clear H
  have H := H1
  clear H1
  simp only [Option.some.injEq, Prod.mk.injEq] at H
  obtain ⟨rfl, rfl⟩ := H
  go_enter Try.func34, Try.ntmps34
  go_wp2_with (first | ((with_reducible refine Pre.gate_load 25 rfl ?_); (try (refine gate_guard Z23 ?_; dsimp only)); refine Pre.load_event rfl rfl rfl Z23 Z3 Try.underlying25 rfl Z14 ?_) | ((with_reducible refine gate_dst (N := 1) rfl ?_); refine Sq.box 1 #[.int .i64 ax, .int .i64 av, .int .i64 aw, .string ay, .int .i64 az, .int .i64 aH, .string aE, .int .i64 aA, .int .i64 aD, .string aC, .int .i64 au, .string an, .int .i64 al, .int .i64 ak, .int .i64 ar, .int .i64 af, .int .i64 ai, .int .i64 am, .int .i64 ao, .string aa, .string ac, .slice bg ab.length bb, .int .i64 ap, .string aq, .slice aZ ah.length ba] 25 ?_; intro ag hg tQ hbox hb; have ae := Aside0.mk (hbox); have cp := Aside0.mk (Sq.ge hg Z1); have bm := Aside0.mk (Sq.ge hg Z1); replace HB := Aside0.mk (below_step Z1 hb); clear hb hbox hg; have nD := cells_25 ae.out) | ((with_reducible refine gate_callee (f := 36) rfl ?_); refine goesL_ (some 11) rfl rfl Try.func36 Z14 rfl #[.agg #[.int .i64 ax, .int .i64 av, .int .i64 aw, .string ay, .int .i64 az, .int .i64 aH, .string aE, .int .i64 aA, .int .i64 aD, .string aC, .int .i64 au, .string an, .int .i64 al, .int .i64 ak, .int .i64 ar, .int .i64 af, .int .i64 ai, .int .i64 am, .int .i64 ao, .string aa, .string ac, .slice bg ab.length bb, .int .i64 ap, .string aq, .slice aZ ah.length ba]] rfl Z4 ?_; (with_reducible refine (rrep_Right.calls k ax av aw ay az aH aE aA aD aC au an al ak ar af ai am ao aa ac _ _ ab ap aq _ _ ah false _ ?side1 ?side2 ?side3 ?side4 A2.out).mono ?_); (case side1 => exact Z10); (case side2 => exact bM.out); (case side3 => exact Z7); (case side4 => exact br.out); rintro e sK ⟨rfl, hb⟩; refine ⟨_, rfl, ?_⟩; replace ae := Aside0.mk (blk_below (g := ag) Z2 hb); replace HB := Aside0.mk (below_step Z0 hb); clear hb))
  go_ret2
  exact ⟨Z5, Z0⟩

end Go.Proofs.Ytccjakjjaemmkaa.PAB
