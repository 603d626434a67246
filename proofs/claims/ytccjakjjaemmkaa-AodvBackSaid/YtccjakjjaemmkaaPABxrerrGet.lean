-- Written by mp.py, a program of this work (wip/tools), out of the translation; Lean checks it.
import Derived.Test.YtccjakjjaemmkaaPABxZ
import Derived.Test.YtccjakjjaemmkaaPABxext
import Derived.Test.YtccjakjjaemmkaaPABxoctet
import Derived.Test.YtccjakjjaemmkaaAbs
import Derived.Test.YtccjakjjaemmkaaLoad
namespace Go.Proofs.Ytccjakjjaemmkaa.PAB
open Go.RowKit Go.Proofs.YtccjakjjaemmkaaW.PrintWords Go.Proofs.YtccjakjjaemmkaaW.PrintLast Go.Proofs.YtccjakjjaemmkaaW.PrintMore
attribute [local go_sem] max2_int min2_int max_two min_two max_three min_three max_four min_four   -- for this text's walks alone
set_option linter.unusedVariables false
set_option linter.unusedSimpArgs false

/-! ### rerr_Get: function 30 -/
def rerr_Get.l0 : Nat → ByteArray → Int → Int → Int → Int → Int → ByteArray → Int → Int → ByteArray → Int → Int → ByteArray → Int → ByteArray → Int → Int → Int → Int → Int → Int → Int → ByteArray → ByteArray → List (S46) → Int → ByteArray → ByteArray → Int → Int → Bool → Option (Int × Int × Int × ByteArray × Int × Int × ByteArray × Int × Int × ByteArray × Int × ByteArray × Int × Int × Int × Int × Int × Int × Int × ByteArray × ByteArray × (List (S46)) × Int × ByteArray × (List (S48)) × Int × Int)
 | 0, _, _, _, _, _, _, _, _, _, _, _, _, _, _, _, _, _, _, _, _, _, _, _, _, _, _, _, _, _, _, _ => none
 | k + 1, x0, tG, tH, dC, dD, dE, dF, dG, dH, dI, dJ, dK, dL, dM, di, dj, dk, dl, dm, dn, dp, dq, dr, dt, dd, du, dv, mI, gV, mJ, km => if tH < tG then ((cursor_Text.f mI gV mJ km 4).bind fun jB => ((cursor_Num.f jB.2.1 jB.2.2.1 jB.2.2.2.1 jB.2.2.2.2 4).bind fun fV => (if dd.length < 5864062014805 then (rerr_Get.l0 k x0 tG (wrap64 (tH + 1)) dC dD dE dF dG dH dI dJ dK dL dM di dj dk dl dm dn dp dq dr dt (dd ++ [(⟨jB.1, fV.1⟩ : S46)]) du dv fV.2.1 fV.2.2.1 fV.2.2.2.1 fV.2.2.2.2) else (none)))) else (if km = true then (some (0, 0, 0, (⟨#[]⟩ : ByteArray), 0, 0, (⟨#[]⟩ : ByteArray), 0, 0, (⟨#[]⟩ : ByteArray), 0, (⟨#[]⟩ : ByteArray), 0, 0, 0, 0, 0, 0, 0, (⟨#[]⟩ : ByteArray), (⟨#[]⟩ : ByteArray), ([] : List (S46)), 0, (⟨#[]⟩ : ByteArray), ([] : List (S48)), (x0.size : Int), 2)) else (if 0 ≤ gV then (if gV ≤ (x0.size : Int) then ((ext_Get.f k (x0.extract (gV : Int).toNat x0.size)).bind fun gW => (if gW.2.2 = 0 then (some (dC, dD, dE, dF, dG, dH, dI, dJ, dK, dL, dM, di, dj, dk, dl, dm, dn, dp, dq, dr, dt, dd, du, dv, gW.1, 0, 0)) else (some (0, 0, 0, (⟨#[]⟩ : ByteArray), 0, 0, (⟨#[]⟩ : ByteArray), 0, 0, (⟨#[]⟩ : ByteArray), 0, (⟨#[]⟩ : ByteArray), 0, 0, 0, 0, 0, 0, 0, (⟨#[]⟩ : ByteArray), (⟨#[]⟩ : ByteArray), ([] : List (S46)), 0, (⟨#[]⟩ : ByteArray), ([] : List (S48)), wrap64 (gV + gW.2.1), gW.2.2)))) else (none)) else (none)))
def rerr_Get.f (k : Nat) (a0 : ByteArray) : Option (Int × Int × Int × ByteArray × Int × Int × ByteArray × Int × Int × ByteArray × Int × ByteArray × Int × Int × Int × Int × Int × Int × Int × ByteArray × ByteArray × (List (S46)) × Int × ByteArray × (List (S48)) × Int × Int) := if (a0.size : Int) < 4 then (some (0, 0, 0, (⟨#[]⟩ : ByteArray), 0, 0, (⟨#[]⟩ : ByteArray), 0, 0, (⟨#[]⟩ : ByteArray), 0, (⟨#[]⟩ : ByteArray), 0, 0, 0, 0, 0, 0, 0, (⟨#[]⟩ : ByteArray), (⟨#[]⟩ : ByteArray), ([] : List (S46)), 0, (⟨#[]⟩ : ByteArray), ([] : List (S48)), (a0.size : Int), 2)) else (if 1 < (a0.size : Int) then (if 2 < (a0.size : Int) then (if (Go.bits .or .u8 (Go.bits .and .u8 (bt a0 1) 127) (bt a0 2)) = 0 then (if 3 < (a0.size : Int) then (if (bt a0 3) = 0 then (some (0, 0, 0, (⟨#[]⟩ : ByteArray), 0, 0, (⟨#[]⟩ : ByteArray), 0, 0, (⟨#[]⟩ : ByteArray), 0, (⟨#[]⟩ : ByteArray), 0, 0, 0, 0, 0, 0, 0, (⟨#[]⟩ : ByteArray), (⟨#[]⟩ : ByteArray), ([] : List (S46)), 0, (⟨#[]⟩ : ByteArray), ([] : List (S48)), 3, 8)) else ((cursor_New.f a0).bind fun bu => ((cursor_Text.f bu.1 bu.2.1 bu.2.2.1 bu.2.2.2 4).bind fun bW => (rerr_Get.l0 k a0 (wrap64 (bt a0 3)) 0 5 0 0 (⟨#[]⟩ : ByteArray) 0 0 (⟨#[]⟩ : ByteArray) 0 0 (⟨#[]⟩ : ByteArray) 0 (⟨#[]⟩ : ByteArray) 0 0 0 (wrap64 ((bt a0 1) / 128)) 0 0 0 (⟨#[]⟩ : ByteArray) (⟨#[]⟩ : ByteArray) ([] : List (S46)) 0 (⟨#[]⟩ : ByteArray) bW.2.1 bW.2.2.1 bW.2.2.2.1 bW.2.2.2.2)))) else (none)) else (some (0, 0, 0, (⟨#[]⟩ : ByteArray), 0, 0, (⟨#[]⟩ : ByteArray), 0, 0, (⟨#[]⟩ : ByteArray), 0, (⟨#[]⟩ : ByteArray), 0, 0, 0, 0, 0, 0, 0, (⟨#[]⟩ : ByteArray), (⟨#[]⟩ : ByteArray), ([] : List (S46)), 0, (⟨#[]⟩ : ByteArray), ([] : List (S48)), 1, 5))) else (none)) else (none))
theorem rerr_Get.mono_l : ∀ k, (∀ y0 y1 y2 y3 y4 y5 y6 y7 y8 y9 fr fs ft fu fv fw fx fy fz fA fB fC fD fE fF fG iE jh kU mR mS, LeO (rerr_Get.l0 k y0 y1 y2 y3 y4 y5 y6 y7 y8 y9 fr fs ft fu fv fw fx fy fz fA fB fC fD fE fF fG iE jh kU mR mS) (rerr_Get.l0 (k + 1) y0 y1 y2 y3 y4 y5 y6 y7 y8 y9 fr fs ft fu fv fw fx fy fz fA fB fC fD fE fF fG iE jh kU mR mS))
 | 0 => Sq.mz
 | k + 1 => by
  have ih0 := rerr_Get.mono_l k
  ·intros
   unfold rerr_Get.l0
   have m0 := ext_Get.mono
   exact Sq.mo
theorem rerr_Get.mono : ∀ a0 k, LeO (rerr_Get.f k a0) (rerr_Get.f (k + 1) a0) := by
 intro a0 k
 have ih0 := rerr_Get.mono_l k
 unfold rerr_Get.f
 have m0 := ext_Get.mono
 exact Sq.mo
def rerr_Get.T3 : Bool × List (List Nat × List Nat) := (true, [([], []), ([0], [0]), ([1], [1]), ([], []), ([3], [3]), ([2, 4], [2, 4]), ([5], [5]), ([6], [6])])
def rerr_Get.B3 : List Nat := [0, 1, 3, 0, 8, 31, 63, 127]
theorem rerr_Get.tab3 : rtab .any (opsOf Try.f30 3) = rerr_Get.T3 := by kernel_rfl
theorem rerr_Get.bits3 : waitsOk rerr_Get.T3.2 rerr_Get.B3 = true := by kernel_rfl
def rerr_Get.T20 : Bool × List (List Nat × List Nat) := (true, [([], []), ([], []), ([1], [1]), ([], []), ([2, 3], [2, 3]), ([], []), ([0, 0], [0]), ([4, 6, 0, 1, 2, 3, 4, 6], [4]), ([5, 7, 0, 1, 2, 3, 4, 5, 6, 7], [5])])
def rerr_Get.B20 : List Nat := [0, 0, 2, 0, 14, 0, 1, 95, 255]
theorem rerr_Get.tab20 : rtab .any (opsOf Try.f30 20) = rerr_Get.T20 := by kernel_rfl
theorem rerr_Get.bits20 : waitsOk rerr_Get.T20.2 rerr_Get.B20 = true := by kernel_rfl
set_option maxRecDepth 100000 in
theorem rerr_Get.bd37 (v0 : Int) (iT : Int) : Try.prog.built 25 [(0, .int .i64 v0), (15, .int .i64 iT)] = some #[.int .i64 v0, .int .i64 0, .int .i64 0, .string ⟨#[]⟩, .int .i64 0, .int .i64 0, .string ⟨#[]⟩, .int .i64 0, .int .i64 0, .string ⟨#[]⟩, .int .i64 0, .string ⟨#[]⟩, .int .i64 0, .int .i64 0, .int .i64 0, .int .i64 iT, .int .i64 0, .int .i64 0, .int .i64 0, .string ⟨#[]⟩, .string ⟨#[]⟩, .slice none 0 0, .int .i64 0, .string ⟨#[]⟩, .slice none 0 0] := by kernel_rfl
set_option maxHeartbeats 8000000 in
set_option maxRecDepth 100000 in
theorem rerr_Get.calls (k : Nat) (a0 : ByteArray) (r1 : Int) (r2 : Int) (r3 : Int) (r4 : ByteArray) (r5 : Int) (r6 : Int) (r7 : ByteArray) (r8 : Int) (r9 : Int) (r10 : ByteArray) (r11 : Int) (r12 : ByteArray) (r13 : Int) (r14 : Int) (r15 : Int) (r16 : Int) (r17 : Int) (r18 : Int) (r19 : Int) (r20 : ByteArray) (r21 : ByteArray) (r22 : List (S46)) (r23 : Int) (r24 : ByteArray) (r25 : List (S48)) (r26 : Int) (r27 : Int) (w : World) (h : rerr_Get.f k a0 = some (r1, r2, r3, r4, r5, r6, r7, r8, r9, r10, r11, r12, r13, r14, r15, r16, r17, r18, r19, r20, r21, r22, r23, r24, r25, r26, r27)) :
  Calls Try.prog 30 #[.string a0] w fun e w' => ∃ v21_ v24_ : Value, e = .returned (.tuple #[.agg #[.int .i64 r1, .int .i64 r2, .int .i64 r3, .string r4, .int .i64 r5, .int .i64 r6, .string r7, .int .i64 r8, .int .i64 r9, .string r10, .int .i64 r11, .string r12, .int .i64 r13, .int .i64 r14, .int .i64 r15, .int .i64 r16, .int .i64 r17, .int .i64 r18, .int .i64 r19, .string r20, .string r21, v21_, .int .i64 r23, .string r24, v24_], .int .i64 r26, .int .i64 r27]) ∧ Kd.R k46 46 w' w.heap.size (fun _ => True) v21_ r22 ∧ Kd.R k48 48 w' w.heap.size (fun _ => True) v24_ r25 ∧ Below w.heap.size w w' := by
 have fi := Try.underlying25
 have ie := Try.underlying60
 have nS := Try.underlying46
 have HB := Aside0.mk (Below.refl w.heap.size w)
 have H : (if (a0.size : Int) < 4 then (some (0, 0, 0, (⟨#[]⟩ : ByteArray), 0, 0, (⟨#[]⟩ : ByteArray), 0, 0, (⟨#[]⟩ : ByteArray), 0, (⟨#[]⟩ : ByteArray), 0, 0, 0, 0, 0, 0, 0, (⟨#[]⟩ : ByteArray), (⟨#[]⟩ : ByteArray), ([] : List (S46)), 0, (⟨#[]⟩ : ByteArray), ([] : List (S48)), (a0.size : Int), 2)) else (if 1 < (a0.size : Int) then (if 2 < (a0.size : Int) then (if (Go.bits .or .u8 (Go.bits .and .u8 (bt a0 1) 127) (bt a0 2)) = 0 then (if 3 < (a0.size : Int) then (if (bt a0 3) = 0 then (some (0, 0, 0, (⟨#[]⟩ : ByteArray), 0, 0, (⟨#[]⟩ : ByteArray), 0, 0, (⟨#[]⟩ : ByteArray), 0, (⟨#[]⟩ : ByteArray), 0, 0, 0, 0, 0, 0, 0, (⟨#[]⟩ : ByteArray), (⟨#[]⟩ : ByteArray), ([] : List (S46)), 0, (⟨#[]⟩ : ByteArray), ([] : List (S48)), 3, 8)) else ((cursor_New.f a0).bind fun bu => ((cursor_Text.f bu.1 bu.2.1 bu.2.2.1 bu.2.2.2 4).bind fun bW => (rerr_Get.l0 k a0 (wrap64 (bt a0 3)) 0 5 0 0 (⟨#[]⟩ : ByteArray) 0 0 (⟨#[]⟩ : ByteArray) 0 0 (⟨#[]⟩ : ByteArray) 0 (⟨#[]⟩ : ByteArray) 0 0 0 (wrap64 ((bt a0 1) / 128)) 0 0 0 (⟨#[]⟩ : ByteArray) (⟨#[]⟩ : ByteArray) ([] : List (S46)) 0 (⟨#[]⟩ : ByteArray) bW.2.1 bW.2.2.1 bW.2.2.2.1 bW.2.2.2.2)))) else (none)) else (some (0, 0, 0, (⟨#[]⟩ : ByteArray), 0, 0, (⟨#[]⟩ : ByteArray), 0, 0, (⟨#[]⟩ : ByteArray), 0, (⟨#[]⟩ : ByteArray), 0, 0, 0, 0, 0, 0, 0, (⟨#[]⟩ : ByteArray), (⟨#[]⟩ : ByteArray), ([] : List (S46)), 0, (⟨#[]⟩ : ByteArray), ([] : List (S48)), 1, 5))) else (none)) else (none))) = some (r1, r2, r3, r4, r5, r6, r7, r8, r9, r10, r11, r12, r13, r14, r15, r16, r17, r18, r19, r20, r21, r22, r23, r24, r25, r26, r27) := h
 clear h
 by_cases c2 : (a0.size : Int) < 4
 ·rw [if_pos c2] at H
  have gj : decide ((a0.size : Int) < 4) = true := decide_eq_true c2
  have ig : decide (a0.size < 4) = true := decide_eq_true Z40
  clear c2
  simp only [Option.some.injEq, Prod.mk.injEq] at H
  obtain ⟨rfl, rfl, rfl, rfl, rfl, rfl, rfl, rfl, rfl, rfl, rfl, rfl, rfl, rfl, rfl, rfl, rfl, rfl, rfl, rfl, rfl, rfl, rfl, rfl, rfl, rfl, rfl⟩ := H
  go_enter Try.func30, Try.ntmps30
  go_wp2_with (first | ((with_reducible refine gate_dst (N := 37) rfl ?_); refine Pre.build_event 37 25 [(0, Go.Operand.const (Go.Value.int Go.IntKind.i64 5)), (15, Go.Operand.tmp 36)] rfl rfl rfl (rerr_Get.bd37 _ _) ?_) | ((with_reducible refine Pre.gate_load 25 rfl ?_); (try (refine gate_guard Z23 ?_; dsimp only)); refine Pre.load_event rfl rfl rfl Z23 Z9 Try.underlying25 rfl Z14 ?_) | ((with_reducible refine gate_dst (N := 2) rfl ?_); refine Sq.box 2 #[.int .i64 0, .int .i64 0, .int .i64 0, .string ⟨#[]⟩, .int .i64 0, .int .i64 0, .string ⟨#[]⟩, .int .i64 0, .int .i64 0, .string ⟨#[]⟩, .int .i64 0, .string ⟨#[]⟩, .int .i64 0, .int .i64 0, .int .i64 0, .int .i64 0, .int .i64 0, .int .i64 0, .int .i64 0, .string ⟨#[]⟩, .string ⟨#[]⟩, .slice none 0 0, .int .i64 0, .string ⟨#[]⟩, .slice none 0 0] 25 ?_; intro ag hg w3 hbox hb; have ae := Aside0.mk (hbox); have cp := Aside0.mk (Sq.ge hg Z1); have bm := Aside0.mk (Sq.ge hg Z1); replace HB := Aside0.mk (below_step Z1 hb); clear hb hbox hg; have ml := cells_25 ae.out) | ((with_reducible refine Pre.gate_store 25 rfl ?_); refine Pre.store_abs (cur := #[.int .i64 0, .int .i64 0, .int .i64 0, .string ⟨#[]⟩, .int .i64 0, .int .i64 0, .string ⟨#[]⟩, .int .i64 0, .int .i64 0, .string ⟨#[]⟩, .int .i64 0, .string ⟨#[]⟩, .int .i64 0, .int .i64 0, .int .i64 0, .int .i64 0, .int .i64 0, .int .i64 0, .int .i64 0, .string ⟨#[]⟩, .string ⟨#[]⟩, .slice none 0 0, .int .i64 0, .string ⟨#[]⟩, .slice none 0 0]) (e := 25) rfl rfl rfl Z23 Z23 Z2 Z14 Z23 Z23 ?_; intro w5 hbS_ sS_; have bY : Aside0 (w5.heap[ag]? = some (.cells #[.int .i64 0, .int .i64 0, .int .i64 0, .string ⟨#[]⟩, .int .i64 0, .int .i64 0, .string ⟨#[]⟩, .int .i64 0, .int .i64 0, .string ⟨#[]⟩, .int .i64 0, .string ⟨#[]⟩, .int .i64 0, .int .i64 0, .int .i64 0, .int .i64 0, .int .i64 0, .int .i64 0, .int .i64 0, .string ⟨#[]⟩, .string ⟨#[]⟩, .slice none 0 0, .int .i64 0, .string ⟨#[]⟩, .slice none 0 0] 25 (0, 0))) := ⟨hbS_⟩; have ca : Aside0 (Below w.heap.size w w5) := ⟨sS_.below Z0 bm.out⟩; clear hbS_ sS_; replace ae := bY; replace HB := ca; clear bY ca))
  refine bodyPost_ret (results_ctt rfl _ _ ag 25 #[.int .i64 0, .int .i64 0, .int .i64 0, .string ⟨#[]⟩, .int .i64 0, .int .i64 0, .string ⟨#[]⟩, .int .i64 0, .int .i64 0, .string ⟨#[]⟩, .int .i64 0, .string ⟨#[]⟩, .int .i64 0, .int .i64 0, .int .i64 0, .int .i64 0, .int .i64 0, .int .i64 0, .int .i64 0, .string ⟨#[]⟩, .string ⟨#[]⟩, .slice none 0 0, .int .i64 0, .string ⟨#[]⟩, .slice none 0 0] (0, 0) _ rfl Z2 Try.underlying25 rfl Z14) rfl ?_
  exact ⟨_, _, Z5, Z13, Z24, Z0⟩
 ·rw [if_neg c2] at H
  have gj : decide ((a0.size : Int) < 4) = false := decide_eq_false c2
  have ig : decide (a0.size < 4) = false := decide_eq_false Z40
  clear c2
  by_cases c6 : 1 < (a0.size : Int)
  ·rw [if_pos c6] at H
   have fg : decide (1 < (a0.size : Int)) = true := decide_eq_true c6
   have fQ : decide (1 < a0.size) = true := decide_eq_true Z40
   clear c6
   by_cases c8 : 2 < (a0.size : Int)
   ·rw [if_pos c8] at H
    have hC : decide (2 < (a0.size : Int)) = true := decide_eq_true c8
    have jg : decide (2 < a0.size) = true := decide_eq_true Z40
    clear c8
    by_cases ey : (Go.bits .or .u8 (Go.bits .and .u8 (bt a0 1) 127) (bt a0 2)) = 0
    ·rw [if_pos ey] at H
     have eW : ((Go.bits .or .u8 (Go.bits .and .u8 (bt a0 1) 127) (bt a0 2)) == 0) = true := beq_iff_eq.mpr ey
     have gK : ((Go.bits .or .u8 (Go.bits .and .u8 (bt a0 1) 127) (bt a0 2)) != 0) = false := bne_eq_false_iff_eq.mpr ey
     clear ey
     by_cases ee : 3 < (a0.size : Int)
     ·rw [if_pos ee] at H
      have eX : decide (3 < (a0.size : Int)) = true := decide_eq_true ee
      have hj : decide (3 < a0.size) = true := decide_eq_true Z40
      clear ee
      by_cases eU : (bt a0 3) = 0
      ·rw [if_pos eU] at H
       have gL : ((bt a0 3) == 0) = true := beq_iff_eq.mpr eU
       have hM : ((bt a0 3) != 0) = false := bne_eq_false_iff_eq.mpr eU
       clear eU
       simp only [Option.some.injEq, Prod.mk.injEq] at H
       obtain ⟨rfl, rfl, rfl, rfl, rfl, rfl, rfl, rfl, rfl, rfl, rfl, rfl, rfl, rfl, rfl, rfl, rfl, rfl, rfl, rfl, rfl, rfl, rfl, rfl, rfl, rfl, rfl⟩ := H
       go_enter Try.func30, Try.ntmps30
       try go_wp2_with (first | ((with_reducible refine gate_dst (N := 37) rfl ?_); refine Pre.build_event 37 25 [(0, Go.Operand.const (Go.Value.int Go.IntKind.i64 5)), (15, Go.Operand.tmp 36)] rfl rfl rfl (rerr_Get.bd37 _ _) ?_) | ((with_reducible refine Pre.gate_load 25 rfl ?_); (try (refine gate_guard Z23 ?_; dsimp only)); refine Pre.load_event rfl rfl rfl Z23 Z9 Try.underlying25 rfl Z14 ?_) | ((with_reducible refine gate_dst (N := 2) rfl ?_); refine Sq.box 2 #[.int .i64 0, .int .i64 0, .int .i64 0, .string ⟨#[]⟩, .int .i64 0, .int .i64 0, .string ⟨#[]⟩, .int .i64 0, .int .i64 0, .string ⟨#[]⟩, .int .i64 0, .string ⟨#[]⟩, .int .i64 0, .int .i64 0, .int .i64 0, .int .i64 0, .int .i64 0, .int .i64 0, .int .i64 0, .string ⟨#[]⟩, .string ⟨#[]⟩, .slice none 0 0, .int .i64 0, .string ⟨#[]⟩, .slice none 0 0] 25 ?_; intro ag hg lr hbox hb; have ae := Aside0.mk (hbox); have cp := Aside0.mk (Sq.ge hg Z1); have bm := Aside0.mk (Sq.ge hg Z1); replace HB := Aside0.mk (below_step Z1 hb); clear hb hbox hg))
       have bY := Aside0.mk (blk_drew ae.out)
       have ca := Aside0.mk (below_drew1 HB.out)
       clear ae
       clear HB
       have ae := bY
       have HB := ca
       clear bY ca
       have p7 : 0 ≤ (1 : Int) := Z40
       have q7 : 1 < a0.size := (by have : (1 : Int) < (a0.size : Int) := of_decide_eq_true Z6; omega)
       have hx7 : ∀ h : 1 < a0.size, ((a0[1]'h).toNat : Int) = bt a0 1 := bt_at a0 1
       clear p7
       have qi7 : (1 < (a0.size : Int)) = True := eq_true (of_decide_eq_true Z6)
       replace q7 := eq_true q7
       have p9 : 0 ≤ (2 : Int) := Z40
       have q9 : 2 < a0.size := (by have : (2 : Int) < (a0.size : Int) := of_decide_eq_true Z6; omega)
       have hx9 : ∀ h : 2 < a0.size, ((a0[2]'h).toNat : Int) = bt a0 2 := bt_at a0 2
       clear p9
       have qi9 : (2 < (a0.size : Int)) = True := eq_true (of_decide_eq_true Z6)
       replace q9 := eq_true q9
       refine start_ (n := 8) (S := fun w' => True) (ds := []) (Sq.b 8 0) Z14 rfl rfl trivial (fun hHeld => ?_); refine with_tabW rerr_Get.tab3 rerr_Get.bits3 (fun HT_ HW_ => ?_)
       generalize lr.drew = rR at ae HB hHeld ⊢
       refine Sq.pur 0 (some 20) (Sq.b 8 1) HT_.out ?_
       refine Sq.pur 3 (some 23) (Sq.b 8 9) HT_.out ?_
       refine Sq.tak 1 (some 21) (Sq.b 8 11) HT_.out HW_.out hHeld (v := ?_) (a' := ?_) ?_ ?_ ?_
       rotate_left
       ·rintro w' s0
        first | (refine Eq.trans (Pre.load_run (ty := 25) rfl Z23 Z81 Try.underlying25 rfl Z14) ?_; with_reducible rfl) | (go_simp; with_reducible rfl)
       rotate_left
       ·simp only [Act.put, Sq.s1, Sq.s2, Sq.s3, i64_w, i32_w]
        rfl
       refine Sq.pur 2 (some 22) (Sq.b 8 15) HT_.out ?_
       refine Sq.tak 4 (some 24) (Sq.b 8 31) HT_.out HW_.out hHeld (v := ?_) (a' := ?_) ?_ ?_ ?_
       rotate_left
       ·rintro w' s0
        first | (refine Eq.trans (Pre.load_run (ty := 25) rfl Z23 Z81 Try.underlying25 rfl Z14) ?_; with_reducible rfl) | (go_simp; with_reducible rfl)
       rotate_left
       ·simp only [Act.put, Sq.s1, Sq.s2, Sq.s3, i64_w, i32_w]
        rfl
       refine Sq.pur 5 (some 25) (Sq.b 8 63) HT_.out ?_
       refine Sq.pur 6 (some 26) (Sq.b 8 127) HT_.out ?_
       refine Sq.pur 7 (some 19) (Sq.b 8 255) HT_.out ?_
       refine done_ (done_of HT_.out Z14) ?_
       have p12 : 0 ≤ (3 : Int) := Z40
       have q12 : 3 < a0.size := (by have : (3 : Int) < (a0.size : Int) := of_decide_eq_true Z6; omega)
       have hx12 : ∀ h : 3 < a0.size, ((a0[3]'h).toNat : Int) = bt a0 3 := bt_at a0 3
       clear p12
       have qi12 : (3 < (a0.size : Int)) = True := eq_true (of_decide_eq_true Z6)
       replace q12 := eq_true q12
       have jn := cells_25 ae.out
       try go_wp2_with (first | ((with_reducible refine gate_dst (N := 37) rfl ?_); refine Pre.build_event 37 25 [(0, Go.Operand.const (Go.Value.int Go.IntKind.i64 5)), (15, Go.Operand.tmp 36)] rfl rfl rfl (rerr_Get.bd37 _ _) ?_) | ((with_reducible refine Pre.gate_load 25 rfl ?_); (try (refine gate_guard Z23 ?_; dsimp only)); refine Pre.load_event rfl rfl rfl Z23 Z9 Try.underlying25 rfl Z14 ?_) | ((with_reducible refine Pre.gate_store 25 rfl ?_); refine Pre.store_abs (cur := #[.int .i64 0, .int .i64 0, .int .i64 0, .string ⟨#[]⟩, .int .i64 0, .int .i64 0, .string ⟨#[]⟩, .int .i64 0, .int .i64 0, .string ⟨#[]⟩, .int .i64 0, .string ⟨#[]⟩, .int .i64 0, .int .i64 0, .int .i64 0, .int .i64 0, .int .i64 0, .int .i64 0, .int .i64 0, .string ⟨#[]⟩, .string ⟨#[]⟩, .slice none 0 0, .int .i64 0, .string ⟨#[]⟩, .slice none 0 0]) (e := 25) rfl rfl rfl Z23 Z23 Z2 Z14 Z23 Z23 ?_; intro iP hbS_ sS_; have bY : Aside0 (iP.heap[ag]? = some (.cells #[.int .i64 0, .int .i64 0, .int .i64 0, .string ⟨#[]⟩, .int .i64 0, .int .i64 0, .string ⟨#[]⟩, .int .i64 0, .int .i64 0, .string ⟨#[]⟩, .int .i64 0, .string ⟨#[]⟩, .int .i64 0, .int .i64 0, .int .i64 0, .int .i64 0, .int .i64 0, .int .i64 0, .int .i64 0, .string ⟨#[]⟩, .string ⟨#[]⟩, .slice none 0 0, .int .i64 0, .string ⟨#[]⟩, .slice none 0 0] 25 (0, 0))) := ⟨hbS_⟩; have ca : Aside0 (Below w.heap.size w iP) := ⟨sS_.below Z0 bm.out⟩; clear hbS_ sS_; replace ae := bY; replace HB := ca; clear bY ca))
       refine bodyPost_ret (results_ctt rfl _ _ ag 25 #[.int .i64 0, .int .i64 0, .int .i64 0, .string ⟨#[]⟩, .int .i64 0, .int .i64 0, .string ⟨#[]⟩, .int .i64 0, .int .i64 0, .string ⟨#[]⟩, .int .i64 0, .string ⟨#[]⟩, .int .i64 0, .int .i64 0, .int .i64 0, .int .i64 0, .int .i64 0, .int .i64 0, .int .i64 0, .string ⟨#[]⟩, .string ⟨#[]⟩, .slice none 0 0, .int .i64 0, .string ⟨#[]⟩, .slice none 0 0] (0, 0) _ rfl Z2 Try.underlying25 rfl Z14) rfl ?_
       exact ⟨_, _, Z5, Z13, Z24, Z0⟩
      ·rw [if_neg eU] at H
       have gL : ((bt a0 3) == 0) = false := beq_eq_false_iff_ne.mpr eU
       have hM : ((bt a0 3) != 0) = true := bne_iff_ne.mpr eU
       replace H := Option.bind_eq_some_iff.mp H
       obtain ⟨⟨aW, aY, bq, aT⟩, lc, H⟩ := H
       replace H : ((cursor_Text.f aW aY bq aT 4).bind fun bW => (rerr_Get.l0 k a0 (wrap64 (bt a0 3)) 0 5 0 0 (⟨#[]⟩ : ByteArray) 0 0 (⟨#[]⟩ : ByteArray) 0 0 (⟨#[]⟩ : ByteArray) 0 (⟨#[]⟩ : ByteArray) 0 0 0 (wrap64 ((bt a0 1) / 128)) 0 0 0 (⟨#[]⟩ : ByteArray) (⟨#[]⟩ : ByteArray) ([] : List (S46)) 0 (⟨#[]⟩ : ByteArray) bW.2.1 bW.2.2.1 bW.2.2.2.1 bW.2.2.2.2)) = some (r1, r2, r3, r4, r5, r6, r7, r8, r9, r10, r11, r12, r13, r14, r15, r16, r17, r18, r19, r20, r21, r22, r23, r24, r25, r26, r27) := H
       have su := Aside0.mk lc
       clear lc
       replace H := Option.bind_eq_some_iff.mp H
       obtain ⟨⟨cu, aV, bi, bl, cK⟩, jq, H⟩ := H
       replace H : (rerr_Get.l0 k a0 (wrap64 (bt a0 3)) 0 5 0 0 (⟨#[]⟩ : ByteArray) 0 0 (⟨#[]⟩ : ByteArray) 0 0 (⟨#[]⟩ : ByteArray) 0 (⟨#[]⟩ : ByteArray) 0 0 0 (wrap64 ((bt a0 1) / 128)) 0 0 0 (⟨#[]⟩ : ByteArray) (⟨#[]⟩ : ByteArray) ([] : List (S46)) 0 (⟨#[]⟩ : ByteArray) aV bi bl cK) = some (r1, r2, r3, r4, r5, r6, r7, r8, r9, r10, r11, r12, r13, r14, r15, r16, r17, r18, r19, r20, r21, r22, r23, r24, r25, r26, r27) := H
       have gb := Aside0.mk jq
       clear jq
       have H' := Aside0.mk H
       clear H
       go_enter Try.func30, Try.ntmps30
       try go_wp2_with (first | ((with_reducible refine gate_dst (N := 37) rfl ?_); refine Pre.build_event 37 25 [(0, Go.Operand.const (Go.Value.int Go.IntKind.i64 5)), (15, Go.Operand.tmp 36)] rfl rfl rfl (rerr_Get.bd37 _ _) ?_) | ((with_reducible refine Pre.gate_load 25 rfl ?_); (try (refine gate_guard Z23 ?_; dsimp only)); refine Pre.load_event rfl rfl rfl Z23 Z9 Try.underlying25 rfl Z14 ?_) | ((with_reducible refine gate_dst (N := 2) rfl ?_); refine Sq.box 2 #[.int .i64 0, .int .i64 0, .int .i64 0, .string ⟨#[]⟩, .int .i64 0, .int .i64 0, .string ⟨#[]⟩, .int .i64 0, .int .i64 0, .string ⟨#[]⟩, .int .i64 0, .string ⟨#[]⟩, .int .i64 0, .int .i64 0, .int .i64 0, .int .i64 0, .int .i64 0, .int .i64 0, .int .i64 0, .string ⟨#[]⟩, .string ⟨#[]⟩, .slice none 0 0, .int .i64 0, .string ⟨#[]⟩, .slice none 0 0] 25 ?_; intro ag hg mN hbox hb; have ae := Aside0.mk (hbox); have cp := Aside0.mk (Sq.ge hg Z1); have bm := Aside0.mk (Sq.ge hg Z1); replace HB := Aside0.mk (below_step Z1 hb); clear hb hbox hg))
       have bY := Aside0.mk (blk_drew ae.out)
       have ca := Aside0.mk (below_drew1 HB.out)
       clear ae
       clear HB
       have ae := bY
       have HB := ca
       clear bY ca
       have p7 : 0 ≤ (1 : Int) := Z40
       have q7 : 1 < a0.size := (by have : (1 : Int) < (a0.size : Int) := of_decide_eq_true Z6; omega)
       have hx7 : ∀ h : 1 < a0.size, ((a0[1]'h).toNat : Int) = bt a0 1 := bt_at a0 1
       clear p7
       have qi7 : (1 < (a0.size : Int)) = True := eq_true (of_decide_eq_true Z6)
       replace q7 := eq_true q7
       have p9 : 0 ≤ (2 : Int) := Z40
       have q9 : 2 < a0.size := (by have : (2 : Int) < (a0.size : Int) := of_decide_eq_true Z6; omega)
       have hx9 : ∀ h : 2 < a0.size, ((a0[2]'h).toNat : Int) = bt a0 2 := bt_at a0 2
       clear p9
       have qi9 : (2 < (a0.size : Int)) = True := eq_true (of_decide_eq_true Z6)
       replace q9 := eq_true q9
       refine start_ (n := 8) (S := fun w' => True) (ds := []) (Sq.b 8 0) Z14 rfl rfl trivial (fun hHeld => ?_); refine with_tabW rerr_Get.tab3 rerr_Get.bits3 (fun HT_ HW_ => ?_)
       generalize mN.drew = jS at ae HB hHeld ⊢
       refine Sq.pur 0 (some 20) (Sq.b 8 1) HT_.out ?_
       refine Sq.pur 3 (some 23) (Sq.b 8 9) HT_.out ?_
       refine Sq.tak 1 (some 21) (Sq.b 8 11) HT_.out HW_.out hHeld (v := ?_) (a' := ?_) ?_ ?_ ?_
       rotate_left
       ·rintro w' s0
        first | (refine Eq.trans (Pre.load_run (ty := 25) rfl Z23 Z81 Try.underlying25 rfl Z14) ?_; with_reducible rfl) | (go_simp; with_reducible rfl)
       rotate_left
       ·simp only [Act.put, Sq.s1, Sq.s2, Sq.s3, i64_w, i32_w]
        rfl
       refine Sq.pur 2 (some 22) (Sq.b 8 15) HT_.out ?_
       refine Sq.tak 4 (some 24) (Sq.b 8 31) HT_.out HW_.out hHeld (v := ?_) (a' := ?_) ?_ ?_ ?_
       rotate_left
       ·rintro w' s0
        first | (refine Eq.trans (Pre.load_run (ty := 25) rfl Z23 Z81 Try.underlying25 rfl Z14) ?_; with_reducible rfl) | (go_simp; with_reducible rfl)
       rotate_left
       ·simp only [Act.put, Sq.s1, Sq.s2, Sq.s3, i64_w, i32_w]
        rfl
       refine Sq.pur 5 (some 25) (Sq.b 8 63) HT_.out ?_
       refine Sq.pur 6 (some 26) (Sq.b 8 127) HT_.out ?_
       refine Sq.pur 7 (some 19) (Sq.b 8 255) HT_.out ?_
       refine done_ (done_of HT_.out Z14) ?_
       have p12 : 0 ≤ (3 : Int) := Z40
       have q12 : 3 < a0.size := (by have : (3 : Int) < (a0.size : Int) := of_decide_eq_true Z6; omega)
       have hx12 : ∀ h : 3 < a0.size, ((a0[3]'h).toNat : Int) = bt a0 3 := bt_at a0 3
       clear p12
       have qi12 : (3 < (a0.size : Int)) = True := eq_true (of_decide_eq_true Z6)
       replace q12 := eq_true q12
       have p18 : 0 ≤ (1 : Int) := Z40
       have q18 : 1 < a0.size := (by have : (1 : Int) < (a0.size : Int) := of_decide_eq_true Z6; omega)
       have hx18 : ∀ h : 1 < a0.size, ((a0[1]'h).toNat : Int) = bt a0 1 := bt_at a0 1
       clear p18
       have qi18 : (1 < (a0.size : Int)) = True := eq_true (of_decide_eq_true Z6)
       replace q18 := eq_true q18
       try go_wp2_with (first | ((with_reducible refine gate_dst (N := 37) rfl ?_); refine Pre.build_event 37 25 [(0, Go.Operand.const (Go.Value.int Go.IntKind.i64 5)), (15, Go.Operand.tmp 36)] rfl rfl rfl (rerr_Get.bd37 _ _) ?_) | ((with_reducible refine Pre.gate_load 25 rfl ?_); (try (refine gate_guard Z23 ?_; dsimp only)); refine Pre.load_event rfl rfl rfl Z23 Z9 Try.underlying25 rfl Z14 ?_) | ((with_reducible refine gate_dst (N := 5) rfl ?_); refine Sq.box 5 #[.int .i64 0, .int .i64 0, .int .i64 0, .string ⟨#[]⟩, .int .i64 0, .int .i64 0, .string ⟨#[]⟩, .int .i64 0, .int .i64 0, .string ⟨#[]⟩, .int .i64 0, .string ⟨#[]⟩, .int .i64 0, .int .i64 0, .int .i64 0, .int .i64 0, .int .i64 0, .int .i64 0, .int .i64 0, .string ⟨#[]⟩, .string ⟨#[]⟩, .slice none 0 0, .int .i64 0, .string ⟨#[]⟩, .slice none 0 0] 25 ?_; intro aI hg oa hbox hb; have aN := Aside0.mk (hbox); have fj := Aside0.mk (Sq.ge hg Z0); have ew := Aside0.mk (Sq.ge hg Z0); have aQ := Aside0.mk (Sq.nl hg (blk_lt (g := ag) Z2)); have bj := Aside0.mk (Sq.ng hg (blk_lt (g := ag) Z2)); replace ae := Aside0.mk (blk_below (g := ag) Z2 hb); replace HB := Aside0.mk (below_step Z0 hb); clear hb hbox hg; have qF := bj.out; have qG := aQ.out; have hh := cells_25 aN.out) | ((with_reducible refine Pre.gate_store 25 rfl ?_); refine Pre.store_abs (cur := #[.int .i64 0, .int .i64 0, .int .i64 0, .string ⟨#[]⟩, .int .i64 0, .int .i64 0, .string ⟨#[]⟩, .int .i64 0, .int .i64 0, .string ⟨#[]⟩, .int .i64 0, .string ⟨#[]⟩, .int .i64 0, .int .i64 0, .int .i64 0, .int .i64 0, .int .i64 0, .int .i64 0, .int .i64 0, .string ⟨#[]⟩, .string ⟨#[]⟩, .slice none 0 0, .int .i64 0, .string ⟨#[]⟩, .slice none 0 0]) (e := 25) rfl rfl rfl Z23 Z23 Z19 Z14 Z23 Z23 ?_; intro mi hbS_ sS_; have bY : Aside0 (mi.heap[ag]? = some (.cells #[.int .i64 0, .int .i64 0, .int .i64 0, .string ⟨#[]⟩, .int .i64 0, .int .i64 0, .string ⟨#[]⟩, .int .i64 0, .int .i64 0, .string ⟨#[]⟩, .int .i64 0, .string ⟨#[]⟩, .int .i64 0, .int .i64 0, .int .i64 0, .int .i64 0, .int .i64 0, .int .i64 0, .int .i64 0, .string ⟨#[]⟩, .string ⟨#[]⟩, .slice none 0 0, .int .i64 0, .string ⟨#[]⟩, .slice none 0 0] 25 (0, 0))) := ⟨sS_.blk Z2 aQ.out⟩; have ca : Aside0 (mi.heap[aI]? = some (.cells #[.int .i64 5, .int .i64 0, .int .i64 0, .string ⟨#[]⟩, .int .i64 0, .int .i64 0, .string ⟨#[]⟩, .int .i64 0, .int .i64 0, .string ⟨#[]⟩, .int .i64 0, .string ⟨#[]⟩, .int .i64 0, .int .i64 0, .int .i64 0, .int .i64 (wrap64 ((bt a0 1) / 128)), .int .i64 0, .int .i64 0, .int .i64 0, .string ⟨#[]⟩, .string ⟨#[]⟩, .slice none 0 0, .int .i64 0, .string ⟨#[]⟩, .slice none 0 0] 25 (0, 0))) := ⟨hbS_⟩; have cZ : Aside0 (Below w.heap.size w mi) := ⟨sS_.below Z12 ew.out⟩; clear hbS_ sS_; replace ae := bY; replace aN := ca; replace HB := cZ; clear bY ca cZ) | ((with_reducible refine gate_callee (f := 61) rfl ?_); refine goesL_ (some 40) rfl rfl Try.func61 Z14 rfl #[.string a0] rfl Z4 ?_; (with_reducible refine (cursor_New.calls a0 aW aY bq aT _ su.out).mono ?_); rintro e nr ⟨rfl, hb⟩; refine ⟨_, rfl, ?_⟩; replace ae := Aside0.mk (blk_below (g := ag) Z2 hb); replace aN := Aside0.mk (blk_below (g := aI) Z19 hb); replace HB := Aside0.mk (below_step Z12 hb); clear hb) | ((with_reducible refine gate_callee (f := 60) rfl ?_); refine goesL_ (some 41) rfl rfl Try.func60 Z14 rfl #[.agg #[.string aW, .int .i64 aY, .int .i64 bq, .bool aT], .int .i64 4] rfl Z4 ?_; (with_reducible refine (cursor_Text.calls aW aY bq aT 4 cu aV bi bl cK _ gb.out).mono ?_); rintro e rS ⟨rfl, hb⟩; refine ⟨_, rfl, ?_⟩; replace ae := Aside0.mk (blk_below (g := ag) Z2 hb); replace aN := Aside0.mk (blk_below (g := aI) Z19 hb); replace HB := Aside0.mk (below_step Z12 hb); clear hb) | ((with_reducible refine gate_dst (N := 7) rfl ?_); refine Sq.box 7 #[.string ⟨#[]⟩, .int .i64 0, .int .i64 0, .bool false] 60 ?_; intro ei hg sc hbox hb; have cW := Aside0.mk (hbox); have GW112 := Aside0.mk (Sq.ge hg Z12); have nF := Aside0.mk (Sq.ge hg Z12); have da := Aside0.mk (Sq.nl hg (blk_lt (g := ag) Z2)); have aG := Aside0.mk (Sq.ng hg (blk_lt (g := ag) Z2)); have db := Aside0.mk (Sq.nl hg (blk_lt (g := aI) Z19)); have eV := Aside0.mk (Sq.ng hg (blk_lt (g := aI) Z19)); replace ae := Aside0.mk (blk_below (g := ag) Z2 hb); replace aN := Aside0.mk (blk_below (g := aI) Z19 hb); replace HB := Aside0.mk (below_step Z12 hb); clear hb hbox hg; have ri := aG.out; have rj := da.out; have hnb32 := eV.out; have hnc32 := db.out; have lK := cells_4 cW.out; have p21 : 0 ≤ (3 : Int) := Z40; have q21 : 3 < a0.size := (by have : (3 : Int) < (a0.size : Int) := of_decide_eq_true Z6; omega); have hx21 : ∀ h : 3 < a0.size, ((a0[3]'h).toNat : Int) = bt a0 3 := bt_at a0 3; clear p21; have qi21 : (3 < (a0.size : Int)) = True := eq_true (of_decide_eq_true Z6); replace q21 := eq_true q21))
       go_loopg [47] k (fun kq um w' => ∃ (gg : Int) (ce : List (S46)) (cP : ByteArray) (bv : Int) (cQ : Int) (ec : Bool) (u103021 : Value), um = .int .i64 gg ∧ Aside0 (rerr_Get.l0 kq a0 (wrap64 (bt a0 3)) gg 5 0 0 (⟨#[]⟩ : ByteArray) 0 0 (⟨#[]⟩ : ByteArray) 0 0 (⟨#[]⟩ : ByteArray) 0 (⟨#[]⟩ : ByteArray) 0 0 0 (wrap64 ((bt a0 1) / 128)) 0 0 0 (⟨#[]⟩ : ByteArray) (⟨#[]⟩ : ByteArray) ce 0 (⟨#[]⟩ : ByteArray) cP bv cQ ec = some (r1, r2, r3, r4, r5, r6, r7, r8, r9, r10, r11, r12, r13, r14, r15, r16, r17, r18, r19, r20, r21, r22, r23, r24, r25, r26, r27)) ∧ Aside0 (kq ≤ k) ∧ Aside0 (Kd.R k46 46 w' w.heap.size (fun _ => True) u103021 ce) ∧ Aside0 (w'.heap[ag]? = some (.cells #[.int .i64 0, .int .i64 0, .int .i64 0, .string ⟨#[]⟩, .int .i64 0, .int .i64 0, .string ⟨#[]⟩, .int .i64 0, .int .i64 0, .string ⟨#[]⟩, .int .i64 0, .string ⟨#[]⟩, .int .i64 0, .int .i64 0, .int .i64 0, .int .i64 0, .int .i64 0, .int .i64 0, .int .i64 0, .string ⟨#[]⟩, .string ⟨#[]⟩, (.slice none 0 0), .int .i64 0, .string ⟨#[]⟩, (.slice none 0 0)] 25 (0, 0))) ∧ Aside0 (w'.heap[aI]? = some (.cells #[.int .i64 5, .int .i64 0, .int .i64 0, .string ⟨#[]⟩, .int .i64 0, .int .i64 0, .string ⟨#[]⟩, .int .i64 0, .int .i64 0, .string ⟨#[]⟩, .int .i64 0, .string ⟨#[]⟩, .int .i64 0, .int .i64 0, .int .i64 0, .int .i64 (wrap64 ((bt a0 1) / 128)), .int .i64 0, .int .i64 0, .int .i64 0, .string ⟨#[]⟩, .string ⟨#[]⟩, u103021, .int .i64 0, .string ⟨#[]⟩, (.slice none 0 0)] 25 (0, 0))) ∧ Aside0 (w'.heap[ei]? = some (.cells #[.string cP, .int .i64 bv, .int .i64 cQ, .bool ec] 60 (0, 0))) ∧ Aside0 (Below w.heap.size w w'))
       case atStart => exact ⟨(0), (([] : List (S46))), (aV), (bi), (bl), (cK), (.slice none 0 0), Z16, H', ⟨Nat.le_refl _⟩, ⟨Z13⟩, ⟨by (with_reducible repeat (first | refine blk_drewN ?_ _ | refine blk_drew ?_ | refine blk_alloc ?_ _)); refine blk_far ?_ da.out _; (with_reducible repeat (first | refine blk_drewN ?_ _ | refine blk_drew ?_ | refine blk_alloc ?_ _)); refine blk_far ?_ da.out _; (with_reducible repeat (first | refine blk_drewN ?_ _ | refine blk_drew ?_ | refine blk_alloc ?_ _)); refine blk_far ?_ da.out _; (with_reducible repeat (first | refine blk_drewN ?_ _ | refine blk_drew ?_ | refine blk_alloc ?_ _)); refine blk_far ?_ da.out _; (with_reducible repeat (first | refine blk_drewN ?_ _ | refine blk_drew ?_ | refine blk_alloc ?_ _)); exact ae.out⟩, ⟨by (with_reducible repeat (first | refine blk_drewN ?_ _ | refine blk_drew ?_ | refine blk_alloc ?_ _)); refine blk_far ?_ db.out _; (with_reducible repeat (first | refine blk_drewN ?_ _ | refine blk_drew ?_ | refine blk_alloc ?_ _)); refine blk_far ?_ db.out _; (with_reducible repeat (first | refine blk_drewN ?_ _ | refine blk_drew ?_ | refine blk_alloc ?_ _)); refine blk_far ?_ db.out _; (with_reducible repeat (first | refine blk_drewN ?_ _ | refine blk_drew ?_ | refine blk_alloc ?_ _)); refine blk_far ?_ db.out _; (with_reducible repeat (first | refine blk_drewN ?_ _ | refine blk_drew ?_ | refine blk_alloc ?_ _)); exact aN.out⟩, ⟨by (with_reducible repeat (first | refine blk_drewN ?_ _ | refine blk_drew ?_ | refine blk_alloc ?_ _)); apply blk_puts4; (with_reducible repeat (first | refine blk_drewN ?_ _ | refine blk_drew ?_ | refine blk_alloc ?_ _)); exact cW.out⟩, ⟨Z18⟩⟩
       case round =>
        clear H'
        try clear c1
        try clear p1
        try clear q1
        try clear hx1
        try clear qi1
        try clear c2
        try clear gj
        try clear ig
        try clear p2
        try clear q2
        try clear hx2
        try clear qi2
        try clear c3
        try clear c6
        try clear fg
        try clear fQ
        try clear p6
        try clear p7
        try clear q7
        try clear hx7
        try clear qi7
        try clear c8
        try clear hC
        try clear jg
        try clear p9
        try clear q9
        try clear hx9
        try clear qi9
        try clear ey
        try clear eW
        try clear gK
        try clear ee
        try clear eX
        try clear hj
        try clear p12
        try clear q12
        try clear hx12
        try clear qi12
        try clear eU
        try clear gL
        try clear hM
        try clear p18
        try clear q18
        try clear hx18
        try clear qi18
        try clear p21
        try clear q21
        try clear hx21
        try clear qi21
        try clear kI
        try clear nY
        try clear kK
        try clear mb
        try clear jn
        try clear hh
        try clear lK
        try clear ml
        try clear p12
        try clear p18
        try clear p21
        try clear p7
        try clear p9
        try clear q12
        try clear q18
        try clear q21
        try clear q7
        try clear q9
        obtain ⟨gg, ce, cP, bv, cQ, ec, u103021, rfl, HA, HK1, HO_103021, ae, aN, cW, HB⟩ := hrel
        cases gk with
        | zero => exact absurd HA.out (by simp [rerr_Get.l0])
        | succ k1 =>
         have H := HA.out
         clear HA
         simp only [rerr_Get.l0] at H
         by_cases iS : gg < (wrap64 (bt a0 3))
         ·rw [if_pos iS] at H
          have ll : decide (gg < (wrap64 (bt a0 3))) = true := decide_eq_true iS
          clear iS
          replace H := Option.bind_eq_some_iff.mp H
          obtain ⟨⟨cT, cn, cY, dZ, cv⟩, jp, H⟩ := H
          replace H : ((cursor_Num.f cn cY dZ cv 4).bind fun fV => (if ce.length < 5864062014805 then (rerr_Get.l0 k1 a0 (wrap64 (bt a0 3)) (wrap64 (gg + 1)) 5 0 0 (⟨#[]⟩ : ByteArray) 0 0 (⟨#[]⟩ : ByteArray) 0 0 (⟨#[]⟩ : ByteArray) 0 (⟨#[]⟩ : ByteArray) 0 0 0 (wrap64 ((bt a0 1) / 128)) 0 0 0 (⟨#[]⟩ : ByteArray) (⟨#[]⟩ : ByteArray) (ce ++ [(⟨cT, fV.1⟩ : S46)]) 0 (⟨#[]⟩ : ByteArray) fV.2.1 fV.2.2.1 fV.2.2.2.1 fV.2.2.2.2) else (none))) = some (r1, r2, r3, r4, r5, r6, r7, r8, r9, r10, r11, r12, r13, r14, r15, r16, r17, r18, r19, r20, r21, r22, r23, r24, r25, r26, r27) := H
          have nZ := Aside0.mk jp
          clear jp
          replace H := Option.bind_eq_some_iff.mp H
          obtain ⟨⟨cm, co, dc, dB, df⟩, rk, H⟩ := H
          replace H : (if ce.length < 5864062014805 then (rerr_Get.l0 k1 a0 (wrap64 (bt a0 3)) (wrap64 (gg + 1)) 5 0 0 (⟨#[]⟩ : ByteArray) 0 0 (⟨#[]⟩ : ByteArray) 0 0 (⟨#[]⟩ : ByteArray) 0 (⟨#[]⟩ : ByteArray) 0 0 0 (wrap64 ((bt a0 1) / 128)) 0 0 0 (⟨#[]⟩ : ByteArray) (⟨#[]⟩ : ByteArray) (ce ++ [(⟨cT, cm⟩ : S46)]) 0 (⟨#[]⟩ : ByteArray) co dc dB df) else (none)) = some (r1, r2, r3, r4, r5, r6, r7, r8, r9, r10, r11, r12, r13, r14, r15, r16, r17, r18, r19, r20, r21, r22, r23, r24, r25, r26, r27) := H
          have un := Aside0.mk rk
          clear rk
          by_cases kH : ce.length < 5864062014805
          ·rw [if_pos kH] at H
           have LMc37 := Aside0.mk kH
           clear kH
           obtain ⟨mK, hy124⟩ : ∃ y_ : List (S46), y_ = (ce ++ [(⟨cT, cm⟩ : S46)]) := ⟨_, rfl⟩
           replace H : (rerr_Get.l0 k1 a0 (wrap64 (bt a0 3)) (wrap64 (gg + 1)) 5 0 0 (⟨#[]⟩ : ByteArray) 0 0 (⟨#[]⟩ : ByteArray) 0 0 (⟨#[]⟩ : ByteArray) 0 (⟨#[]⟩ : ByteArray) 0 0 0 (wrap64 ((bt a0 1) / 128)) 0 0 0 (⟨#[]⟩ : ByteArray) (⟨#[]⟩ : ByteArray) mK 0 (⟨#[]⟩ : ByteArray) co dc dB df) = some (r1, r2, r3, r4, r5, r6, r7, r8, r9, r10, r11, r12, r13, r14, r15, r16, r17, r18, r19, r20, r21, r22, r23, r24, r25, r26, r27) := by first | (rw [hy124]; with_reducible exact H) | (have H2_ := (Option.bind_some _ _).symm.trans H; rw [hy124]; with_reducible exact H2_) | (have H2_ := (Option.bind_some _ _).symm.trans H; with_reducible exact H2_) | with_reducible exact H | (rw [hy124]; exact H) | exact H
           have Ny124 := Aside0.mk hy124
           clear hy124
           have H' := Aside0.mk H
           clear H
           go_wp2_with (first | ((with_reducible refine gate_dst (N := 37) rfl ?_); refine Pre.build_event 37 25 [(0, Go.Operand.const (Go.Value.int Go.IntKind.i64 5)), (15, Go.Operand.tmp 36)] rfl rfl rfl (rerr_Get.bd37 _ _) ?_) | ((with_reducible refine Pre.gate_load 25 rfl ?_); (try (refine gate_guard Z23 ?_; dsimp only)); refine Pre.load_event rfl rfl rfl Z23 Z9 Try.underlying25 rfl Z14 ?_) | ((with_reducible refine gate_dst (N := 8) rfl ?_); refine Sq.box 8 #[.string ⟨#[]⟩, .int .i64 0] 46 ?_; intro fe hg sL hbox hb; have eP := Aside0.mk (hbox); have GW113 := Aside0.mk (Sq.ge hg Z18); have rl := Aside0.mk (Sq.ge hg Z18); have iJ := Aside0.mk (Sq.nl hg (blk_lt (g := ag) Z2)); have kx := Aside0.mk (Sq.ng hg (blk_lt (g := ag) Z2)); have iK := Aside0.mk (Sq.nl hg (blk_lt (g := aI) Z19)); have ky := Aside0.mk (Sq.ng hg (blk_lt (g := aI) Z19)); have iL := Aside0.mk (Sq.nl hg (blk_lt (g := ei) (o := .cells #[.string cP, .int .i64 bv, .int .i64 cQ, .bool ec] 60 (0, 0)) Z44)); have en := Aside0.mk (Sq.ng hg (blk_lt (g := ei) (o := .cells #[.string cP, .int .i64 bv, .int .i64 cQ, .bool ec] 60 (0, 0)) Z44)); replace HO_103021 := Aside0.mk (Kd.R_below (Kd.R_elderB Z67 fe (Nat.le_of_eq hg.symm)) hb); replace ae := Aside0.mk (blk_below (g := ag) Z2 hb); replace aN := Aside0.mk (blk_below (g := aI) Z19 hb); replace cW := Aside0.mk (blk_below (g := ei) (o := .cells #[.string cP, .int .i64 bv, .int .i64 cQ, .bool ec] 60 (0, 0)) Z44 hb); replace HB := Aside0.mk (below_step Z18 hb); clear hb hbox hg; have hnb39 := aG.out; have hnc39 := da.out; have hnb40 := eV.out; have hnc40 := db.out; have qp := iL.out; have qq := en.out; have rm := cells_4 cW.out) | ((with_reducible refine gate_callee (f := 60) rfl ?_); refine goesL_ (some 51) rfl rfl Try.func60 Z14 rfl #[.agg #[.string cP, .int .i64 bv, .int .i64 cQ, .bool ec], .int .i64 4] rfl Z4 ?_; (with_reducible refine (cursor_Text.calls cP bv cQ ec 4 cT cn cY dZ cv _ nZ.out).mono ?_); rintro e oO ⟨rfl, hb⟩; refine ⟨_, rfl, ?_⟩; replace HO_103021 := Aside0.mk (Kd.R_below Z67 hb); replace ae := Aside0.mk (blk_below (g := ag) Z2 hb); replace aN := Aside0.mk (blk_below (g := aI) Z19 hb); replace cW := Aside0.mk (blk_below (g := ei) (o := .cells #[.string cP, .int .i64 bv, .int .i64 cQ, .bool ec] 60 (0, 0)) Z44 hb); replace eP := Aside0.mk (blk_below (g := fe) (o := .cells #[.string ⟨#[]⟩, .int .i64 0] 46 (0, 0)) (by (with_reducible repeat (first | refine blk_drewN ?_ _ | refine blk_drew ?_ | refine blk_alloc ?_ _)); exact eP.out) hb); replace HB := Aside0.mk (below_step Z35 hb); clear hb; have nk := kx.out; have nm := iJ.out; have rn := ky.out; have ro := iK.out; have hcz46_0 : oO.cell? ⟨fe, 0, none⟩ = some (.string ⟨#[]⟩) := (blk_cell eP.out 0).trans rfl; have hcz46_1 : oO.cell? ⟨fe, 1, none⟩ = some (.int .i64 0) := (blk_cell eP.out 1).trans rfl; have hfz46_0 := blk_frozen eP.out 0; have hfz46_1 := blk_frozen eP.out 1; have nn := cells_4 cW.out) | ((with_reducible refine gate_callee (f := 62) rfl ?_); refine goesL_ (some 57) rfl rfl Try.func62 Z14 rfl #[.agg #[.string cn, .int .i64 cY, .int .i64 dZ, .bool cv], .int .i64 4] rfl Z4 ?_; (with_reducible refine (cursor_Num.calls cn cY dZ cv 4 cm co dc dB df _ un.out).mono ?_); rintro e pj ⟨rfl, hb⟩; refine ⟨_, rfl, ?_⟩; replace HO_103021 := Aside0.mk (Kd.R_below (by (with_reducible repeat (first | apply Kd.R_alloc | apply Kd.R_drewN | apply Kd.R_drew)); exact (Kd.R_mono (Kd.R_mono (Kd.R_far (p := ⟨ei, 3, none⟩) (Kd.R_far (p := ⟨ei, 2, none⟩) (Kd.R_far (p := ⟨ei, 1, none⟩) (Kd.R_far (p := ⟨ei, 0, none⟩) (Kd.R_far (p := ⟨fe, 0, none⟩) (Kd.R_types (Kd.R_mono HO_103021.out (fun k_ hk => (⟨hk, hk.2⟩ : _ ∧ k_ ≠ fe))) cW.out Z29) (fun _ hk => hk.1.2) (.string cT)) (fun _ hk => hk.2) (.string cn)) (fun _ hk => hk.2) (.int .i64 cY)) (fun _ hk => hk.2) (.int .i64 dZ)) (fun _ hk => hk.2) (.bool cv)) (fun _ h_ => h_.1)) (fun _ h_ => h_.1))) hb); replace ae := Aside0.mk (blk_below (g := ag) (o := .cells #[.int .i64 0, .int .i64 0, .int .i64 0, .string ⟨#[]⟩, .int .i64 0, .int .i64 0, .string ⟨#[]⟩, .int .i64 0, .int .i64 0, .string ⟨#[]⟩, .int .i64 0, .string ⟨#[]⟩, .int .i64 0, .int .i64 0, .int .i64 0, .int .i64 0, .int .i64 0, .int .i64 0, .int .i64 0, .string ⟨#[]⟩, .string ⟨#[]⟩, .slice none 0 0, .int .i64 0, .string ⟨#[]⟩, .slice none 0 0] 25 (0, 0)) Z46 hb); replace aN := Aside0.mk (blk_below (g := aI) (o := .cells #[.int .i64 5, .int .i64 0, .int .i64 0, .string ⟨#[]⟩, .int .i64 0, .int .i64 0, .string ⟨#[]⟩, .int .i64 0, .int .i64 0, .string ⟨#[]⟩, .int .i64 0, .string ⟨#[]⟩, .int .i64 0, .int .i64 0, .int .i64 0, .int .i64 (wrap64 ((bt a0 1) / 128)), .int .i64 0, .int .i64 0, .int .i64 0, .string ⟨#[]⟩, .string ⟨#[]⟩, u103021, .int .i64 0, .string ⟨#[]⟩, .slice none 0 0] 25 (0, 0)) Z45 hb); replace cW := Aside0.mk (blk_below (g := ei) (o := .cells #[.string cn, .int .i64 cY, .int .i64 dZ, .bool cv] 60 (0, 0)) Z74 hb); replace eP := Aside0.mk (blk_below (g := fe) (o := .cells #[.string cT, .int .i64 0] 46 (0, 0)) (by (with_reducible repeat (first | refine blk_drewN ?_ _ | refine blk_drew ?_ | refine blk_alloc ?_ _)); refine blk_far ?_ en.out _; (with_reducible repeat (first | refine blk_drewN ?_ _ | refine blk_drew ?_ | refine blk_alloc ?_ _)); refine blk_far ?_ en.out _; (with_reducible repeat (first | refine blk_drewN ?_ _ | refine blk_drew ?_ | refine blk_alloc ?_ _)); refine blk_far ?_ en.out _; (with_reducible repeat (first | refine blk_drewN ?_ _ | refine blk_drew ?_ | refine blk_alloc ?_ _)); refine blk_far ?_ en.out _; (with_reducible repeat (first | refine blk_drewN ?_ _ | refine blk_drew ?_ | refine blk_alloc ?_ _)); refine blk_put (cs := #[.string ⟨#[]⟩, .int .i64 0]) ?_ 0 _ rfl; (with_reducible repeat (first | refine blk_drewN ?_ _ | refine blk_drew ?_ | refine blk_alloc ?_ _)); exact eP.out) hb); replace HB := Aside0.mk (below_step Z35 hb); clear hb; (try clear hk); have hcz49_0 : pj.cell? ⟨fe, 0, none⟩ = some (.string cT) := (blk_cell eP.out 0).trans rfl; have hcz49_1 : pj.cell? ⟨fe, 1, none⟩ = some (.int .i64 0) := (blk_cell eP.out 1).trans rfl; have hfz49_0 := blk_frozen eP.out 0; have hfz49_1 := blk_frozen eP.out 1; have hcz50 := cells_4 cW.out; have hnb51 := bj.out; have hnc51 := aQ.out; have hcz52 := cells_25 aN.out) | ((with_reducible refine gate_builtin (b := .append) (xs := #[.tmp 62, .tmp 64]) rfl ?_); at_builtin; refine Kd.R_append k46 (w0 := w) w.heap.size rfl (.tmp 62) (.tmp 64) 22 46 (.agg #[(.string ⟨#[]⟩), (.int .i64 0)]) 24 rfl Try.underlying22 info46 rfl Z29 Z40 u103021 ce (⟨cT, cm⟩ : S46) [.string cT, .int .i64 cm] (fun k_ => k_ ≠ fe) (fun _ => False) rfl (by first | (go_simp; done) | (go_simp; rfl)) ?aP (fun _ hk => hk.elim) ?aF ?aO ?aB ?aS ?aL ?_; (case aP => exact k46_mkM _ _ _ (⟨cT, cm⟩ : S46)); (case aB => exact Z35); (case aF => exact (fun k_ hk => Kd.freshB (g := fe) (o := .cells #[.string cT, .int .i64 cm] 46 (0, 0)) Z43 k_ hk)); (case aO => exact (by (with_reducible repeat (first | apply Kd.R_alloc | apply Kd.R_drewN | apply Kd.R_drew)); exact Kd.R_mono (Kd.R_far (p := ⟨ei, 3, none⟩) (Kd.R_far (p := ⟨ei, 2, none⟩) (Kd.R_far (p := ⟨ei, 1, none⟩) (Kd.R_far (p := ⟨ei, 0, none⟩) (Kd.R_far (p := ⟨fe, 1, none⟩) (Kd.R_types (Kd.R_mono HO_103021.out (fun k_ hk => (⟨hk, hk.2⟩ : _ ∧ k_ ≠ fe))) cW.out Z29) (fun _ hk => hk.1.2) (.int .i64 cm)) (fun _ hk => hk.2) (.string co)) (fun _ hk => hk.2) (.int .i64 dc)) (fun _ hk => hk.2) (.int .i64 dB)) (fun _ hk => hk.2) (.bool df)) (fun _ hk => hk.1.1.2))); (case aS => exact (below_size Z35)); (case aL => have := LMc37.out; omega); intro v125 tT ho hb hg hat; rw [← Ny124.out] at ho; have nG := Aside0.mk (ho); replace ae := Aside0.mk (blk_grown (g := ag) (o := .cells #[.int .i64 0, .int .i64 0, .int .i64 0, .string ⟨#[]⟩, .int .i64 0, .int .i64 0, .string ⟨#[]⟩, .int .i64 0, .int .i64 0, .string ⟨#[]⟩, .int .i64 0, .string ⟨#[]⟩, .int .i64 0, .int .i64 0, .int .i64 0, .int .i64 0, .int .i64 0, .int .i64 0, .int .i64 0, .string ⟨#[]⟩, .string ⟨#[]⟩, .slice none 0 0, .int .i64 0, .string ⟨#[]⟩, .slice none 0 0] 25 (0, 0)) Z46 hg (Kd.R_ne HO_103021.out ae.out Z29)); replace aN := Aside0.mk (blk_grown (g := aI) (o := .cells #[.int .i64 5, .int .i64 0, .int .i64 0, .string ⟨#[]⟩, .int .i64 0, .int .i64 0, .string ⟨#[]⟩, .int .i64 0, .int .i64 0, .string ⟨#[]⟩, .int .i64 0, .string ⟨#[]⟩, .int .i64 0, .int .i64 0, .int .i64 0, .int .i64 (wrap64 ((bt a0 1) / 128)), .int .i64 0, .int .i64 0, .int .i64 0, .string ⟨#[]⟩, .string ⟨#[]⟩, u103021, .int .i64 0, .string ⟨#[]⟩, .slice none 0 0] 25 (0, 0)) Z45 hg (Kd.R_ne HO_103021.out aN.out Z29)); replace cW := Aside0.mk (blk_grown (g := ei) (o := .cells #[.string co, .int .i64 dc, .int .i64 dB, .bool df] 60 (0, 0)) Z74 hg (Kd.R_ne HO_103021.out cW.out Z29)); replace eP := Aside0.mk (blk_grown (g := fe) (o := .cells #[.string cT, .int .i64 cm] 46 (0, 0)) Z43 hg (Kd.R_away HO_103021.out (fun _ hk => hk.2))); replace HB := Aside0.mk (hb); clear HO_103021; clear ho hb hg hat; obtain ⟨rp, rq, eo54⟩ := Kd.R_slice nG.out; subst eo54; have hcz55 := cells_25 aN.out))
           go_roundg k1
           case measure => have := HK1.out; omega
           case rel => exact ⟨(wrap64 (gg + 1)), (mK), (co), (dc), (dB), (df), (.slice rp mK.length rq), Z16, H', ⟨Z86⟩, ⟨by (with_reducible repeat (first | apply Kd.R_alloc | apply Kd.R_drewN | apply Kd.R_drew)); exact Kd.R_mono (Kd.R_far (p := ⟨aI, 21, none⟩) (Kd.R_types nG.out aN.out Z29) (fun _ hk => hk.2) (.slice rp mK.length rq)) (fun _ hk => trivial)⟩, ⟨Z83⟩, ⟨by (with_reducible repeat (first | refine blk_drewN ?_ _ | refine blk_drew ?_ | refine blk_alloc ?_ _)); refine blk_put (cs := #[.int .i64 5, .int .i64 0, .int .i64 0, .string ⟨#[]⟩, .int .i64 0, .int .i64 0, .string ⟨#[]⟩, .int .i64 0, .int .i64 0, .string ⟨#[]⟩, .int .i64 0, .string ⟨#[]⟩, .int .i64 0, .int .i64 0, .int .i64 0, .int .i64 (wrap64 ((bt a0 1) / 128)), .int .i64 0, .int .i64 0, .int .i64 0, .string ⟨#[]⟩, .string ⟨#[]⟩, u103021, .int .i64 0, .string ⟨#[]⟩, .slice none 0 0]) ?_ 21 _ rfl; (with_reducible repeat (first | refine blk_drewN ?_ _ | refine blk_drew ?_ | refine blk_alloc ?_ _)); exact aN.out⟩, ⟨Z82⟩, ⟨Z35⟩⟩
          ·rw [if_neg kH] at H
           exact absurd H Z71
         ·rw [if_neg iS] at H
          have ll : decide (gg < (wrap64 (bt a0 3))) = false := decide_eq_false iS
          clear iS
          by_cases rX : ec = true
          ·subst rX
           have H1 : (some (0, 0, 0, (⟨#[]⟩ : ByteArray), 0, 0, (⟨#[]⟩ : ByteArray), 0, 0, (⟨#[]⟩ : ByteArray), 0, (⟨#[]⟩ : ByteArray), 0, 0, 0, 0, 0, 0, 0, (⟨#[]⟩ : ByteArray), (⟨#[]⟩ : ByteArray), ([] : List (S46)), 0, (⟨#[]⟩ : ByteArray), ([] : List (S48)), (a0.size : Int), 2)) = some (r1, r2, r3, r4, r5, r6, r7, r8, r9, r10, r11, r12, r13, r14, r15, r16, r17, r18, r19, r20, r21, r22, r23, r24, r25, r26, r27) := by rw [if_pos rfl] at H; exact H
           clear H
           have H := H1
           clear H1
           simp only [Option.some.injEq, Prod.mk.injEq] at H
           obtain ⟨rfl, rfl, rfl, rfl, rfl, rfl, rfl, rfl, rfl, rfl, rfl, rfl, rfl, rfl, rfl, rfl, rfl, rfl, rfl, rfl, rfl, rfl, rfl, rfl, rfl, rfl, rfl⟩ := H
           have hnb57 := aG.out
           have hnc57 := da.out
           have hnb58 := eV.out
           have hnc58 := db.out
           have hcz59 := cells_4 cW.out
           have qg := aQ.out
           have qh := bj.out
           have qi := cells_25 ae.out
           go_wp2_with (first | ((with_reducible refine gate_dst (N := 37) rfl ?_); refine Pre.build_event 37 25 [(0, Go.Operand.const (Go.Value.int Go.IntKind.i64 5)), (15, Go.Operand.tmp 36)] rfl rfl rfl (rerr_Get.bd37 _ _) ?_) | ((with_reducible refine Pre.gate_load 25 rfl ?_); (try (refine gate_guard Z23 ?_; dsimp only)); refine Pre.load_event rfl rfl rfl Z23 Z9 Try.underlying25 rfl Z14 ?_) | ((with_reducible refine Pre.gate_store 25 rfl ?_); refine Pre.store_abs (cur := #[.int .i64 0, .int .i64 0, .int .i64 0, .string ⟨#[]⟩, .int .i64 0, .int .i64 0, .string ⟨#[]⟩, .int .i64 0, .int .i64 0, .string ⟨#[]⟩, .int .i64 0, .string ⟨#[]⟩, .int .i64 0, .int .i64 0, .int .i64 0, .int .i64 0, .int .i64 0, .int .i64 0, .int .i64 0, .string ⟨#[]⟩, .string ⟨#[]⟩, .slice none 0 0, .int .i64 0, .string ⟨#[]⟩, .slice none 0 0]) (e := 25) rfl rfl rfl Z23 Z23 Z2 Z14 Z23 Z23 ?_; intro oK hbS_ sS_; have bY : Aside0 (Kd.R k46 46 oK w.heap.size (fun _ => True) u103021 ce) := ⟨Kd.R_mono (Pre.R_sets sS_ (Kd.R_types HO_103021.out ae.out Z29) (fun _ hk => hk.2)) (fun _ hk => trivial)⟩; have ca : Aside0 (oK.heap[ag]? = some (.cells #[.int .i64 0, .int .i64 0, .int .i64 0, .string ⟨#[]⟩, .int .i64 0, .int .i64 0, .string ⟨#[]⟩, .int .i64 0, .int .i64 0, .string ⟨#[]⟩, .int .i64 0, .string ⟨#[]⟩, .int .i64 0, .int .i64 0, .int .i64 0, .int .i64 0, .int .i64 0, .int .i64 0, .int .i64 0, .string ⟨#[]⟩, .string ⟨#[]⟩, .slice none 0 0, .int .i64 0, .string ⟨#[]⟩, .slice none 0 0] 25 (0, 0))) := ⟨hbS_⟩; have cZ : Aside0 (oK.heap[aI]? = some (.cells #[.int .i64 5, .int .i64 0, .int .i64 0, .string ⟨#[]⟩, .int .i64 0, .int .i64 0, .string ⟨#[]⟩, .int .i64 0, .int .i64 0, .string ⟨#[]⟩, .int .i64 0, .string ⟨#[]⟩, .int .i64 0, .int .i64 0, .int .i64 0, .int .i64 (wrap64 ((bt a0 1) / 128)), .int .i64 0, .int .i64 0, .int .i64 0, .string ⟨#[]⟩, .string ⟨#[]⟩, u103021, .int .i64 0, .string ⟨#[]⟩, .slice none 0 0] 25 (0, 0))) := ⟨sS_.blk Z19 bj.out⟩; have ex : Aside0 (oK.heap[ei]? = some (.cells #[.string cP, .int .i64 bv, .int .i64 cQ, .bool true] 60 (0, 0))) := ⟨sS_.blk Z44 aG.out⟩; have hP : Aside0 (Below w.heap.size w oK) := ⟨sS_.below Z18 bm.out⟩; clear hbS_ sS_; replace HO_103021 := bY; replace ae := ca; replace aN := cZ; replace cW := ex; replace HB := hP; clear bY ca cZ ex hP))
           refine bodyPost_ret (results_ctt rfl _ _ ag 25 #[.int .i64 0, .int .i64 0, .int .i64 0, .string ⟨#[]⟩, .int .i64 0, .int .i64 0, .string ⟨#[]⟩, .int .i64 0, .int .i64 0, .string ⟨#[]⟩, .int .i64 0, .string ⟨#[]⟩, .int .i64 0, .int .i64 0, .int .i64 0, .int .i64 0, .int .i64 0, .int .i64 0, .int .i64 0, .string ⟨#[]⟩, .string ⟨#[]⟩, .slice none 0 0, .int .i64 0, .string ⟨#[]⟩, .slice none 0 0] (0, 0) _ rfl Z2 Try.underlying25 rfl Z14) rfl ?_
           exact ⟨_, _, Z5, Z13, Z24, Z18⟩
          ·replace rX := Bool.eq_false_iff.mpr rX
           subst rX
           have H1 : (if 0 ≤ bv then (if bv ≤ (a0.size : Int) then ((ext_Get.f k1 (a0.extract (bv : Int).toNat a0.size)).bind fun gW => (if gW.2.2 = 0 then (some (5, 0, 0, (⟨#[]⟩ : ByteArray), 0, 0, (⟨#[]⟩ : ByteArray), 0, 0, (⟨#[]⟩ : ByteArray), 0, (⟨#[]⟩ : ByteArray), 0, 0, 0, (wrap64 ((bt a0 1) / 128)), 0, 0, 0, (⟨#[]⟩ : ByteArray), (⟨#[]⟩ : ByteArray), ce, 0, (⟨#[]⟩ : ByteArray), gW.1, 0, 0)) else (some (0, 0, 0, (⟨#[]⟩ : ByteArray), 0, 0, (⟨#[]⟩ : ByteArray), 0, 0, (⟨#[]⟩ : ByteArray), 0, (⟨#[]⟩ : ByteArray), 0, 0, 0, 0, 0, 0, 0, (⟨#[]⟩ : ByteArray), (⟨#[]⟩ : ByteArray), ([] : List (S46)), 0, (⟨#[]⟩ : ByteArray), ([] : List (S48)), wrap64 (bv + gW.2.1), gW.2.2)))) else (none)) else (none)) = some (r1, r2, r3, r4, r5, r6, r7, r8, r9, r10, r11, r12, r13, r14, r15, r16, r17, r18, r19, r20, r21, r22, r23, r24, r25, r26, r27) := by rw [if_neg (show ¬ (false = true) by decide)] at H; exact H
           clear H
           have H := H1
           clear H1
           by_cases rr : 0 ≤ bv
           ·rw [if_pos rr] at H
            have c63b0 := eq_true rr
            have c63b1 : decide (0 ≤ bv) = true := decide_eq_true rr
            clear rr
            by_cases rs : bv ≤ (a0.size : Int)
            ·rw [if_pos rs] at H
             have c64b0 := eq_true rs
             have c64b1 : decide (bv ≤ (a0.size : Int)) = true := decide_eq_true rs
             clear rs
             replace H := Option.bind_eq_some_iff.mp H
             obtain ⟨⟨de, ef, eM⟩, rt, H⟩ := H
             replace H : (if eM = 0 then (some (5, 0, 0, (⟨#[]⟩ : ByteArray), 0, 0, (⟨#[]⟩ : ByteArray), 0, 0, (⟨#[]⟩ : ByteArray), 0, (⟨#[]⟩ : ByteArray), 0, 0, 0, (wrap64 ((bt a0 1) / 128)), 0, 0, 0, (⟨#[]⟩ : ByteArray), (⟨#[]⟩ : ByteArray), ce, 0, (⟨#[]⟩ : ByteArray), de, 0, 0)) else (some (0, 0, 0, (⟨#[]⟩ : ByteArray), 0, 0, (⟨#[]⟩ : ByteArray), 0, 0, (⟨#[]⟩ : ByteArray), 0, (⟨#[]⟩ : ByteArray), 0, 0, 0, 0, 0, 0, 0, (⟨#[]⟩ : ByteArray), (⟨#[]⟩ : ByteArray), ([] : List (S46)), 0, (⟨#[]⟩ : ByteArray), ([] : List (S48)), wrap64 (bv + ef), eM))) = some (r1, r2, r3, r4, r5, r6, r7, r8, r9, r10, r11, r12, r13, r14, r15, r16, r17, r18, r19, r20, r21, r22, r23, r24, r25, r26, r27) := H
             have tI := Aside0.mk rt
             clear rt
             by_cases oF : eM = 0
             ·rw [if_pos oF] at H
              have ru : (eM == 0) = true := beq_iff_eq.mpr oF
              have rv : (eM != 0) = false := bne_eq_false_iff_eq.mpr oF
              clear oF
              simp only [Option.some.injEq, Prod.mk.injEq] at H
              obtain ⟨rfl, rfl, rfl, rfl, rfl, rfl, rfl, rfl, rfl, rfl, rfl, rfl, rfl, rfl, rfl, rfl, rfl, rfl, rfl, rfl, rfl, rfl, rfl, rfl, rfl, rfl, rfl⟩ := H
              have hnb67 := aG.out
              have hnc67 := da.out
              have hnb68 := eV.out
              have hnc68 := db.out
              have hcz69 := cells_4 cW.out
              go_wp2_with (first | ((with_reducible refine gate_dst (N := 37) rfl ?_); refine Pre.build_event 37 25 [(0, Go.Operand.const (Go.Value.int Go.IntKind.i64 5)), (15, Go.Operand.tmp 36)] rfl rfl rfl (rerr_Get.bd37 _ _) ?_) | ((with_reducible refine Pre.gate_load 25 rfl ?_); (try (refine gate_guard Z23 ?_; dsimp only)); refine Pre.load_event rfl rfl rfl Z23 Z9 Try.underlying25 rfl Z14 ?_) | ((with_reducible refine gate_callee (f := 59) rfl ?_); refine goesL_ (some 78) rfl rfl Try.func59 Z14 rfl #[.string (a0.extract (bv : Int).toNat a0.size)] rfl Z4 ?_; (with_reducible refine (ext_Get.calls k1 (a0.extract (bv : Int).toNat a0.size) de ef eM _ tI.out).mono ?_); rintro e w70 ⟨rx, rfl, ho0, hb⟩; refine ⟨_, rfl, ?_⟩; have fK := Aside0.mk (Kd.R_lower ho0 (below_size Z18)); replace HO_103021 := Aside0.mk (Kd.R_below Z67 hb); replace ae := Aside0.mk (blk_below (g := ag) Z2 hb); replace aN := Aside0.mk (blk_below (g := aI) Z19 hb); replace cW := Aside0.mk (blk_below (g := ei) (o := .cells #[.string cP, .int .i64 bv, .int .i64 cQ, .bool false] 60 (0, 0)) Z44 hb); replace HB := Aside0.mk (below_step Z18 hb); clear hb ho0; obtain ⟨kz, kA, eo71⟩ := Kd.R_slice fK.out; subst eo71; have hnb72 := bj.out; have hnc72 := aQ.out; have qk := cells_25 aN.out; have mX := cells_25 ae.out; obtain ⟨lV, lW, eo75⟩ := Kd.R_slice HO_103021.out; subst eo75) | ((with_reducible refine Pre.gate_store 25 rfl ?_); refine Pre.store_abs (cur := #[.int .i64 0, .int .i64 0, .int .i64 0, .string ⟨#[]⟩, .int .i64 0, .int .i64 0, .string ⟨#[]⟩, .int .i64 0, .int .i64 0, .string ⟨#[]⟩, .int .i64 0, .string ⟨#[]⟩, .int .i64 0, .int .i64 0, .int .i64 0, .int .i64 0, .int .i64 0, .int .i64 0, .int .i64 0, .string ⟨#[]⟩, .string ⟨#[]⟩, .slice none 0 0, .int .i64 0, .string ⟨#[]⟩, .slice none 0 0]) (e := 25) rfl rfl rfl Z23 Z23 Z83 Z14 Z23 Z23 ?_; intro oG hbS_ sS_; have bY : Aside0 (Kd.R k46 46 oG w.heap.size (fun _ => True) (.slice lV ce.length lW) ce) := ⟨Kd.R_mono (Pre.R_sets sS_ (Kd.R_far (p := ⟨aI, 24, none⟩) (Kd.R_types (Kd.R_types HO_103021.out aN.out Z29) ae.out Z29) (fun _ hk => hk.1.2) (.slice kz de.length kA)) (fun _ hk => hk.2)) (fun _ hk => trivial)⟩; have ca : Aside0 (Kd.R k48 48 oG w.heap.size (fun _ => True) (.slice kz de.length kA) de) := ⟨Kd.R_mono (Pre.R_sets sS_ (Kd.R_far (p := ⟨aI, 24, none⟩) (Kd.R_types (Kd.R_types fK.out aN.out Z29) ae.out Z29) (fun _ hk => hk.1.2) (.slice kz de.length kA)) (fun _ hk => hk.2)) (fun _ hk => trivial)⟩; have cZ : Aside0 (oG.heap[ag]? = some (.cells #[.int .i64 5, .int .i64 0, .int .i64 0, .string ⟨#[]⟩, .int .i64 0, .int .i64 0, .string ⟨#[]⟩, .int .i64 0, .int .i64 0, .string ⟨#[]⟩, .int .i64 0, .string ⟨#[]⟩, .int .i64 0, .int .i64 0, .int .i64 0, .int .i64 (wrap64 ((bt a0 1) / 128)), .int .i64 0, .int .i64 0, .int .i64 0, .string ⟨#[]⟩, .string ⟨#[]⟩, .slice lV ce.length lW, .int .i64 0, .string ⟨#[]⟩, .slice kz de.length kA] 25 (0, 0))) := ⟨hbS_⟩; have ex : Aside0 (oG.heap[aI]? = some (.cells #[.int .i64 5, .int .i64 0, .int .i64 0, .string ⟨#[]⟩, .int .i64 0, .int .i64 0, .string ⟨#[]⟩, .int .i64 0, .int .i64 0, .string ⟨#[]⟩, .int .i64 0, .string ⟨#[]⟩, .int .i64 0, .int .i64 0, .int .i64 0, .int .i64 (wrap64 ((bt a0 1) / 128)), .int .i64 0, .int .i64 0, .int .i64 0, .string ⟨#[]⟩, .string ⟨#[]⟩, .slice lV ce.length lW, .int .i64 0, .string ⟨#[]⟩, .slice kz de.length kA] 25 (0, 0))) := ⟨sS_.blk (by (with_reducible repeat (first | refine blk_drewN ?_ _ | refine blk_drew ?_ | refine blk_alloc ?_ _)); refine blk_put (cs := #[.int .i64 5, .int .i64 0, .int .i64 0, .string ⟨#[]⟩, .int .i64 0, .int .i64 0, .string ⟨#[]⟩, .int .i64 0, .int .i64 0, .string ⟨#[]⟩, .int .i64 0, .string ⟨#[]⟩, .int .i64 0, .int .i64 0, .int .i64 0, .int .i64 (wrap64 ((bt a0 1) / 128)), .int .i64 0, .int .i64 0, .int .i64 0, .string ⟨#[]⟩, .string ⟨#[]⟩, .slice lV ce.length lW, .int .i64 0, .string ⟨#[]⟩, .slice none 0 0]) ?_ 24 _ rfl; (with_reducible repeat (first | refine blk_drewN ?_ _ | refine blk_drew ?_ | refine blk_alloc ?_ _)); exact aN.out) bj.out⟩; have hP : Aside0 (oG.heap[ei]? = some (.cells #[.string cP, .int .i64 bv, .int .i64 cQ, .bool false] 60 (0, 0))) := ⟨sS_.blk Z82 aG.out⟩; have jW : Aside0 (Below w.heap.size w oG) := ⟨sS_.below Z18 bm.out⟩; clear hbS_ sS_; replace HO_103021 := bY; replace fK := ca; replace ae := cZ; replace aN := ex; replace cW := hP; replace HB := jW; clear bY ca cZ ex hP jW))
              refine bodyPost_ret (results_ctt rfl _ _ ag 25 #[.int .i64 5, .int .i64 0, .int .i64 0, .string ⟨#[]⟩, .int .i64 0, .int .i64 0, .string ⟨#[]⟩, .int .i64 0, .int .i64 0, .string ⟨#[]⟩, .int .i64 0, .string ⟨#[]⟩, .int .i64 0, .int .i64 0, .int .i64 0, .int .i64 (wrap64 ((bt a0 1) / 128)), .int .i64 0, .int .i64 0, .int .i64 0, .string ⟨#[]⟩, .string ⟨#[]⟩, .slice lV ce.length lW, .int .i64 0, .string ⟨#[]⟩, .slice kz de.length kA] (0, 0) _ rfl Z2 Try.underlying25 rfl Z14) rfl ?_
              exact ⟨_, _, Z5, Z67, by (with_reducible repeat (first | apply Kd.R_alloc | apply Kd.R_drewN | apply Kd.R_drew)); exact fK.out, Z18⟩
             ·rw [if_neg oF] at H
              have ru : (eM == 0) = false := beq_eq_false_iff_ne.mpr oF
              have rv : (eM != 0) = true := bne_iff_ne.mpr oF
              simp only [Option.some.injEq, Prod.mk.injEq] at H
              obtain ⟨rfl, rfl, rfl, rfl, rfl, rfl, rfl, rfl, rfl, rfl, rfl, rfl, rfl, rfl, rfl, rfl, rfl, rfl, rfl, rfl, rfl, rfl, rfl, rfl, rfl, rfl, rfl⟩ := H
              have hnb77 := aG.out
              have hnc77 := da.out
              have hnb78 := eV.out
              have hnc78 := db.out
              have hcz79 := cells_4 cW.out
              try go_wp2_with (first | ((with_reducible refine gate_dst (N := 37) rfl ?_); refine Pre.build_event 37 25 [(0, Go.Operand.const (Go.Value.int Go.IntKind.i64 5)), (15, Go.Operand.tmp 36)] rfl rfl rfl (rerr_Get.bd37 _ _) ?_) | ((with_reducible refine Pre.gate_load 25 rfl ?_); (try (refine gate_guard Z23 ?_; dsimp only)); refine Pre.load_event rfl rfl rfl Z23 Z9 Try.underlying25 rfl Z14 ?_) | ((with_reducible refine gate_callee (f := 59) rfl ?_); refine goesL_ (some 78) rfl rfl Try.func59 Z14 rfl #[.string (a0.extract (bv : Int).toNat a0.size)] rfl Z4 ?_; (with_reducible refine (ext_Get.calls k1 (a0.extract (bv : Int).toNat a0.size) de ef eM _ tI.out).mono ?_); rintro e tz ⟨rx, rfl, ho0, hb⟩; refine ⟨_, rfl, ?_⟩; have fK := Aside0.mk (Kd.R_lower ho0 (below_size Z18)); replace HO_103021 := Aside0.mk (Kd.R_below Z67 hb); replace ae := Aside0.mk (blk_below (g := ag) Z2 hb); replace aN := Aside0.mk (blk_below (g := aI) Z19 hb); replace cW := Aside0.mk (blk_below (g := ei) (o := .cells #[.string cP, .int .i64 bv, .int .i64 cQ, .bool false] 60 (0, 0)) Z44 hb); replace HB := Aside0.mk (below_step Z18 hb); clear hb ho0))
              have bY := Aside0.mk (Kd.R_drew HO_103021.out)
              have ca := Aside0.mk (Kd.R_drew fK.out)
              have cZ := Aside0.mk (blk_drew ae.out)
              have ex := Aside0.mk (blk_drew aN.out)
              have hP := Aside0.mk (blk_drew cW.out)
              have jW := Aside0.mk (below_drew1 HB.out)
              clear HO_103021
              clear fK
              clear ae
              clear aN
              clear cW
              clear HB
              have HO_103021 := bY
              have fK := ca
              have ae := cZ
              have aN := ex
              have cW := hP
              have HB := jW
              clear bY ca cZ ex hP jW
              refine start_ (n := 9) (S := fun w' => w'.cell? ⟨ei, 0, none⟩ = some (.string cP) ∧ w'.cell? ⟨ei, 1, none⟩ = some (.int .i64 bv) ∧ w'.cell? ⟨ei, 2, none⟩ = some (.int .i64 cQ) ∧ w'.cell? ⟨ei, 3, none⟩ = some (.bool false)) (ds := []) (Sq.b 9 0) Z14 rfl rfl ⟨Sq.bc cW 0, Sq.bc cW 1, Sq.bc cW 2, Sq.bc cW 3⟩ (fun hHeld => ?_); refine with_tabW rerr_Get.tab20 rerr_Get.bits20 (fun HT_ HW_ => ?_)
              generalize tz.drew = tA at HO_103021 fK ae aN cW HB hHeld ⊢
              refine Sq.pur 0 (some 84) (Sq.b 9 1) HT_.out ?_
              refine Sq.pur 1 (some 85) (Sq.b 9 3) HT_.out ?_
              refine Sq.pur 3 (some 87) (Sq.b 9 11) HT_.out ?_
              refine Sq.pur 5 (some 89) (Sq.b 9 43) HT_.out ?_
              refine Sq.tak 2 (some 86) (Sq.b 9 47) HT_.out HW_.out hHeld (v := ?_) (a' := ?_) ?_ ?_ ?_
              rotate_left
              ·rintro w' ⟨s0, s1, s2, s3⟩
               first | (refine Eq.trans (Pre.load_run (ty := 25) rfl Z23 Z81 Try.underlying25 rfl Z14) ?_; with_reducible rfl) | (go_simp; with_reducible rfl)
              rotate_left
              ·simp only [Act.put, Sq.s1, Sq.s2, Sq.s3, i64_w, i32_w]
               rfl
              refine Sq.pur 4 (some 88) (Sq.b 9 63) HT_.out ?_
              refine one_ (i := 6) (N := none) (Sq.b 9 127) rfl rfl (one_of HT_.out Z14) Z29 (fun K hK => ?_)
              refine skip_ (w1 := ?_) Z23 rfl ?_ ?_
              rotate_left
              ·refine Eq.trans (Pre.store_run rfl Z23 Z23 ae.out Z14 Z23 Z23) ?_
               rfl
              refine hK.out _ _ ⟨((cell_far (p := ⟨ag, _, none⟩) aG.out _).trans (((cell_far (p := ⟨ag, _, none⟩) aG.out _).trans (((cell_far (p := ⟨ag, _, none⟩) aG.out _).trans (((cell_far (p := ⟨ag, _, none⟩) aG.out _).trans (((cell_far (p := ⟨ag, _, none⟩) aG.out _).trans (((cell_far (p := ⟨ag, _, none⟩) aG.out _).trans (((cell_far (p := ⟨ag, _, none⟩) aG.out _).trans (((cell_far (p := ⟨ag, _, none⟩) aG.out _).trans (((cell_far (p := ⟨ag, _, none⟩) aG.out _).trans (((cell_far (p := ⟨ag, _, none⟩) aG.out _).trans (((cell_far (p := ⟨ag, _, none⟩) aG.out _).trans (((cell_far (p := ⟨ag, _, none⟩) aG.out _).trans (((cell_far (p := ⟨ag, _, none⟩) aG.out _).trans (((cell_far (p := ⟨ag, _, none⟩) aG.out _).trans (((cell_far (p := ⟨ag, _, none⟩) aG.out _).trans (((cell_far (p := ⟨ag, _, none⟩) aG.out _).trans (((cell_far (p := ⟨ag, _, none⟩) aG.out _).trans (((cell_far (p := ⟨ag, _, none⟩) aG.out _).trans (((cell_far (p := ⟨ag, _, none⟩) aG.out _).trans (((cell_far (p := ⟨ag, _, none⟩) aG.out _).trans (((cell_far (p := ⟨ag, _, none⟩) aG.out _).trans (((cell_far (p := ⟨ag, _, none⟩) aG.out _).trans (((cell_far (p := ⟨ag, _, none⟩) aG.out _).trans (((cell_far (p := ⟨ag, _, none⟩) aG.out _).trans (((cell_far (p := ⟨ag, _, none⟩) aG.out _).trans (hHeld.1)))))))))))))))))))))))))))))))))))))))))))))))))), ((cell_far (p := ⟨ag, _, none⟩) aG.out _).trans (((cell_far (p := ⟨ag, _, none⟩) aG.out _).trans (((cell_far (p := ⟨ag, _, none⟩) aG.out _).trans (((cell_far (p := ⟨ag, _, none⟩) aG.out _).trans (((cell_far (p := ⟨ag, _, none⟩) aG.out _).trans (((cell_far (p := ⟨ag, _, none⟩) aG.out _).trans (((cell_far (p := ⟨ag, _, none⟩) aG.out _).trans (((cell_far (p := ⟨ag, _, none⟩) aG.out _).trans (((cell_far (p := ⟨ag, _, none⟩) aG.out _).trans (((cell_far (p := ⟨ag, _, none⟩) aG.out _).trans (((cell_far (p := ⟨ag, _, none⟩) aG.out _).trans (((cell_far (p := ⟨ag, _, none⟩) aG.out _).trans (((cell_far (p := ⟨ag, _, none⟩) aG.out _).trans (((cell_far (p := ⟨ag, _, none⟩) aG.out _).trans (((cell_far (p := ⟨ag, _, none⟩) aG.out _).trans (((cell_far (p := ⟨ag, _, none⟩) aG.out _).trans (((cell_far (p := ⟨ag, _, none⟩) aG.out _).trans (((cell_far (p := ⟨ag, _, none⟩) aG.out _).trans (((cell_far (p := ⟨ag, _, none⟩) aG.out _).trans (((cell_far (p := ⟨ag, _, none⟩) aG.out _).trans (((cell_far (p := ⟨ag, _, none⟩) aG.out _).trans (((cell_far (p := ⟨ag, _, none⟩) aG.out _).trans (((cell_far (p := ⟨ag, _, none⟩) aG.out _).trans (((cell_far (p := ⟨ag, _, none⟩) aG.out _).trans (((cell_far (p := ⟨ag, _, none⟩) aG.out _).trans (hHeld.2.1)))))))))))))))))))))))))))))))))))))))))))))))))), ((cell_far (p := ⟨ag, _, none⟩) aG.out _).trans (((cell_far (p := ⟨ag, _, none⟩) aG.out _).trans (((cell_far (p := ⟨ag, _, none⟩) aG.out _).trans (((cell_far (p := ⟨ag, _, none⟩) aG.out _).trans (((cell_far (p := ⟨ag, _, none⟩) aG.out _).trans (((cell_far (p := ⟨ag, _, none⟩) aG.out _).trans (((cell_far (p := ⟨ag, _, none⟩) aG.out _).trans (((cell_far (p := ⟨ag, _, none⟩) aG.out _).trans (((cell_far (p := ⟨ag, _, none⟩) aG.out _).trans (((cell_far (p := ⟨ag, _, none⟩) aG.out _).trans (((cell_far (p := ⟨ag, _, none⟩) aG.out _).trans (((cell_far (p := ⟨ag, _, none⟩) aG.out _).trans (((cell_far (p := ⟨ag, _, none⟩) aG.out _).trans (((cell_far (p := ⟨ag, _, none⟩) aG.out _).trans (((cell_far (p := ⟨ag, _, none⟩) aG.out _).trans (((cell_far (p := ⟨ag, _, none⟩) aG.out _).trans (((cell_far (p := ⟨ag, _, none⟩) aG.out _).trans (((cell_far (p := ⟨ag, _, none⟩) aG.out _).trans (((cell_far (p := ⟨ag, _, none⟩) aG.out _).trans (((cell_far (p := ⟨ag, _, none⟩) aG.out _).trans (((cell_far (p := ⟨ag, _, none⟩) aG.out _).trans (((cell_far (p := ⟨ag, _, none⟩) aG.out _).trans (((cell_far (p := ⟨ag, _, none⟩) aG.out _).trans (((cell_far (p := ⟨ag, _, none⟩) aG.out _).trans (((cell_far (p := ⟨ag, _, none⟩) aG.out _).trans (hHeld.2.2.1)))))))))))))))))))))))))))))))))))))))))))))))))), ((cell_far (p := ⟨ag, _, none⟩) aG.out _).trans (((cell_far (p := ⟨ag, _, none⟩) aG.out _).trans (((cell_far (p := ⟨ag, _, none⟩) aG.out _).trans (((cell_far (p := ⟨ag, _, none⟩) aG.out _).trans (((cell_far (p := ⟨ag, _, none⟩) aG.out _).trans (((cell_far (p := ⟨ag, _, none⟩) aG.out _).trans (((cell_far (p := ⟨ag, _, none⟩) aG.out _).trans (((cell_far (p := ⟨ag, _, none⟩) aG.out _).trans (((cell_far (p := ⟨ag, _, none⟩) aG.out _).trans (((cell_far (p := ⟨ag, _, none⟩) aG.out _).trans (((cell_far (p := ⟨ag, _, none⟩) aG.out _).trans (((cell_far (p := ⟨ag, _, none⟩) aG.out _).trans (((cell_far (p := ⟨ag, _, none⟩) aG.out _).trans (((cell_far (p := ⟨ag, _, none⟩) aG.out _).trans (((cell_far (p := ⟨ag, _, none⟩) aG.out _).trans (((cell_far (p := ⟨ag, _, none⟩) aG.out _).trans (((cell_far (p := ⟨ag, _, none⟩) aG.out _).trans (((cell_far (p := ⟨ag, _, none⟩) aG.out _).trans (((cell_far (p := ⟨ag, _, none⟩) aG.out _).trans (((cell_far (p := ⟨ag, _, none⟩) aG.out _).trans (((cell_far (p := ⟨ag, _, none⟩) aG.out _).trans (((cell_far (p := ⟨ag, _, none⟩) aG.out _).trans (((cell_far (p := ⟨ag, _, none⟩) aG.out _).trans (((cell_far (p := ⟨ag, _, none⟩) aG.out _).trans (((cell_far (p := ⟨ag, _, none⟩) aG.out _).trans (hHeld.2.2.2))))))))))))))))))))))))))))))))))))))))))))))))))⟩ (fun hHeld => ?_)
              clear hK K
              refine Sq.pur 7 (some 3) (Sq.b 9 255) HT_.out ?_
              refine Sq.pur 8 (some 4) (Sq.b 9 511) HT_.out ?_
              refine done_ (done_of HT_.out Z14) ?_
              refine Pre.abs_end (g := ag) (t := 25) (cs := #[.int .i64 0, .int .i64 0, .int .i64 0, .string ⟨#[]⟩, .int .i64 0, .int .i64 0, .string ⟨#[]⟩, .int .i64 0, .int .i64 0, .string ⟨#[]⟩, .int .i64 0, .string ⟨#[]⟩, .int .i64 0, .int .i64 0, .int .i64 0, .int .i64 0, .int .i64 0, .int .i64 0, .int .i64 0, .string ⟨#[]⟩, .string ⟨#[]⟩, .slice none 0 0, .int .i64 0, .string ⟨#[]⟩, .slice none 0 0]) (cells := #[.int .i64 0, .int .i64 0, .int .i64 0, .string ⟨#[]⟩, .int .i64 0, .int .i64 0, .string ⟨#[]⟩, .int .i64 0, .int .i64 0, .string ⟨#[]⟩, .int .i64 0, .string ⟨#[]⟩, .int .i64 0, .int .i64 0, .int .i64 0, .int .i64 0, .int .i64 0, .int .i64 0, .int .i64 0, .string ⟨#[]⟩, .string ⟨#[]⟩, .slice none 0 0, .int .i64 0, .string ⟨#[]⟩, .slice none 0 0]) Z2 Z23 ?_
              intro jH hbS_ sS_
              replace hbS_ := Aside0.mk hbS_
              replace sS_ : Aside0 (Pre.Sets ag tA jH) := ⟨⟨sS_.os, sS_.tape, sS_.output, sS_.size, sS_.block⟩⟩
              have bY : Aside0 (Kd.R k46 46 jH w.heap.size (fun _ => True) u103021 ce) := ⟨Kd.R_mono (Pre.R_sets sS_.out (Kd.R_types HO_103021.out ae.out Z29) (fun _ hk => hk.2)) (fun _ hk => trivial)⟩
              have ca : Aside0 (Kd.R k48 48 jH w.heap.size (fun _ => True) rx de) := ⟨Kd.R_mono (Pre.R_sets sS_.out (Kd.R_types fK.out ae.out Z29) (fun _ hk => hk.2)) (fun _ hk => trivial)⟩
              have cZ : Aside0 (jH.heap[ag]? = some (.cells #[.int .i64 0, .int .i64 0, .int .i64 0, .string ⟨#[]⟩, .int .i64 0, .int .i64 0, .string ⟨#[]⟩, .int .i64 0, .int .i64 0, .string ⟨#[]⟩, .int .i64 0, .string ⟨#[]⟩, .int .i64 0, .int .i64 0, .int .i64 0, .int .i64 0, .int .i64 0, .int .i64 0, .int .i64 0, .string ⟨#[]⟩, .string ⟨#[]⟩, .slice none 0 0, .int .i64 0, .string ⟨#[]⟩, .slice none 0 0] 25 (0, 0))) := ⟨hbS_.out⟩
              have ex : Aside0 (jH.heap[aI]? = some (.cells #[.int .i64 5, .int .i64 0, .int .i64 0, .string ⟨#[]⟩, .int .i64 0, .int .i64 0, .string ⟨#[]⟩, .int .i64 0, .int .i64 0, .string ⟨#[]⟩, .int .i64 0, .string ⟨#[]⟩, .int .i64 0, .int .i64 0, .int .i64 0, .int .i64 (wrap64 ((bt a0 1) / 128)), .int .i64 0, .int .i64 0, .int .i64 0, .string ⟨#[]⟩, .string ⟨#[]⟩, u103021, .int .i64 0, .string ⟨#[]⟩, .slice none 0 0] 25 (0, 0))) := ⟨sS_.out.blk Z19 bj.out⟩
              have hP : Aside0 (jH.heap[ei]? = some (.cells #[.string cP, .int .i64 bv, .int .i64 cQ, .bool false] 60 (0, 0))) := ⟨sS_.out.blk Z44 aG.out⟩
              have jW : Aside0 (Below w.heap.size w jH) := ⟨sS_.out.below Z18 bm.out⟩
              clear hbS_ sS_
              (try clear HO_103021)
              (try clear fK)
              (try clear ae)
              (try clear aN)
              (try clear cW)
              (try clear HB)
              have HO_103021 := bY
              have fK := ca
              have ae := cZ
              have aN := ex
              have cW := hP
              have HB := jW
              clear bY ca cZ ex hP jW
              try go_wp2_with (first | ((with_reducible refine gate_dst (N := 37) rfl ?_); refine Pre.build_event 37 25 [(0, Go.Operand.const (Go.Value.int Go.IntKind.i64 5)), (15, Go.Operand.tmp 36)] rfl rfl rfl (rerr_Get.bd37 _ _) ?_) | ((with_reducible refine Pre.gate_load 25 rfl ?_); (try (refine gate_guard Z23 ?_; dsimp only)); refine Pre.load_event rfl rfl rfl Z23 Z9 Try.underlying25 rfl Z14 ?_))
              refine bodyPost_ret (results_ctt rfl _ _ ag 25 #[.int .i64 0, .int .i64 0, .int .i64 0, .string ⟨#[]⟩, .int .i64 0, .int .i64 0, .string ⟨#[]⟩, .int .i64 0, .int .i64 0, .string ⟨#[]⟩, .int .i64 0, .string ⟨#[]⟩, .int .i64 0, .int .i64 0, .int .i64 0, .int .i64 0, .int .i64 0, .int .i64 0, .int .i64 0, .string ⟨#[]⟩, .string ⟨#[]⟩, .slice none 0 0, .int .i64 0, .string ⟨#[]⟩, .slice none 0 0] (0, 0) _ rfl Z2 Try.underlying25 rfl Z14) rfl ?_
              exact ⟨_, _, Z5, Z13, Z24, Z18⟩
            ·rw [if_neg rs] at H
             exact absurd H Z71
           ·rw [if_neg rr] at H
            exact absurd H Z71
     ·rw [if_neg ee] at H
      exact absurd H Z71
    ·rw [if_neg ey] at H
     have eW : ((Go.bits .or .u8 (Go.bits .and .u8 (bt a0 1) 127) (bt a0 2)) == 0) = false := beq_eq_false_iff_ne.mpr ey
     have gK : ((Go.bits .or .u8 (Go.bits .and .u8 (bt a0 1) 127) (bt a0 2)) != 0) = true := bne_iff_ne.mpr ey
     simp only [Option.some.injEq, Prod.mk.injEq] at H
     obtain ⟨rfl, rfl, rfl, rfl, rfl, rfl, rfl, rfl, rfl, rfl, rfl, rfl, rfl, rfl, rfl, rfl, rfl, rfl, rfl, rfl, rfl, rfl, rfl, rfl, rfl, rfl, rfl⟩ := H
     go_enter Try.func30, Try.ntmps30
     try go_wp2_with (first | ((with_reducible refine gate_dst (N := 37) rfl ?_); refine Pre.build_event 37 25 [(0, Go.Operand.const (Go.Value.int Go.IntKind.i64 5)), (15, Go.Operand.tmp 36)] rfl rfl rfl (rerr_Get.bd37 _ _) ?_) | ((with_reducible refine Pre.gate_load 25 rfl ?_); (try (refine gate_guard Z23 ?_; dsimp only)); refine Pre.load_event rfl rfl rfl Z23 Z9 Try.underlying25 rfl Z14 ?_) | ((with_reducible refine gate_dst (N := 2) rfl ?_); refine Sq.box 2 #[.int .i64 0, .int .i64 0, .int .i64 0, .string ⟨#[]⟩, .int .i64 0, .int .i64 0, .string ⟨#[]⟩, .int .i64 0, .int .i64 0, .string ⟨#[]⟩, .int .i64 0, .string ⟨#[]⟩, .int .i64 0, .int .i64 0, .int .i64 0, .int .i64 0, .int .i64 0, .int .i64 0, .int .i64 0, .string ⟨#[]⟩, .string ⟨#[]⟩, .slice none 0 0, .int .i64 0, .string ⟨#[]⟩, .slice none 0 0] 25 ?_; intro ag hg sM hbox hb; have ae := Aside0.mk (hbox); have cp := Aside0.mk (Sq.ge hg Z1); have bm := Aside0.mk (Sq.ge hg Z1); replace HB := Aside0.mk (below_step Z1 hb); clear hb hbox hg))
     have bY := Aside0.mk (blk_drew ae.out)
     have ca := Aside0.mk (below_drew1 HB.out)
     clear ae
     clear HB
     have ae := bY
     have HB := ca
     clear bY ca
     have p7 : 0 ≤ (1 : Int) := Z40
     have q7 : 1 < a0.size := (by have : (1 : Int) < (a0.size : Int) := of_decide_eq_true Z6; omega)
     have hx7 : ∀ h : 1 < a0.size, ((a0[1]'h).toNat : Int) = bt a0 1 := bt_at a0 1
     clear p7
     have qi7 : (1 < (a0.size : Int)) = True := eq_true (of_decide_eq_true Z6)
     replace q7 := eq_true q7
     have p9 : 0 ≤ (2 : Int) := Z40
     have q9 : 2 < a0.size := (by have : (2 : Int) < (a0.size : Int) := of_decide_eq_true Z6; omega)
     have hx9 : ∀ h : 2 < a0.size, ((a0[2]'h).toNat : Int) = bt a0 2 := bt_at a0 2
     clear p9
     have qi9 : (2 < (a0.size : Int)) = True := eq_true (of_decide_eq_true Z6)
     replace q9 := eq_true q9
     refine start_ (n := 8) (S := fun w' => True) (ds := []) (Sq.b 8 0) Z14 rfl rfl trivial (fun hHeld => ?_); refine with_tabW rerr_Get.tab3 rerr_Get.bits3 (fun HT_ HW_ => ?_)
     generalize sM.drew = w109 at ae HB hHeld ⊢
     refine Sq.pur 0 (some 20) (Sq.b 8 1) HT_.out ?_
     refine Sq.pur 3 (some 23) (Sq.b 8 9) HT_.out ?_
     refine Sq.tak 1 (some 21) (Sq.b 8 11) HT_.out HW_.out hHeld (v := ?_) (a' := ?_) ?_ ?_ ?_
     rotate_left
     ·rintro w' s0
      first | (refine Eq.trans (Pre.load_run (ty := 25) rfl Z23 Z81 Try.underlying25 rfl Z14) ?_; with_reducible rfl) | (go_simp; with_reducible rfl)
     rotate_left
     ·simp only [Act.put, Sq.s1, Sq.s2, Sq.s3, i64_w, i32_w]
      rfl
     refine Sq.pur 2 (some 22) (Sq.b 8 15) HT_.out ?_
     refine Sq.tak 4 (some 24) (Sq.b 8 31) HT_.out HW_.out hHeld (v := ?_) (a' := ?_) ?_ ?_ ?_
     rotate_left
     ·rintro w' s0
      first | (refine Eq.trans (Pre.load_run (ty := 25) rfl Z23 Z81 Try.underlying25 rfl Z14) ?_; with_reducible rfl) | (go_simp; with_reducible rfl)
     rotate_left
     ·simp only [Act.put, Sq.s1, Sq.s2, Sq.s3, i64_w, i32_w]
      rfl
     refine Sq.pur 5 (some 25) (Sq.b 8 63) HT_.out ?_
     refine Sq.pur 6 (some 26) (Sq.b 8 127) HT_.out ?_
     refine Sq.pur 7 (some 19) (Sq.b 8 255) HT_.out ?_
     refine done_ (done_of HT_.out Z14) ?_
     have hcz110 := cells_25 ae.out
     try go_wp2_with (first | ((with_reducible refine gate_dst (N := 37) rfl ?_); refine Pre.build_event 37 25 [(0, Go.Operand.const (Go.Value.int Go.IntKind.i64 5)), (15, Go.Operand.tmp 36)] rfl rfl rfl (rerr_Get.bd37 _ _) ?_) | ((with_reducible refine Pre.gate_load 25 rfl ?_); (try (refine gate_guard Z23 ?_; dsimp only)); refine Pre.load_event rfl rfl rfl Z23 Z9 Try.underlying25 rfl Z14 ?_) | ((with_reducible refine Pre.gate_store 25 rfl ?_); refine Pre.store_abs (cur := #[.int .i64 0, .int .i64 0, .int .i64 0, .string ⟨#[]⟩, .int .i64 0, .int .i64 0, .string ⟨#[]⟩, .int .i64 0, .int .i64 0, .string ⟨#[]⟩, .int .i64 0, .string ⟨#[]⟩, .int .i64 0, .int .i64 0, .int .i64 0, .int .i64 0, .int .i64 0, .int .i64 0, .int .i64 0, .string ⟨#[]⟩, .string ⟨#[]⟩, .slice none 0 0, .int .i64 0, .string ⟨#[]⟩, .slice none 0 0]) (e := 25) rfl rfl rfl Z23 Z23 Z2 Z14 Z23 Z23 ?_; intro ry hbS_ sS_; have bY : Aside0 (ry.heap[ag]? = some (.cells #[.int .i64 0, .int .i64 0, .int .i64 0, .string ⟨#[]⟩, .int .i64 0, .int .i64 0, .string ⟨#[]⟩, .int .i64 0, .int .i64 0, .string ⟨#[]⟩, .int .i64 0, .string ⟨#[]⟩, .int .i64 0, .int .i64 0, .int .i64 0, .int .i64 0, .int .i64 0, .int .i64 0, .int .i64 0, .string ⟨#[]⟩, .string ⟨#[]⟩, .slice none 0 0, .int .i64 0, .string ⟨#[]⟩, .slice none 0 0] 25 (0, 0))) := ⟨hbS_⟩; have ca : Aside0 (Below w.heap.size w ry) := ⟨sS_.below Z0 bm.out⟩; clear hbS_ sS_; replace ae := bY; replace HB := ca; clear bY ca))
     refine bodyPost_ret (results_ctt rfl _ _ ag 25 #[.int .i64 0, .int .i64 0, .int .i64 0, .string ⟨#[]⟩, .int .i64 0, .int .i64 0, .string ⟨#[]⟩, .int .i64 0, .int .i64 0, .string ⟨#[]⟩, .int .i64 0, .string ⟨#[]⟩, .int .i64 0, .int .i64 0, .int .i64 0, .int .i64 0, .int .i64 0, .int .i64 0, .int .i64 0, .string ⟨#[]⟩, .string ⟨#[]⟩, .slice none 0 0, .int .i64 0, .string ⟨#[]⟩, .slice none 0 0] (0, 0) _ rfl Z2 Try.underlying25 rfl Z14) rfl ?_
     exact ⟨_, _, Z5, Z13, Z24, Z0⟩
   ·rw [if_neg c8] at H
    exact absurd H Z71
  ·rw [if_neg c6] at H
   exact absurd H Z71

end Go.Proofs.Ytccjakjjaemmkaa.PAB
