-- Written by mp.py, a program of this work (wip/tools), out of the translation; Lean checks it.
import Derived.Test.YtccjakjjaemmkaaPAPxZ
import Derived.Test.YtccjakjjaemmkaaPAPxcursor
import Derived.Test.YtccjakjjaemmkaaPAPxext
import Derived.Test.YtccjakjjaemmkaaAbs
import Derived.Test.YtccjakjjaemmkaaLoad
namespace Go.Proofs.Ytccjakjjaemmkaa.PAP
open Go.RowKit Go.Proofs.YtccjakjjaemmkaaW.PrintWords Go.Proofs.YtccjakjjaemmkaaW.PrintLast Go.Proofs.YtccjakjjaemmkaaW.PrintMore
attribute [local go_sem] max2_int min2_int max_two min_two max_three min_three max_four min_four   -- for this text's walks alone
set_option linter.unusedVariables false
set_option linter.unusedSimpArgs false

/-! ### rerr_Get: function 30 -/
def rerr_Get.l0 : Nat → ByteArray → Int → Int → Int → Int → Int → ByteArray → Int → Int → ByteArray → Int → Int → ByteArray → Int → ByteArray → Int → Int → Int → Int → Int → Int → Int → ByteArray → ByteArray → List (S46) → Int → ByteArray → ByteArray → Int → Int → Bool → Option (Int × Int × Int × ByteArray × Int × Int × ByteArray × Int × Int × ByteArray × Int × ByteArray × Int × Int × Int × Int × Int × Int × Int × ByteArray × ByteArray × (List (S46)) × Int × ByteArray × (List (S48)) × Int × Int)
 | 0, _, _, _, _, _, _, _, _, _, _, _, _, _, _, _, _, _, _, _, _, _, _, _, _, _, _, _, _, _, _, _ => none
 | k + 1, x0, uk, ul, dx, dy, dz, dA, dB, dC, dD, dE, dF, dG, dH, di, dj, dk, dl, dm, dn, dp, dq, dr, dt, cV, du, dv, nT, ib, nU, lH => if ul < uk then ((cursor_Text.f nT ib nU lH 4).bind fun kK => ((cursor_Num.f kK.2.1 kK.2.2.1 kK.2.2.2.1 kK.2.2.2.2 4).bind fun gp => (if cV.length < 5864062014805 then (rerr_Get.l0 k x0 uk (wrap64 (ul + 1)) dx dy dz dA dB dC dD dE dF dG dH di dj dk dl dm dn dp dq dr dt (cV ++ [(⟨kK.1, gp.1⟩ : S46)]) du dv gp.2.1 gp.2.2.1 gp.2.2.2.1 gp.2.2.2.2) else (none)))) else (if lH = true then (some (0, 0, 0, (⟨#[]⟩ : ByteArray), 0, 0, (⟨#[]⟩ : ByteArray), 0, 0, (⟨#[]⟩ : ByteArray), 0, (⟨#[]⟩ : ByteArray), 0, 0, 0, 0, 0, 0, 0, (⟨#[]⟩ : ByteArray), (⟨#[]⟩ : ByteArray), ([] : List (S46)), 0, (⟨#[]⟩ : ByteArray), ([] : List (S48)), (x0.size : Int), 2)) else (if 0 ≤ ib then (if ib ≤ (x0.size : Int) then ((ext_Get.f k (x0.extract (ib : Int).toNat x0.size)).bind fun ic => (if ic.2.2 = 0 then (some (dx, dy, dz, dA, dB, dC, dD, dE, dF, dG, dH, di, dj, dk, dl, dm, dn, dp, dq, dr, dt, cV, du, dv, ic.1, 0, 0)) else (some (0, 0, 0, (⟨#[]⟩ : ByteArray), 0, 0, (⟨#[]⟩ : ByteArray), 0, 0, (⟨#[]⟩ : ByteArray), 0, (⟨#[]⟩ : ByteArray), 0, 0, 0, 0, 0, 0, 0, (⟨#[]⟩ : ByteArray), (⟨#[]⟩ : ByteArray), ([] : List (S46)), 0, (⟨#[]⟩ : ByteArray), ([] : List (S48)), wrap64 (ib + ic.2.1), ic.2.2)))) else (none)) else (none)))
def rerr_Get.f (k : Nat) (a0 : ByteArray) : Option (Int × Int × Int × ByteArray × Int × Int × ByteArray × Int × Int × ByteArray × Int × ByteArray × Int × Int × Int × Int × Int × Int × Int × ByteArray × ByteArray × (List (S46)) × Int × ByteArray × (List (S48)) × Int × Int) := if (a0.size : Int) < 4 then (some (0, 0, 0, (⟨#[]⟩ : ByteArray), 0, 0, (⟨#[]⟩ : ByteArray), 0, 0, (⟨#[]⟩ : ByteArray), 0, (⟨#[]⟩ : ByteArray), 0, 0, 0, 0, 0, 0, 0, (⟨#[]⟩ : ByteArray), (⟨#[]⟩ : ByteArray), ([] : List (S46)), 0, (⟨#[]⟩ : ByteArray), ([] : List (S48)), (a0.size : Int), 2)) else (if 1 < (a0.size : Int) then (if 2 < (a0.size : Int) then (if (Go.bits .or .u8 (Go.bits .and .u8 (bt a0 1) 127) (bt a0 2)) = 0 then (if 3 < (a0.size : Int) then (if (bt a0 3) = 0 then (some (0, 0, 0, (⟨#[]⟩ : ByteArray), 0, 0, (⟨#[]⟩ : ByteArray), 0, 0, (⟨#[]⟩ : ByteArray), 0, (⟨#[]⟩ : ByteArray), 0, 0, 0, 0, 0, 0, 0, (⟨#[]⟩ : ByteArray), (⟨#[]⟩ : ByteArray), ([] : List (S46)), 0, (⟨#[]⟩ : ByteArray), ([] : List (S48)), 3, 8)) else ((cursor_New.f a0).bind fun bv => ((cursor_Text.f bv.1 bv.2.1 bv.2.2.1 bv.2.2.2 4).bind fun bu => (rerr_Get.l0 k a0 (wrap64 (bt a0 3)) 0 5 0 0 (⟨#[]⟩ : ByteArray) 0 0 (⟨#[]⟩ : ByteArray) 0 0 (⟨#[]⟩ : ByteArray) 0 (⟨#[]⟩ : ByteArray) 0 0 0 (wrap64 ((bt a0 1) / 128)) 0 0 0 (⟨#[]⟩ : ByteArray) (⟨#[]⟩ : ByteArray) ([] : List (S46)) 0 (⟨#[]⟩ : ByteArray) bu.2.1 bu.2.2.1 bu.2.2.2.1 bu.2.2.2.2)))) else (none)) else (some (0, 0, 0, (⟨#[]⟩ : ByteArray), 0, 0, (⟨#[]⟩ : ByteArray), 0, 0, (⟨#[]⟩ : ByteArray), 0, (⟨#[]⟩ : ByteArray), 0, 0, 0, 0, 0, 0, 0, (⟨#[]⟩ : ByteArray), (⟨#[]⟩ : ByteArray), ([] : List (S46)), 0, (⟨#[]⟩ : ByteArray), ([] : List (S48)), 1, 5))) else (none)) else (none))
theorem rerr_Get.mono_l : ∀ k, (∀ y0 y1 y2 y3 y4 y5 y6 y7 y8 y9 fG fH fI fJ fK fL fM fN fO fP fQ fR fS fT fU fV ik iW kW mU mV, LeO (rerr_Get.l0 k y0 y1 y2 y3 y4 y5 y6 y7 y8 y9 fG fH fI fJ fK fL fM fN fO fP fQ fR fS fT fU fV ik iW kW mU mV) (rerr_Get.l0 (k + 1) y0 y1 y2 y3 y4 y5 y6 y7 y8 y9 fG fH fI fJ fK fL fM fN fO fP fQ fR fS fT fU fV ik iW kW mU mV))
 | 0 => fun _ _ _ _ _ _ _ _ _ _ _ _ _ _ _ _ _ _ _ _ _ _ _ _ _ _ _ _ _ _ _ r h => by simp [rerr_Get.l0] at h
 | k + 1 => by
  have ih0 := rerr_Get.mono_l k
  ·intro y0 y1 y2 y3 y4 y5 y6 y7 y8 y9 fG fH fI fJ fK fL fM fN fO fP fQ fR fS fT fU fV ik iW kW mU mV
   unfold rerr_Get.l0
   repeat' first
   | (with_reducible exact ih0 ..)
   | (with_reducible exact ext_Get.mono _ _)
   | (with_reducible exact LeO.refl _)
   | (with_reducible exact LeO.none _)
   | (with_reducible refine LeO.ite ?_ ?_)
   | (with_reducible refine LeO.bind ?_ (fun _ => ?_))
   | exact ih0 ..
   | exact ext_Get.mono _ _
   | exact LeO.none _
   | refine LeO.ite ?_ ?_
   | refine LeO.bind ?_ (fun _ => ?_)
theorem rerr_Get.mono : ∀ a0 k, LeO (rerr_Get.f k a0) (rerr_Get.f (k + 1) a0) := by
 intro a0 k
 have ih0 := rerr_Get.mono_l k
 unfold rerr_Get.f
 repeat' first
   | (with_reducible exact ih0 ..)
   | (with_reducible exact ext_Get.mono _ _)
   | (with_reducible exact LeO.refl _)
   | (with_reducible exact LeO.none _)
   | (with_reducible refine LeO.ite ?_ ?_)
   | (with_reducible refine LeO.bind ?_ (fun _ => ?_))
   | exact ih0 ..
   | exact ext_Get.mono _ _
   | exact LeO.none _
   | refine LeO.ite ?_ ?_
   | refine LeO.bind ?_ (fun _ => ?_)
def rerr_Get.T3 : Bool × List (List Nat × List Nat) := (true, [([], []), ([0], [0]), ([1], [1]), ([], []), ([3], [3]), ([2, 4], [2, 4]), ([5], [5]), ([6], [6])])
def rerr_Get.B3 : List Nat := [0, 1, 3, 0, 8, 31, 63, 127]
theorem rerr_Get.tab3 : rtab .any (opsOf Try.f30 3) = rerr_Get.T3 := by kernel_rfl
theorem rerr_Get.bits3 : waitsOk rerr_Get.T3.2 rerr_Get.B3 = true := by kernel_rfl
def rerr_Get.T20 : Bool × List (List Nat × List Nat) := (true, [([], []), ([], []), ([1], [1]), ([], []), ([2, 3], [2, 3]), ([], []), ([0, 0], [0]), ([4, 6, 0, 1, 2, 3, 4, 6], [4]), ([5, 7, 0, 1, 2, 3, 4, 5, 6, 7], [5])])
def rerr_Get.B20 : List Nat := [0, 0, 2, 0, 14, 0, 1, 95, 255]
theorem rerr_Get.tab20 : rtab .any (opsOf Try.f30 20) = rerr_Get.T20 := by kernel_rfl
theorem rerr_Get.bits20 : waitsOk rerr_Get.T20.2 rerr_Get.B20 = true := by kernel_rfl
set_option maxRecDepth 100000 in
theorem rerr_Get.bd37 (v0 : Int) (ig : Int) : Try.prog.built 25 [(0, .int .i64 v0), (15, .int .i64 ig)] = some #[.int .i64 v0, .int .i64 0, .int .i64 0, .string ⟨#[]⟩, .int .i64 0, .int .i64 0, .string ⟨#[]⟩, .int .i64 0, .int .i64 0, .string ⟨#[]⟩, .int .i64 0, .string ⟨#[]⟩, .int .i64 0, .int .i64 0, .int .i64 0, .int .i64 ig, .int .i64 0, .int .i64 0, .int .i64 0, .string ⟨#[]⟩, .string ⟨#[]⟩, .slice none 0 0, .int .i64 0, .string ⟨#[]⟩, .slice none 0 0] := by kernel_rfl
set_option maxHeartbeats 8000000 in
set_option maxRecDepth 100000 in
theorem rerr_Get.calls (k : Nat) (a0 : ByteArray) (r1 : Int) (r2 : Int) (r3 : Int) (r4 : ByteArray) (r5 : Int) (r6 : Int) (r7 : ByteArray) (r8 : Int) (r9 : Int) (r10 : ByteArray) (r11 : Int) (r12 : ByteArray) (r13 : Int) (r14 : Int) (r15 : Int) (r16 : Int) (r17 : Int) (r18 : Int) (r19 : Int) (r20 : ByteArray) (r21 : ByteArray) (r22 : List (S46)) (r23 : Int) (r24 : ByteArray) (r25 : List (S48)) (r26 : Int) (r27 : Int) (w : World) (h : rerr_Get.f k a0 = some (r1, r2, r3, r4, r5, r6, r7, r8, r9, r10, r11, r12, r13, r14, r15, r16, r17, r18, r19, r20, r21, r22, r23, r24, r25, r26, r27)) :
  Calls Try.prog 30 #[.string a0] w fun e w' => ∃ v21_ v24_ : Value, e = .returned (.tuple #[.agg #[.int .i64 r1, .int .i64 r2, .int .i64 r3, .string r4, .int .i64 r5, .int .i64 r6, .string r7, .int .i64 r8, .int .i64 r9, .string r10, .int .i64 r11, .string r12, .int .i64 r13, .int .i64 r14, .int .i64 r15, .int .i64 r16, .int .i64 r17, .int .i64 r18, .int .i64 r19, .string r20, .string r21, v21_, .int .i64 r23, .string r24, v24_], .int .i64 r26, .int .i64 r27]) ∧ Kd.R k46 46 w' w.heap.size (fun _ => True) v21_ r22 ∧ Kd.R k48 48 w' w.heap.size (fun _ => True) v24_ r25 ∧ Below w.heap.size w w' := by
 have fn := Try.underlying25
 have ju := Try.underlying60
 have nB := Try.underlying46
 have HB := Aside0.mk (Below.refl w.heap.size w)
 have H : (if (a0.size : Int) < 4 then (some (0, 0, 0, (⟨#[]⟩ : ByteArray), 0, 0, (⟨#[]⟩ : ByteArray), 0, 0, (⟨#[]⟩ : ByteArray), 0, (⟨#[]⟩ : ByteArray), 0, 0, 0, 0, 0, 0, 0, (⟨#[]⟩ : ByteArray), (⟨#[]⟩ : ByteArray), ([] : List (S46)), 0, (⟨#[]⟩ : ByteArray), ([] : List (S48)), (a0.size : Int), 2)) else (if 1 < (a0.size : Int) then (if 2 < (a0.size : Int) then (if (Go.bits .or .u8 (Go.bits .and .u8 (bt a0 1) 127) (bt a0 2)) = 0 then (if 3 < (a0.size : Int) then (if (bt a0 3) = 0 then (some (0, 0, 0, (⟨#[]⟩ : ByteArray), 0, 0, (⟨#[]⟩ : ByteArray), 0, 0, (⟨#[]⟩ : ByteArray), 0, (⟨#[]⟩ : ByteArray), 0, 0, 0, 0, 0, 0, 0, (⟨#[]⟩ : ByteArray), (⟨#[]⟩ : ByteArray), ([] : List (S46)), 0, (⟨#[]⟩ : ByteArray), ([] : List (S48)), 3, 8)) else ((cursor_New.f a0).bind fun bv => ((cursor_Text.f bv.1 bv.2.1 bv.2.2.1 bv.2.2.2 4).bind fun bu => (rerr_Get.l0 k a0 (wrap64 (bt a0 3)) 0 5 0 0 (⟨#[]⟩ : ByteArray) 0 0 (⟨#[]⟩ : ByteArray) 0 0 (⟨#[]⟩ : ByteArray) 0 (⟨#[]⟩ : ByteArray) 0 0 0 (wrap64 ((bt a0 1) / 128)) 0 0 0 (⟨#[]⟩ : ByteArray) (⟨#[]⟩ : ByteArray) ([] : List (S46)) 0 (⟨#[]⟩ : ByteArray) bu.2.1 bu.2.2.1 bu.2.2.2.1 bu.2.2.2.2)))) else (none)) else (some (0, 0, 0, (⟨#[]⟩ : ByteArray), 0, 0, (⟨#[]⟩ : ByteArray), 0, 0, (⟨#[]⟩ : ByteArray), 0, (⟨#[]⟩ : ByteArray), 0, 0, 0, 0, 0, 0, 0, (⟨#[]⟩ : ByteArray), (⟨#[]⟩ : ByteArray), ([] : List (S46)), 0, (⟨#[]⟩ : ByteArray), ([] : List (S48)), 1, 5))) else (none)) else (none))) = some (r1, r2, r3, r4, r5, r6, r7, r8, r9, r10, r11, r12, r13, r14, r15, r16, r17, r18, r19, r20, r21, r22, r23, r24, r25, r26, r27) := h
 clear h
 by_cases c2 : (a0.size : Int) < 4
 ·rw [if_pos c2] at H
  have eE : decide ((a0.size : Int) < 4) = true := decide_eq_true c2
  have fo : decide (a0.size < 4) = true := decide_eq_true Z34
  clear c2
  simp only [Option.some.injEq, Prod.mk.injEq] at H
  obtain ⟨rfl, rfl, rfl, rfl, rfl, rfl, rfl, rfl, rfl, rfl, rfl, rfl, rfl, rfl, rfl, rfl, rfl, rfl, rfl, rfl, rfl, rfl, rfl, rfl, rfl, rfl, rfl⟩ := H
  go_enter Try.func30, Try.ntmps30
  go_wp2_with (first | ((with_reducible refine gate_dst (N := 37) rfl ?_); refine Pre.build_event 37 25 [(0, Go.Operand.const (Go.Value.int Go.IntKind.i64 5)), (15, Go.Operand.tmp 36)] rfl rfl rfl (rerr_Get.bd37 _ _) ?_) | ((with_reducible refine Pre.gate_load 25 rfl ?_); (try (refine gate_guard Z22 ?_; dsimp only)); refine Pre.load_event rfl rfl rfl Z22 Z11 Try.underlying25 rfl Z14 ?_) | ((with_reducible refine gate_dst (N := 2) rfl ?_); refine Sq.box 2 #[.int .i64 0, .int .i64 0, .int .i64 0, .string ⟨#[]⟩, .int .i64 0, .int .i64 0, .string ⟨#[]⟩, .int .i64 0, .int .i64 0, .string ⟨#[]⟩, .int .i64 0, .string ⟨#[]⟩, .int .i64 0, .int .i64 0, .int .i64 0, .int .i64 0, .int .i64 0, .int .i64 0, .int .i64 0, .string ⟨#[]⟩, .string ⟨#[]⟩, .slice none 0 0, .int .i64 0, .string ⟨#[]⟩, .slice none 0 0] 25 ?_; intro ab hg w3 hbox hb; have aa := Aside0.mk (hbox); have bR := Aside0.mk (Sq.ge hg Z1); have bf := Aside0.mk (Sq.ge hg Z1); replace HB := Aside0.mk (below_step Z1 hb); clear hb hbox hg; have jL := cells_25 aa.out) | ((with_reducible refine Pre.gate_store 25 rfl ?_); refine Pre.store_abs (cur := #[.int .i64 0, .int .i64 0, .int .i64 0, .string ⟨#[]⟩, .int .i64 0, .int .i64 0, .string ⟨#[]⟩, .int .i64 0, .int .i64 0, .string ⟨#[]⟩, .int .i64 0, .string ⟨#[]⟩, .int .i64 0, .int .i64 0, .int .i64 0, .int .i64 0, .int .i64 0, .int .i64 0, .int .i64 0, .string ⟨#[]⟩, .string ⟨#[]⟩, .slice none 0 0, .int .i64 0, .string ⟨#[]⟩, .slice none 0 0]) (e := 25) rfl rfl rfl Z22 Z22 Z2 Z14 Z22 Z22 ?_; intro w5 hbS_ sS_; have bl : Aside0 (w5.heap[ab]? = some (.cells #[.int .i64 0, .int .i64 0, .int .i64 0, .string ⟨#[]⟩, .int .i64 0, .int .i64 0, .string ⟨#[]⟩, .int .i64 0, .int .i64 0, .string ⟨#[]⟩, .int .i64 0, .string ⟨#[]⟩, .int .i64 0, .int .i64 0, .int .i64 0, .int .i64 0, .int .i64 0, .int .i64 0, .int .i64 0, .string ⟨#[]⟩, .string ⟨#[]⟩, .slice none 0 0, .int .i64 0, .string ⟨#[]⟩, .slice none 0 0] 25 (0, 0))) := ⟨hbS_⟩; have bm : Aside0 (Below w.heap.size w w5) := ⟨sS_.below Z0 bf.out⟩; clear hbS_ sS_; replace aa := bl; replace HB := bm; clear bl bm))
  refine bodyPost_ret (results_ctt rfl _ _ ab 25 #[.int .i64 0, .int .i64 0, .int .i64 0, .string ⟨#[]⟩, .int .i64 0, .int .i64 0, .string ⟨#[]⟩, .int .i64 0, .int .i64 0, .string ⟨#[]⟩, .int .i64 0, .string ⟨#[]⟩, .int .i64 0, .int .i64 0, .int .i64 0, .int .i64 0, .int .i64 0, .int .i64 0, .int .i64 0, .string ⟨#[]⟩, .string ⟨#[]⟩, .slice none 0 0, .int .i64 0, .string ⟨#[]⟩, .slice none 0 0] (0, 0) _ rfl Z2 Try.underlying25 rfl Z14) rfl ?_
  exact ⟨_, _, Z5, Z7, Z20, Z0⟩
 ·rw [if_neg c2] at H
  have eE : decide ((a0.size : Int) < 4) = false := decide_eq_false c2
  have fo : decide (a0.size < 4) = false := decide_eq_false Z34
  clear c2
  by_cases c6 : 1 < (a0.size : Int)
  ·rw [if_pos c6] at H
   have ga : decide (1 < (a0.size : Int)) = true := decide_eq_true c6
   have ii : decide (1 < a0.size) = true := decide_eq_true Z34
   clear c6
   by_cases c8 : 2 < (a0.size : Int)
   ·rw [if_pos c8] at H
    have gf : decide (2 < (a0.size : Int)) = true := decide_eq_true c8
    have iU : decide (2 < a0.size) = true := decide_eq_true Z34
    clear c8
    by_cases en : (Go.bits .or .u8 (Go.bits .and .u8 (bt a0 1) 127) (bt a0 2)) = 0
    ·rw [if_pos en] at H
     have eP : ((Go.bits .or .u8 (Go.bits .and .u8 (bt a0 1) 127) (bt a0 2)) == 0) = true := beq_iff_eq.mpr en
     have fv : ((Go.bits .or .u8 (Go.bits .and .u8 (bt a0 1) 127) (bt a0 2)) != 0) = false := bne_eq_false_iff_eq.mpr en
     clear en
     by_cases dK : 3 < (a0.size : Int)
     ·rw [if_pos dK] at H
      have eB : decide (3 < (a0.size : Int)) = true := decide_eq_true dK
      have fp : decide (3 < a0.size) = true := decide_eq_true Z34
      clear dK
      by_cases ew : (bt a0 3) = 0
      ·rw [if_pos ew] at H
       have fd : ((bt a0 3) == 0) = true := beq_iff_eq.mpr ew
       have gT : ((bt a0 3) != 0) = false := bne_eq_false_iff_eq.mpr ew
       clear ew
       simp only [Option.some.injEq, Prod.mk.injEq] at H
       obtain ⟨rfl, rfl, rfl, rfl, rfl, rfl, rfl, rfl, rfl, rfl, rfl, rfl, rfl, rfl, rfl, rfl, rfl, rfl, rfl, rfl, rfl, rfl, rfl, rfl, rfl, rfl, rfl⟩ := H
       go_enter Try.func30, Try.ntmps30
       try go_wp2_with (first | ((with_reducible refine gate_dst (N := 37) rfl ?_); refine Pre.build_event 37 25 [(0, Go.Operand.const (Go.Value.int Go.IntKind.i64 5)), (15, Go.Operand.tmp 36)] rfl rfl rfl (rerr_Get.bd37 _ _) ?_) | ((with_reducible refine Pre.gate_load 25 rfl ?_); (try (refine gate_guard Z22 ?_; dsimp only)); refine Pre.load_event rfl rfl rfl Z22 Z11 Try.underlying25 rfl Z14 ?_) | ((with_reducible refine gate_dst (N := 2) rfl ?_); refine Sq.box 2 #[.int .i64 0, .int .i64 0, .int .i64 0, .string ⟨#[]⟩, .int .i64 0, .int .i64 0, .string ⟨#[]⟩, .int .i64 0, .int .i64 0, .string ⟨#[]⟩, .int .i64 0, .string ⟨#[]⟩, .int .i64 0, .int .i64 0, .int .i64 0, .int .i64 0, .int .i64 0, .int .i64 0, .int .i64 0, .string ⟨#[]⟩, .string ⟨#[]⟩, .slice none 0 0, .int .i64 0, .string ⟨#[]⟩, .slice none 0 0] 25 ?_; intro ab hg lM hbox hb; have aa := Aside0.mk (hbox); have bR := Aside0.mk (Sq.ge hg Z1); have bf := Aside0.mk (Sq.ge hg Z1); replace HB := Aside0.mk (below_step Z1 hb); clear hb hbox hg))
       have bl := Aside0.mk (blk_drew aa.out)
       have bm := Aside0.mk (below_drew1 HB.out)
       clear aa
       clear HB
       have aa := bl
       have HB := bm
       clear bl bm
       have p7 : 0 ≤ (1 : Int) := Z34
       have q7 : 1 < a0.size := (by have : (1 : Int) < (a0.size : Int) := of_decide_eq_true Z6; omega)
       have hx7 : ∀ h : 1 < a0.size, ((a0[1]'h).toNat : Int) = bt a0 1 := bt_at a0 1
       clear p7
       have qi7 : (1 < (a0.size : Int)) = True := eq_true (of_decide_eq_true Z6)
       replace q7 := eq_true q7
       have p9 : 0 ≤ (2 : Int) := Z34
       have q9 : 2 < a0.size := (by have : (2 : Int) < (a0.size : Int) := of_decide_eq_true Z6; omega)
       have hx9 : ∀ h : 2 < a0.size, ((a0[2]'h).toNat : Int) = bt a0 2 := bt_at a0 2
       clear p9
       have qi9 : (2 < (a0.size : Int)) = True := eq_true (of_decide_eq_true Z6)
       replace q9 := eq_true q9
       refine start_ (n := 8) (S := fun w' => True) (ds := []) (Sq.b 8 0) Z14 rfl rfl trivial (fun hHeld => ?_); refine with_tabW rerr_Get.tab3 rerr_Get.bits3 (fun HT_ HW_ => ?_)
       generalize lM.drew = mj at aa HB hHeld ⊢
       refine Sq.pur 0 (some 20) (Sq.b 8 1) HT_.out ?_
       refine Sq.pur 3 (some 23) (Sq.b 8 9) HT_.out ?_
       refine Sq.tak 1 (some 21) (Sq.b 8 11) HT_.out HW_.out hHeld (v := ?_) (a' := ?_) ?_ ?_ ?_
       rotate_left
       ·rintro w' s0
        first | (refine Eq.trans (Pre.load_run (ty := 25) rfl Z22 Z87 Try.underlying25 rfl Z14) ?_; with_reducible rfl) | (go_simp; with_reducible rfl)
       rotate_left
       ·simp only [Act.put, Sq.s1, Sq.s2, Sq.s3, i64_w, i32_w]
        rfl
       refine Sq.pur 2 (some 22) (Sq.b 8 15) HT_.out ?_
       refine Sq.tak 4 (some 24) (Sq.b 8 31) HT_.out HW_.out hHeld (v := ?_) (a' := ?_) ?_ ?_ ?_
       rotate_left
       ·rintro w' s0
        first | (refine Eq.trans (Pre.load_run (ty := 25) rfl Z22 Z87 Try.underlying25 rfl Z14) ?_; with_reducible rfl) | (go_simp; with_reducible rfl)
       rotate_left
       ·simp only [Act.put, Sq.s1, Sq.s2, Sq.s3, i64_w, i32_w]
        rfl
       refine Sq.pur 5 (some 25) (Sq.b 8 63) HT_.out ?_
       refine Sq.pur 6 (some 26) (Sq.b 8 127) HT_.out ?_
       refine Sq.pur 7 (some 19) (Sq.b 8 255) HT_.out ?_
       refine done_ (done_of HT_.out Z14) ?_
       have p12 : 0 ≤ (3 : Int) := Z34
       have q12 : 3 < a0.size := (by have : (3 : Int) < (a0.size : Int) := of_decide_eq_true Z6; omega)
       have hx12 : ∀ h : 3 < a0.size, ((a0[3]'h).toNat : Int) = bt a0 3 := bt_at a0 3
       clear p12
       have qi12 : (3 < (a0.size : Int)) = True := eq_true (of_decide_eq_true Z6)
       replace q12 := eq_true q12
       have jD := cells_25 aa.out
       try go_wp2_with (first | ((with_reducible refine gate_dst (N := 37) rfl ?_); refine Pre.build_event 37 25 [(0, Go.Operand.const (Go.Value.int Go.IntKind.i64 5)), (15, Go.Operand.tmp 36)] rfl rfl rfl (rerr_Get.bd37 _ _) ?_) | ((with_reducible refine Pre.gate_load 25 rfl ?_); (try (refine gate_guard Z22 ?_; dsimp only)); refine Pre.load_event rfl rfl rfl Z22 Z11 Try.underlying25 rfl Z14 ?_) | ((with_reducible refine Pre.gate_store 25 rfl ?_); refine Pre.store_abs (cur := #[.int .i64 0, .int .i64 0, .int .i64 0, .string ⟨#[]⟩, .int .i64 0, .int .i64 0, .string ⟨#[]⟩, .int .i64 0, .int .i64 0, .string ⟨#[]⟩, .int .i64 0, .string ⟨#[]⟩, .int .i64 0, .int .i64 0, .int .i64 0, .int .i64 0, .int .i64 0, .int .i64 0, .int .i64 0, .string ⟨#[]⟩, .string ⟨#[]⟩, .slice none 0 0, .int .i64 0, .string ⟨#[]⟩, .slice none 0 0]) (e := 25) rfl rfl rfl Z22 Z22 Z2 Z14 Z22 Z22 ?_; intro iE hbS_ sS_; have bl : Aside0 (iE.heap[ab]? = some (.cells #[.int .i64 0, .int .i64 0, .int .i64 0, .string ⟨#[]⟩, .int .i64 0, .int .i64 0, .string ⟨#[]⟩, .int .i64 0, .int .i64 0, .string ⟨#[]⟩, .int .i64 0, .string ⟨#[]⟩, .int .i64 0, .int .i64 0, .int .i64 0, .int .i64 0, .int .i64 0, .int .i64 0, .int .i64 0, .string ⟨#[]⟩, .string ⟨#[]⟩, .slice none 0 0, .int .i64 0, .string ⟨#[]⟩, .slice none 0 0] 25 (0, 0))) := ⟨hbS_⟩; have bm : Aside0 (Below w.heap.size w iE) := ⟨sS_.below Z0 bf.out⟩; clear hbS_ sS_; replace aa := bl; replace HB := bm; clear bl bm))
       refine bodyPost_ret (results_ctt rfl _ _ ab 25 #[.int .i64 0, .int .i64 0, .int .i64 0, .string ⟨#[]⟩, .int .i64 0, .int .i64 0, .string ⟨#[]⟩, .int .i64 0, .int .i64 0, .string ⟨#[]⟩, .int .i64 0, .string ⟨#[]⟩, .int .i64 0, .int .i64 0, .int .i64 0, .int .i64 0, .int .i64 0, .int .i64 0, .int .i64 0, .string ⟨#[]⟩, .string ⟨#[]⟩, .slice none 0 0, .int .i64 0, .string ⟨#[]⟩, .slice none 0 0] (0, 0) _ rfl Z2 Try.underlying25 rfl Z14) rfl ?_
       exact ⟨_, _, Z5, Z7, Z20, Z0⟩
      ·rw [if_neg ew] at H
       have fd : ((bt a0 3) == 0) = false := beq_eq_false_iff_ne.mpr ew
       have gT : ((bt a0 3) != 0) = true := bne_iff_ne.mpr ew
       replace H := Option.bind_eq_some_iff.mp H
       obtain ⟨⟨aX, aV, bi, aU⟩, mH, H⟩ := H
       replace H : ((cursor_Text.f aX aV bi aU 4).bind fun bu => (rerr_Get.l0 k a0 (wrap64 (bt a0 3)) 0 5 0 0 (⟨#[]⟩ : ByteArray) 0 0 (⟨#[]⟩ : ByteArray) 0 0 (⟨#[]⟩ : ByteArray) 0 (⟨#[]⟩ : ByteArray) 0 0 0 (wrap64 ((bt a0 1) / 128)) 0 0 0 (⟨#[]⟩ : ByteArray) (⟨#[]⟩ : ByteArray) ([] : List (S46)) 0 (⟨#[]⟩ : ByteArray) bu.2.1 bu.2.2.1 bu.2.2.2.1 bu.2.2.2.2)) = some (r1, r2, r3, r4, r5, r6, r7, r8, r9, r10, r11, r12, r13, r14, r15, r16, r17, r18, r19, r20, r21, r22, r23, r24, r25, r26, r27) := H
       have ta := Aside0.mk mH
       clear mH
       replace H := Option.bind_eq_some_iff.mp H
       obtain ⟨⟨bp, aQ, ba, bk, bK⟩, je, H⟩ := H
       replace H : (rerr_Get.l0 k a0 (wrap64 (bt a0 3)) 0 5 0 0 (⟨#[]⟩ : ByteArray) 0 0 (⟨#[]⟩ : ByteArray) 0 0 (⟨#[]⟩ : ByteArray) 0 (⟨#[]⟩ : ByteArray) 0 0 0 (wrap64 ((bt a0 1) / 128)) 0 0 0 (⟨#[]⟩ : ByteArray) (⟨#[]⟩ : ByteArray) ([] : List (S46)) 0 (⟨#[]⟩ : ByteArray) aQ ba bk bK) = some (r1, r2, r3, r4, r5, r6, r7, r8, r9, r10, r11, r12, r13, r14, r15, r16, r17, r18, r19, r20, r21, r22, r23, r24, r25, r26, r27) := H
       have gr := Aside0.mk je
       clear je
       have H' := Aside0.mk H
       clear H
       go_enter Try.func30, Try.ntmps30
       try go_wp2_with (first | ((with_reducible refine gate_dst (N := 37) rfl ?_); refine Pre.build_event 37 25 [(0, Go.Operand.const (Go.Value.int Go.IntKind.i64 5)), (15, Go.Operand.tmp 36)] rfl rfl rfl (rerr_Get.bd37 _ _) ?_) | ((with_reducible refine Pre.gate_load 25 rfl ?_); (try (refine gate_guard Z22 ?_; dsimp only)); refine Pre.load_event rfl rfl rfl Z22 Z11 Try.underlying25 rfl Z14 ?_) | ((with_reducible refine gate_dst (N := 2) rfl ?_); refine Sq.box 2 #[.int .i64 0, .int .i64 0, .int .i64 0, .string ⟨#[]⟩, .int .i64 0, .int .i64 0, .string ⟨#[]⟩, .int .i64 0, .int .i64 0, .string ⟨#[]⟩, .int .i64 0, .string ⟨#[]⟩, .int .i64 0, .int .i64 0, .int .i64 0, .int .i64 0, .int .i64 0, .int .i64 0, .int .i64 0, .string ⟨#[]⟩, .string ⟨#[]⟩, .slice none 0 0, .int .i64 0, .string ⟨#[]⟩, .slice none 0 0] 25 ?_; intro ab hg nH hbox hb; have aa := Aside0.mk (hbox); have bR := Aside0.mk (Sq.ge hg Z1); have bf := Aside0.mk (Sq.ge hg Z1); replace HB := Aside0.mk (below_step Z1 hb); clear hb hbox hg))
       have bl := Aside0.mk (blk_drew aa.out)
       have bm := Aside0.mk (below_drew1 HB.out)
       clear aa
       clear HB
       have aa := bl
       have HB := bm
       clear bl bm
       have p7 : 0 ≤ (1 : Int) := Z34
       have q7 : 1 < a0.size := (by have : (1 : Int) < (a0.size : Int) := of_decide_eq_true Z6; omega)
       have hx7 : ∀ h : 1 < a0.size, ((a0[1]'h).toNat : Int) = bt a0 1 := bt_at a0 1
       clear p7
       have qi7 : (1 < (a0.size : Int)) = True := eq_true (of_decide_eq_true Z6)
       replace q7 := eq_true q7
       have p9 : 0 ≤ (2 : Int) := Z34
       have q9 : 2 < a0.size := (by have : (2 : Int) < (a0.size : Int) := of_decide_eq_true Z6; omega)
       have hx9 : ∀ h : 2 < a0.size, ((a0[2]'h).toNat : Int) = bt a0 2 := bt_at a0 2
       clear p9
       have qi9 : (2 < (a0.size : Int)) = True := eq_true (of_decide_eq_true Z6)
       replace q9 := eq_true q9
       refine start_ (n := 8) (S := fun w' => True) (ds := []) (Sq.b 8 0) Z14 rfl rfl trivial (fun hHeld => ?_); refine with_tabW rerr_Get.tab3 rerr_Get.bits3 (fun HT_ HW_ => ?_)
       generalize nH.drew = ku at aa HB hHeld ⊢
       refine Sq.pur 0 (some 20) (Sq.b 8 1) HT_.out ?_
       refine Sq.pur 3 (some 23) (Sq.b 8 9) HT_.out ?_
       refine Sq.tak 1 (some 21) (Sq.b 8 11) HT_.out HW_.out hHeld (v := ?_) (a' := ?_) ?_ ?_ ?_
       rotate_left
       ·rintro w' s0
        first | (refine Eq.trans (Pre.load_run (ty := 25) rfl Z22 Z87 Try.underlying25 rfl Z14) ?_; with_reducible rfl) | (go_simp; with_reducible rfl)
       rotate_left
       ·simp only [Act.put, Sq.s1, Sq.s2, Sq.s3, i64_w, i32_w]
        rfl
       refine Sq.pur 2 (some 22) (Sq.b 8 15) HT_.out ?_
       refine Sq.tak 4 (some 24) (Sq.b 8 31) HT_.out HW_.out hHeld (v := ?_) (a' := ?_) ?_ ?_ ?_
       rotate_left
       ·rintro w' s0
        first | (refine Eq.trans (Pre.load_run (ty := 25) rfl Z22 Z87 Try.underlying25 rfl Z14) ?_; with_reducible rfl) | (go_simp; with_reducible rfl)
       rotate_left
       ·simp only [Act.put, Sq.s1, Sq.s2, Sq.s3, i64_w, i32_w]
        rfl
       refine Sq.pur 5 (some 25) (Sq.b 8 63) HT_.out ?_
       refine Sq.pur 6 (some 26) (Sq.b 8 127) HT_.out ?_
       refine Sq.pur 7 (some 19) (Sq.b 8 255) HT_.out ?_
       refine done_ (done_of HT_.out Z14) ?_
       have p12 : 0 ≤ (3 : Int) := Z34
       have q12 : 3 < a0.size := (by have : (3 : Int) < (a0.size : Int) := of_decide_eq_true Z6; omega)
       have hx12 : ∀ h : 3 < a0.size, ((a0[3]'h).toNat : Int) = bt a0 3 := bt_at a0 3
       clear p12
       have qi12 : (3 < (a0.size : Int)) = True := eq_true (of_decide_eq_true Z6)
       replace q12 := eq_true q12
       have p18 : 0 ≤ (1 : Int) := Z34
       have q18 : 1 < a0.size := (by have : (1 : Int) < (a0.size : Int) := of_decide_eq_true Z6; omega)
       have hx18 : ∀ h : 1 < a0.size, ((a0[1]'h).toNat : Int) = bt a0 1 := bt_at a0 1
       clear p18
       have qi18 : (1 < (a0.size : Int)) = True := eq_true (of_decide_eq_true Z6)
       replace q18 := eq_true q18
       try go_wp2_with (first | ((with_reducible refine gate_dst (N := 37) rfl ?_); refine Pre.build_event 37 25 [(0, Go.Operand.const (Go.Value.int Go.IntKind.i64 5)), (15, Go.Operand.tmp 36)] rfl rfl rfl (rerr_Get.bd37 _ _) ?_) | ((with_reducible refine Pre.gate_load 25 rfl ?_); (try (refine gate_guard Z22 ?_; dsimp only)); refine Pre.load_event rfl rfl rfl Z22 Z11 Try.underlying25 rfl Z14 ?_) | ((with_reducible refine gate_dst (N := 5) rfl ?_); refine Sq.box 5 #[.int .i64 0, .int .i64 0, .int .i64 0, .string ⟨#[]⟩, .int .i64 0, .int .i64 0, .string ⟨#[]⟩, .int .i64 0, .int .i64 0, .string ⟨#[]⟩, .int .i64 0, .string ⟨#[]⟩, .int .i64 0, .int .i64 0, .int .i64 0, .int .i64 0, .int .i64 0, .int .i64 0, .int .i64 0, .string ⟨#[]⟩, .string ⟨#[]⟩, .slice none 0 0, .int .i64 0, .string ⟨#[]⟩, .slice none 0 0] 25 ?_; intro aJ hg pb hbox hb; have aN := Aside0.mk (hbox); have fw := Aside0.mk (Sq.ge hg Z0); have eC := Aside0.mk (Sq.ge hg Z0); have aW := Aside0.mk (Sq.nl hg (blk_lt (g := ab) Z2)); have bh := Aside0.mk (Sq.ng hg (blk_lt (g := ab) Z2)); replace aa := Aside0.mk (blk_below (g := ab) Z2 hb); replace HB := Aside0.mk (below_step Z0 hb); clear hb hbox hg; have qZ := bh.out; have ra := aW.out; have iY := cells_25 aN.out) | ((with_reducible refine Pre.gate_store 25 rfl ?_); refine Pre.store_abs (cur := #[.int .i64 0, .int .i64 0, .int .i64 0, .string ⟨#[]⟩, .int .i64 0, .int .i64 0, .string ⟨#[]⟩, .int .i64 0, .int .i64 0, .string ⟨#[]⟩, .int .i64 0, .string ⟨#[]⟩, .int .i64 0, .int .i64 0, .int .i64 0, .int .i64 0, .int .i64 0, .int .i64 0, .int .i64 0, .string ⟨#[]⟩, .string ⟨#[]⟩, .slice none 0 0, .int .i64 0, .string ⟨#[]⟩, .slice none 0 0]) (e := 25) rfl rfl rfl Z22 Z22 Z19 Z14 Z22 Z22 ?_; intro nA hbS_ sS_; have bl : Aside0 (nA.heap[ab]? = some (.cells #[.int .i64 0, .int .i64 0, .int .i64 0, .string ⟨#[]⟩, .int .i64 0, .int .i64 0, .string ⟨#[]⟩, .int .i64 0, .int .i64 0, .string ⟨#[]⟩, .int .i64 0, .string ⟨#[]⟩, .int .i64 0, .int .i64 0, .int .i64 0, .int .i64 0, .int .i64 0, .int .i64 0, .int .i64 0, .string ⟨#[]⟩, .string ⟨#[]⟩, .slice none 0 0, .int .i64 0, .string ⟨#[]⟩, .slice none 0 0] 25 (0, 0))) := ⟨sS_.blk Z2 aW.out⟩; have bm : Aside0 (nA.heap[aJ]? = some (.cells #[.int .i64 5, .int .i64 0, .int .i64 0, .string ⟨#[]⟩, .int .i64 0, .int .i64 0, .string ⟨#[]⟩, .int .i64 0, .int .i64 0, .string ⟨#[]⟩, .int .i64 0, .string ⟨#[]⟩, .int .i64 0, .int .i64 0, .int .i64 0, .int .i64 (wrap64 ((bt a0 1) / 128)), .int .i64 0, .int .i64 0, .int .i64 0, .string ⟨#[]⟩, .string ⟨#[]⟩, .slice none 0 0, .int .i64 0, .string ⟨#[]⟩, .slice none 0 0] 25 (0, 0))) := ⟨hbS_⟩; have bI : Aside0 (Below w.heap.size w nA) := ⟨sS_.below Z8 eC.out⟩; clear hbS_ sS_; replace aa := bl; replace aN := bm; replace HB := bI; clear bl bm bI) | ((with_reducible refine gate_callee (f := 61) rfl ?_); refine goesL_ (some 40) rfl rfl Try.func61 Z14 rfl #[.string a0] rfl Z4 ?_; (with_reducible refine (cursor_New.calls a0 aX aV bi aU _ ta.out).mono ?_); rintro e oF ⟨rfl, hb⟩; refine ⟨_, rfl, ?_⟩; replace aa := Aside0.mk (blk_below (g := ab) Z2 hb); replace aN := Aside0.mk (blk_below (g := aJ) Z19 hb); replace HB := Aside0.mk (below_step Z8 hb); clear hb) | ((with_reducible refine gate_callee (f := 60) rfl ?_); refine goesL_ (some 41) rfl rfl Try.func60 Z14 rfl #[.agg #[.string aX, .int .i64 aV, .int .i64 bi, .bool aU], .int .i64 4] rfl Z4 ?_; (with_reducible refine (cursor_Text.calls aX aV bi aU 4 bp aQ ba bk bK _ gr.out).mono ?_); rintro e oj ⟨rfl, hb⟩; refine ⟨_, rfl, ?_⟩; replace aa := Aside0.mk (blk_below (g := ab) Z2 hb); replace aN := Aside0.mk (blk_below (g := aJ) Z19 hb); replace HB := Aside0.mk (below_step Z8 hb); clear hb) | ((with_reducible refine gate_dst (N := 7) rfl ?_); refine Sq.box 7 #[.string ⟨#[]⟩, .int .i64 0, .int .i64 0, .bool false] 60 ?_; intro eu hg rx hbox hb; have dh := Aside0.mk (hbox); have GW112 := Aside0.mk (Sq.ge hg Z8); have oV := Aside0.mk (Sq.ge hg Z8); have dI := Aside0.mk (Sq.nl hg (blk_lt (g := ab) Z2)); have az := Aside0.mk (Sq.ng hg (blk_lt (g := ab) Z2)); have dJ := Aside0.mk (Sq.nl hg (blk_lt (g := aJ) Z19)); have fm := Aside0.mk (Sq.ng hg (blk_lt (g := aJ) Z19)); replace aa := Aside0.mk (blk_below (g := ab) Z2 hb); replace aN := Aside0.mk (blk_below (g := aJ) Z19 hb); replace HB := Aside0.mk (below_step Z8 hb); clear hb hbox hg; have rP := az.out; have rQ := dI.out; have hnb32 := fm.out; have hnc32 := dJ.out; have mW := cells_4 dh.out; have p21 : 0 ≤ (3 : Int) := Z34; have q21 : 3 < a0.size := (by have : (3 : Int) < (a0.size : Int) := of_decide_eq_true Z6; omega); have hx21 : ∀ h : 3 < a0.size, ((a0[3]'h).toNat : Int) = bt a0 3 := bt_at a0 3; clear p21; have qi21 : (3 < (a0.size : Int)) = True := eq_true (of_decide_eq_true Z6); replace q21 := eq_true q21))
       go_loopg [47] k (fun kq uO w' => ∃ (gV : Int) (bN : List (S46)) (db : ByteArray) (bx : Int) (dc : Int) (ep : Bool) (u103021 : Value), uO = .int .i64 gV ∧ Aside0 (rerr_Get.l0 kq a0 (wrap64 (bt a0 3)) gV 5 0 0 (⟨#[]⟩ : ByteArray) 0 0 (⟨#[]⟩ : ByteArray) 0 0 (⟨#[]⟩ : ByteArray) 0 (⟨#[]⟩ : ByteArray) 0 0 0 (wrap64 ((bt a0 1) / 128)) 0 0 0 (⟨#[]⟩ : ByteArray) (⟨#[]⟩ : ByteArray) bN 0 (⟨#[]⟩ : ByteArray) db bx dc ep = some (r1, r2, r3, r4, r5, r6, r7, r8, r9, r10, r11, r12, r13, r14, r15, r16, r17, r18, r19, r20, r21, r22, r23, r24, r25, r26, r27)) ∧ Aside0 (kq ≤ k) ∧ Aside0 (Kd.R k46 46 w' w.heap.size (fun _ => True) u103021 bN) ∧ Aside0 (w'.heap[ab]? = some (.cells #[.int .i64 0, .int .i64 0, .int .i64 0, .string ⟨#[]⟩, .int .i64 0, .int .i64 0, .string ⟨#[]⟩, .int .i64 0, .int .i64 0, .string ⟨#[]⟩, .int .i64 0, .string ⟨#[]⟩, .int .i64 0, .int .i64 0, .int .i64 0, .int .i64 0, .int .i64 0, .int .i64 0, .int .i64 0, .string ⟨#[]⟩, .string ⟨#[]⟩, (.slice none 0 0), .int .i64 0, .string ⟨#[]⟩, (.slice none 0 0)] 25 (0, 0))) ∧ Aside0 (w'.heap[aJ]? = some (.cells #[.int .i64 5, .int .i64 0, .int .i64 0, .string ⟨#[]⟩, .int .i64 0, .int .i64 0, .string ⟨#[]⟩, .int .i64 0, .int .i64 0, .string ⟨#[]⟩, .int .i64 0, .string ⟨#[]⟩, .int .i64 0, .int .i64 0, .int .i64 0, .int .i64 (wrap64 ((bt a0 1) / 128)), .int .i64 0, .int .i64 0, .int .i64 0, .string ⟨#[]⟩, .string ⟨#[]⟩, u103021, .int .i64 0, .string ⟨#[]⟩, (.slice none 0 0)] 25 (0, 0))) ∧ Aside0 (w'.heap[eu]? = some (.cells #[.string db, .int .i64 bx, .int .i64 dc, .bool ep] 60 (0, 0))) ∧ Aside0 (Below w.heap.size w w'))
       case atStart => exact ⟨(0), (([] : List (S46))), (aQ), (ba), (bk), (bK), (.slice none 0 0), Z17, H', ⟨Nat.le_refl _⟩, ⟨Z7⟩, ⟨by (with_reducible repeat (first | refine blk_drewN ?_ _ | refine blk_drew ?_ | refine blk_alloc ?_ _)); refine blk_far ?_ dI.out _; (with_reducible repeat (first | refine blk_drewN ?_ _ | refine blk_drew ?_ | refine blk_alloc ?_ _)); refine blk_far ?_ dI.out _; (with_reducible repeat (first | refine blk_drewN ?_ _ | refine blk_drew ?_ | refine blk_alloc ?_ _)); refine blk_far ?_ dI.out _; (with_reducible repeat (first | refine blk_drewN ?_ _ | refine blk_drew ?_ | refine blk_alloc ?_ _)); refine blk_far ?_ dI.out _; (with_reducible repeat (first | refine blk_drewN ?_ _ | refine blk_drew ?_ | refine blk_alloc ?_ _)); exact aa.out⟩, ⟨by (with_reducible repeat (first | refine blk_drewN ?_ _ | refine blk_drew ?_ | refine blk_alloc ?_ _)); refine blk_far ?_ dJ.out _; (with_reducible repeat (first | refine blk_drewN ?_ _ | refine blk_drew ?_ | refine blk_alloc ?_ _)); refine blk_far ?_ dJ.out _; (with_reducible repeat (first | refine blk_drewN ?_ _ | refine blk_drew ?_ | refine blk_alloc ?_ _)); refine blk_far ?_ dJ.out _; (with_reducible repeat (first | refine blk_drewN ?_ _ | refine blk_drew ?_ | refine blk_alloc ?_ _)); refine blk_far ?_ dJ.out _; (with_reducible repeat (first | refine blk_drewN ?_ _ | refine blk_drew ?_ | refine blk_alloc ?_ _)); exact aN.out⟩, ⟨by (with_reducible repeat (first | refine blk_drewN ?_ _ | refine blk_drew ?_ | refine blk_alloc ?_ _)); apply blk_puts4; (with_reducible repeat (first | refine blk_drewN ?_ _ | refine blk_drew ?_ | refine blk_alloc ?_ _)); exact dh.out⟩, ⟨Z21⟩⟩
       case round =>
        clear H'
        try clear c1
        try clear p1
        try clear q1
        try clear hx1
        try clear qi1
        try clear c2
        try clear eE
        try clear fo
        try clear p2
        try clear q2
        try clear hx2
        try clear qi2
        try clear c3
        try clear c6
        try clear ga
        try clear ii
        try clear p6
        try clear p7
        try clear q7
        try clear hx7
        try clear qi7
        try clear c8
        try clear gf
        try clear iU
        try clear p9
        try clear q9
        try clear hx9
        try clear qi9
        try clear en
        try clear eP
        try clear fv
        try clear dK
        try clear eB
        try clear fp
        try clear p12
        try clear q12
        try clear hx12
        try clear qi12
        try clear ew
        try clear fd
        try clear gT
        try clear p18
        try clear q18
        try clear hx18
        try clear qi18
        try clear p21
        try clear q21
        try clear hx21
        try clear qi21
        try clear jz
        try clear lm
        try clear iS
        try clear ih
        try clear jD
        try clear iY
        try clear mW
        try clear jL
        try clear p12
        try clear p18
        try clear p21
        try clear p7
        try clear p9
        try clear q12
        try clear q18
        try clear q21
        try clear q7
        try clear q9
        obtain ⟨gV, bN, db, bx, dc, ep, u103021, rfl, HA, HK1, HO_103021, aa, aN, dh, HB⟩ := hrel
        cases gk with
        | zero => exact absurd HA.out (by simp [rerr_Get.l0])
        | succ k1 =>
         have H := HA.out
         clear HA
         simp only [rerr_Get.l0] at H
         by_cases gA : gV < (wrap64 (bt a0 3))
         ·rw [if_pos gA] at H
          have iD : decide (gV < (wrap64 (bt a0 3))) = true := decide_eq_true gA
          clear gA
          replace H := Option.bind_eq_some_iff.mp H
          obtain ⟨⟨bP, bF, bO, cC, bE⟩, jj, H⟩ := H
          replace H : ((cursor_Num.f bF bO cC bE 4).bind fun gp => (if bN.length < 5864062014805 then (rerr_Get.l0 k1 a0 (wrap64 (bt a0 3)) (wrap64 (gV + 1)) 5 0 0 (⟨#[]⟩ : ByteArray) 0 0 (⟨#[]⟩ : ByteArray) 0 0 (⟨#[]⟩ : ByteArray) 0 (⟨#[]⟩ : ByteArray) 0 0 0 (wrap64 ((bt a0 1) / 128)) 0 0 0 (⟨#[]⟩ : ByteArray) (⟨#[]⟩ : ByteArray) (bN ++ [(⟨bP, gp.1⟩ : S46)]) 0 (⟨#[]⟩ : ByteArray) gp.2.1 gp.2.2.1 gp.2.2.2.1 gp.2.2.2.2) else (none))) = some (r1, r2, r3, r4, r5, r6, r7, r8, r9, r10, r11, r12, r13, r14, r15, r16, r17, r18, r19, r20, r21, r22, r23, r24, r25, r26, r27) := H
          have nO := Aside0.mk jj
          clear jj
          replace H := Option.bind_eq_some_iff.mp H
          obtain ⟨⟨bS, bZ, ca, ck, dV⟩, sb, H⟩ := H
          replace H : (if bN.length < 5864062014805 then (rerr_Get.l0 k1 a0 (wrap64 (bt a0 3)) (wrap64 (gV + 1)) 5 0 0 (⟨#[]⟩ : ByteArray) 0 0 (⟨#[]⟩ : ByteArray) 0 0 (⟨#[]⟩ : ByteArray) 0 (⟨#[]⟩ : ByteArray) 0 0 0 (wrap64 ((bt a0 1) / 128)) 0 0 0 (⟨#[]⟩ : ByteArray) (⟨#[]⟩ : ByteArray) (bN ++ [(⟨bP, bS⟩ : S46)]) 0 (⟨#[]⟩ : ByteArray) bZ ca ck dV) else (none)) = some (r1, r2, r3, r4, r5, r6, r7, r8, r9, r10, r11, r12, r13, r14, r15, r16, r17, r18, r19, r20, r21, r22, r23, r24, r25, r26, r27) := H
          have uP := Aside0.mk sb
          clear sb
          by_cases nC : bN.length < 5864062014805
          ·rw [if_pos nC] at H
           have LMc37 := Aside0.mk nC
           clear nC
           obtain ⟨nV, hy124⟩ : ∃ y_ : List (S46), y_ = (bN ++ [(⟨bP, bS⟩ : S46)]) := ⟨_, rfl⟩
           replace H : (rerr_Get.l0 k1 a0 (wrap64 (bt a0 3)) (wrap64 (gV + 1)) 5 0 0 (⟨#[]⟩ : ByteArray) 0 0 (⟨#[]⟩ : ByteArray) 0 0 (⟨#[]⟩ : ByteArray) 0 (⟨#[]⟩ : ByteArray) 0 0 0 (wrap64 ((bt a0 1) / 128)) 0 0 0 (⟨#[]⟩ : ByteArray) (⟨#[]⟩ : ByteArray) nV 0 (⟨#[]⟩ : ByteArray) bZ ca ck dV) = some (r1, r2, r3, r4, r5, r6, r7, r8, r9, r10, r11, r12, r13, r14, r15, r16, r17, r18, r19, r20, r21, r22, r23, r24, r25, r26, r27) := by first | (rw [hy124]; with_reducible exact H) | (have H2_ := (Option.bind_some _ _).symm.trans H; rw [hy124]; with_reducible exact H2_) | (have H2_ := (Option.bind_some _ _).symm.trans H; with_reducible exact H2_) | with_reducible exact H | (rw [hy124]; exact H) | exact H
           have Ny124 := Aside0.mk hy124
           clear hy124
           have H' := Aside0.mk H
           clear H
           go_wp2_with (first | ((with_reducible refine gate_dst (N := 37) rfl ?_); refine Pre.build_event 37 25 [(0, Go.Operand.const (Go.Value.int Go.IntKind.i64 5)), (15, Go.Operand.tmp 36)] rfl rfl rfl (rerr_Get.bd37 _ _) ?_) | ((with_reducible refine Pre.gate_load 25 rfl ?_); (try (refine gate_guard Z22 ?_; dsimp only)); refine Pre.load_event rfl rfl rfl Z22 Z11 Try.underlying25 rfl Z14 ?_) | ((with_reducible refine gate_dst (N := 8) rfl ?_); refine Sq.box 8 #[.string ⟨#[]⟩, .int .i64 0] 46 ?_; intro fy hg tl hbox hb; have ff := Aside0.mk (hbox); have GW113 := Aside0.mk (Sq.ge hg Z21); have sc := Aside0.mk (Sq.ge hg Z21); have jI := Aside0.mk (Sq.nl hg (blk_lt (g := ab) Z2)); have lX := Aside0.mk (Sq.ng hg (blk_lt (g := ab) Z2)); have jJ := Aside0.mk (Sq.nl hg (blk_lt (g := aJ) Z19)); have lY := Aside0.mk (Sq.ng hg (blk_lt (g := aJ) Z19)); have jK := Aside0.mk (Sq.nl hg (blk_lt (g := eu) (o := .cells #[.string db, .int .i64 bx, .int .i64 dc, .bool ep] 60 (0, 0)) Z51)); have eA := Aside0.mk (Sq.ng hg (blk_lt (g := eu) (o := .cells #[.string db, .int .i64 bx, .int .i64 dc, .bool ep] 60 (0, 0)) Z51)); replace HO_103021 := Aside0.mk (Kd.R_below (Kd.R_elderB Z45 fy (Nat.le_of_eq hg.symm)) hb); replace aa := Aside0.mk (blk_below (g := ab) Z2 hb); replace aN := Aside0.mk (blk_below (g := aJ) Z19 hb); replace dh := Aside0.mk (blk_below (g := eu) (o := .cells #[.string db, .int .i64 bx, .int .i64 dc, .bool ep] 60 (0, 0)) Z51 hb); replace HB := Aside0.mk (below_step Z21 hb); clear hb hbox hg; have hnb39 := az.out; have hnc39 := dI.out; have hnb40 := fm.out; have hnc40 := dJ.out; have rJ := jK.out; have rK := eA.out; have rU := cells_4 dh.out) | ((with_reducible refine gate_callee (f := 60) rfl ?_); refine goesL_ (some 51) rfl rfl Try.func60 Z14 rfl #[.agg #[.string db, .int .i64 bx, .int .i64 dc, .bool ep], .int .i64 4] rfl Z4 ?_; (with_reducible refine (cursor_Text.calls db bx dc ep 4 bP bF bO cC bE _ nO.out).mono ?_); rintro e qi ⟨rfl, hb⟩; refine ⟨_, rfl, ?_⟩; replace HO_103021 := Aside0.mk (Kd.R_below Z45 hb); replace aa := Aside0.mk (blk_below (g := ab) Z2 hb); replace aN := Aside0.mk (blk_below (g := aJ) Z19 hb); replace dh := Aside0.mk (blk_below (g := eu) (o := .cells #[.string db, .int .i64 bx, .int .i64 dc, .bool ep] 60 (0, 0)) Z51 hb); replace ff := Aside0.mk (blk_below (g := fy) (o := .cells #[.string ⟨#[]⟩, .int .i64 0] 46 (0, 0)) (by (with_reducible repeat (first | refine blk_drewN ?_ _ | refine blk_drew ?_ | refine blk_alloc ?_ _)); exact ff.out) hb); replace HB := Aside0.mk (below_step Z38 hb); clear hb; have oN := lX.out; have oO := jI.out; have rV := lY.out; have rW := jJ.out; have hcz46_0 : qi.cell? ⟨fy, 0, none⟩ = some (.string ⟨#[]⟩) := (blk_cell ff.out 0).trans rfl; have hcz46_1 : qi.cell? ⟨fy, 1, none⟩ = some (.int .i64 0) := (blk_cell ff.out 1).trans rfl; have hfz46_0 := blk_frozen ff.out 0; have hfz46_1 := blk_frozen ff.out 1; have oP := cells_4 dh.out) | ((with_reducible refine gate_callee (f := 62) rfl ?_); refine goesL_ (some 57) rfl rfl Try.func62 Z14 rfl #[.agg #[.string bF, .int .i64 bO, .int .i64 cC, .bool bE], .int .i64 4] rfl Z4 ?_; (with_reducible refine (cursor_Num.calls bF bO cC bE 4 bS bZ ca ck dV _ uP.out).mono ?_); rintro e sK ⟨rfl, hb⟩; refine ⟨_, rfl, ?_⟩; replace HO_103021 := Aside0.mk (Kd.R_below (by (with_reducible repeat (first | apply Kd.R_alloc | apply Kd.R_drewN | apply Kd.R_drew)); exact (Kd.R_mono (Kd.R_mono (Kd.R_far (p := ⟨eu, 3, none⟩) (Kd.R_far (p := ⟨eu, 2, none⟩) (Kd.R_far (p := ⟨eu, 1, none⟩) (Kd.R_far (p := ⟨eu, 0, none⟩) (Kd.R_far (p := ⟨fy, 0, none⟩) (Kd.R_types (Kd.R_mono HO_103021.out (fun k_ hk => (⟨hk, hk.2⟩ : _ ∧ k_ ≠ fy))) dh.out Z27) (fun _ hk => hk.1.2) (.string bP)) (fun _ hk => hk.2) (.string bF)) (fun _ hk => hk.2) (.int .i64 bO)) (fun _ hk => hk.2) (.int .i64 cC)) (fun _ hk => hk.2) (.bool bE)) (fun _ h_ => h_.1)) (fun _ h_ => h_.1))) hb); replace aa := Aside0.mk (blk_below (g := ab) (o := .cells #[.int .i64 0, .int .i64 0, .int .i64 0, .string ⟨#[]⟩, .int .i64 0, .int .i64 0, .string ⟨#[]⟩, .int .i64 0, .int .i64 0, .string ⟨#[]⟩, .int .i64 0, .string ⟨#[]⟩, .int .i64 0, .int .i64 0, .int .i64 0, .int .i64 0, .int .i64 0, .int .i64 0, .int .i64 0, .string ⟨#[]⟩, .string ⟨#[]⟩, .slice none 0 0, .int .i64 0, .string ⟨#[]⟩, .slice none 0 0] 25 (0, 0)) Z53 hb); replace aN := Aside0.mk (blk_below (g := aJ) (o := .cells #[.int .i64 5, .int .i64 0, .int .i64 0, .string ⟨#[]⟩, .int .i64 0, .int .i64 0, .string ⟨#[]⟩, .int .i64 0, .int .i64 0, .string ⟨#[]⟩, .int .i64 0, .string ⟨#[]⟩, .int .i64 0, .int .i64 0, .int .i64 0, .int .i64 (wrap64 ((bt a0 1) / 128)), .int .i64 0, .int .i64 0, .int .i64 0, .string ⟨#[]⟩, .string ⟨#[]⟩, u103021, .int .i64 0, .string ⟨#[]⟩, .slice none 0 0] 25 (0, 0)) Z52 hb); replace dh := Aside0.mk (blk_below (g := eu) (o := .cells #[.string bF, .int .i64 bO, .int .i64 cC, .bool bE] 60 (0, 0)) Z76 hb); replace ff := Aside0.mk (blk_below (g := fy) (o := .cells #[.string bP, .int .i64 0] 46 (0, 0)) (by (with_reducible repeat (first | refine blk_drewN ?_ _ | refine blk_drew ?_ | refine blk_alloc ?_ _)); refine blk_far ?_ eA.out _; (with_reducible repeat (first | refine blk_drewN ?_ _ | refine blk_drew ?_ | refine blk_alloc ?_ _)); refine blk_far ?_ eA.out _; (with_reducible repeat (first | refine blk_drewN ?_ _ | refine blk_drew ?_ | refine blk_alloc ?_ _)); refine blk_far ?_ eA.out _; (with_reducible repeat (first | refine blk_drewN ?_ _ | refine blk_drew ?_ | refine blk_alloc ?_ _)); refine blk_far ?_ eA.out _; (with_reducible repeat (first | refine blk_drewN ?_ _ | refine blk_drew ?_ | refine blk_alloc ?_ _)); refine blk_put (cs := #[.string ⟨#[]⟩, .int .i64 0]) ?_ 0 _ rfl; (with_reducible repeat (first | refine blk_drewN ?_ _ | refine blk_drew ?_ | refine blk_alloc ?_ _)); exact ff.out) hb); replace HB := Aside0.mk (below_step Z38 hb); clear hb; (try clear hk); have hcz49_0 : sK.cell? ⟨fy, 0, none⟩ = some (.string bP) := (blk_cell ff.out 0).trans rfl; have hcz49_1 : sK.cell? ⟨fy, 1, none⟩ = some (.int .i64 0) := (blk_cell ff.out 1).trans rfl; have hfz49_0 := blk_frozen ff.out 0; have hfz49_1 := blk_frozen ff.out 1; have hcz50 := cells_4 dh.out; have hnb51 := bh.out; have hnc51 := aW.out; have hcz52 := cells_25 aN.out) | ((with_reducible refine gate_builtin (b := .append) (xs := #[.tmp 62, .tmp 64]) rfl ?_); at_builtin; refine Kd.R_append k46 (w0 := w) w.heap.size rfl (.tmp 62) (.tmp 64) 22 46 (.agg #[(.string ⟨#[]⟩), (.int .i64 0)]) 24 rfl Try.underlying22 info46 rfl Z27 Z34 u103021 bN (⟨bP, bS⟩ : S46) [.string bP, .int .i64 bS] (fun k_ => k_ ≠ fy) (fun _ => False) rfl (by first | (go_simp; done) | (go_simp; rfl)) ?aP (fun _ hk => hk.elim) ?aF ?aO ?aB ?aS ?aL ?_; (case aP => exact k46_mkM _ _ _ (⟨bP, bS⟩ : S46)); (case aB => exact Z38); (case aF => exact (fun k_ hk => Kd.freshB (g := fy) (o := .cells #[.string bP, .int .i64 bS] 46 (0, 0)) Z49 k_ hk)); (case aO => exact (by (with_reducible repeat (first | apply Kd.R_alloc | apply Kd.R_drewN | apply Kd.R_drew)); exact Kd.R_mono (Kd.R_far (p := ⟨eu, 3, none⟩) (Kd.R_far (p := ⟨eu, 2, none⟩) (Kd.R_far (p := ⟨eu, 1, none⟩) (Kd.R_far (p := ⟨eu, 0, none⟩) (Kd.R_far (p := ⟨fy, 1, none⟩) (Kd.R_types (Kd.R_mono HO_103021.out (fun k_ hk => (⟨hk, hk.2⟩ : _ ∧ k_ ≠ fy))) dh.out Z27) (fun _ hk => hk.1.2) (.int .i64 bS)) (fun _ hk => hk.2) (.string bZ)) (fun _ hk => hk.2) (.int .i64 ca)) (fun _ hk => hk.2) (.int .i64 ck)) (fun _ hk => hk.2) (.bool dV)) (fun _ hk => hk.1.1.2))); (case aS => exact (below_size Z38)); (case aL => have := LMc37.out; omega); intro v125 w53 ho hb hg hat; rw [← Ny124.out] at ho; have oW := Aside0.mk (ho); replace aa := Aside0.mk (blk_grown (g := ab) (o := .cells #[.int .i64 0, .int .i64 0, .int .i64 0, .string ⟨#[]⟩, .int .i64 0, .int .i64 0, .string ⟨#[]⟩, .int .i64 0, .int .i64 0, .string ⟨#[]⟩, .int .i64 0, .string ⟨#[]⟩, .int .i64 0, .int .i64 0, .int .i64 0, .int .i64 0, .int .i64 0, .int .i64 0, .int .i64 0, .string ⟨#[]⟩, .string ⟨#[]⟩, .slice none 0 0, .int .i64 0, .string ⟨#[]⟩, .slice none 0 0] 25 (0, 0)) Z53 hg (Kd.R_ne HO_103021.out aa.out Z27)); replace aN := Aside0.mk (blk_grown (g := aJ) (o := .cells #[.int .i64 5, .int .i64 0, .int .i64 0, .string ⟨#[]⟩, .int .i64 0, .int .i64 0, .string ⟨#[]⟩, .int .i64 0, .int .i64 0, .string ⟨#[]⟩, .int .i64 0, .string ⟨#[]⟩, .int .i64 0, .int .i64 0, .int .i64 0, .int .i64 (wrap64 ((bt a0 1) / 128)), .int .i64 0, .int .i64 0, .int .i64 0, .string ⟨#[]⟩, .string ⟨#[]⟩, u103021, .int .i64 0, .string ⟨#[]⟩, .slice none 0 0] 25 (0, 0)) Z52 hg (Kd.R_ne HO_103021.out aN.out Z27)); replace dh := Aside0.mk (blk_grown (g := eu) (o := .cells #[.string bZ, .int .i64 ca, .int .i64 ck, .bool dV] 60 (0, 0)) Z76 hg (Kd.R_ne HO_103021.out dh.out Z27)); replace ff := Aside0.mk (blk_grown (g := fy) (o := .cells #[.string bP, .int .i64 bS] 46 (0, 0)) Z49 hg (Kd.R_away HO_103021.out (fun _ hk => hk.2))); replace HB := Aside0.mk (hb); clear HO_103021; clear ho hb hg hat; obtain ⟨sd, se, eo54⟩ := Kd.R_slice oW.out; subst eo54; have hcz55 := cells_25 aN.out))
           go_roundg k1
           case measure => have := HK1.out; omega
           case rel => exact ⟨(wrap64 (gV + 1)), (nV), (bZ), (ca), (ck), (dV), (.slice sd nV.length se), Z17, H', ⟨Z88⟩, ⟨by (with_reducible repeat (first | apply Kd.R_alloc | apply Kd.R_drewN | apply Kd.R_drew)); exact Kd.R_mono (Kd.R_far (p := ⟨aJ, 21, none⟩) (Kd.R_types oW.out aN.out Z27) (fun _ hk => hk.2) (.slice sd nV.length se)) (fun _ hk => trivial)⟩, ⟨Z54⟩, ⟨by (with_reducible repeat (first | refine blk_drewN ?_ _ | refine blk_drew ?_ | refine blk_alloc ?_ _)); refine blk_put (cs := #[.int .i64 5, .int .i64 0, .int .i64 0, .string ⟨#[]⟩, .int .i64 0, .int .i64 0, .string ⟨#[]⟩, .int .i64 0, .int .i64 0, .string ⟨#[]⟩, .int .i64 0, .string ⟨#[]⟩, .int .i64 0, .int .i64 0, .int .i64 0, .int .i64 (wrap64 ((bt a0 1) / 128)), .int .i64 0, .int .i64 0, .int .i64 0, .string ⟨#[]⟩, .string ⟨#[]⟩, u103021, .int .i64 0, .string ⟨#[]⟩, .slice none 0 0]) ?_ 21 _ rfl; (with_reducible repeat (first | refine blk_drewN ?_ _ | refine blk_drew ?_ | refine blk_alloc ?_ _)); exact aN.out⟩, ⟨Z89⟩, ⟨Z38⟩⟩
          ·rw [if_neg nC] at H
           exact absurd H Z59
         ·rw [if_neg gA] at H
          have iD : decide (gV < (wrap64 (bt a0 3))) = false := decide_eq_false gA
          clear gA
          by_cases sL : ep = true
          ·subst sL
           have H1 : (some (0, 0, 0, (⟨#[]⟩ : ByteArray), 0, 0, (⟨#[]⟩ : ByteArray), 0, 0, (⟨#[]⟩ : ByteArray), 0, (⟨#[]⟩ : ByteArray), 0, 0, 0, 0, 0, 0, 0, (⟨#[]⟩ : ByteArray), (⟨#[]⟩ : ByteArray), ([] : List (S46)), 0, (⟨#[]⟩ : ByteArray), ([] : List (S48)), (a0.size : Int), 2)) = some (r1, r2, r3, r4, r5, r6, r7, r8, r9, r10, r11, r12, r13, r14, r15, r16, r17, r18, r19, r20, r21, r22, r23, r24, r25, r26, r27) := by rw [if_pos rfl] at H; exact H
           clear H
           have H := H1
           clear H1
           simp only [Option.some.injEq, Prod.mk.injEq] at H
           obtain ⟨rfl, rfl, rfl, rfl, rfl, rfl, rfl, rfl, rfl, rfl, rfl, rfl, rfl, rfl, rfl, rfl, rfl, rfl, rfl, rfl, rfl, rfl, rfl, rfl, rfl, rfl, rfl⟩ := H
           have hnb57 := az.out
           have hnc57 := dI.out
           have qy := fm.out
           have qz := dJ.out
           have qA := cells_4 dh.out
           have rh := aW.out
           have ri := bh.out
           have rj := cells_25 aa.out
           go_wp2_with (first | ((with_reducible refine gate_dst (N := 37) rfl ?_); refine Pre.build_event 37 25 [(0, Go.Operand.const (Go.Value.int Go.IntKind.i64 5)), (15, Go.Operand.tmp 36)] rfl rfl rfl (rerr_Get.bd37 _ _) ?_) | ((with_reducible refine Pre.gate_load 25 rfl ?_); (try (refine gate_guard Z22 ?_; dsimp only)); refine Pre.load_event rfl rfl rfl Z22 Z11 Try.underlying25 rfl Z14 ?_) | ((with_reducible refine Pre.gate_store 25 rfl ?_); refine Pre.store_abs (cur := #[.int .i64 0, .int .i64 0, .int .i64 0, .string ⟨#[]⟩, .int .i64 0, .int .i64 0, .string ⟨#[]⟩, .int .i64 0, .int .i64 0, .string ⟨#[]⟩, .int .i64 0, .string ⟨#[]⟩, .int .i64 0, .int .i64 0, .int .i64 0, .int .i64 0, .int .i64 0, .int .i64 0, .int .i64 0, .string ⟨#[]⟩, .string ⟨#[]⟩, .slice none 0 0, .int .i64 0, .string ⟨#[]⟩, .slice none 0 0]) (e := 25) rfl rfl rfl Z22 Z22 Z2 Z14 Z22 Z22 ?_; intro qf hbS_ sS_; have bl : Aside0 (Kd.R k46 46 qf w.heap.size (fun _ => True) u103021 bN) := ⟨Kd.R_mono (Pre.R_sets sS_ (Kd.R_types HO_103021.out aa.out Z27) (fun _ hk => hk.2)) (fun _ hk => trivial)⟩; have bm : Aside0 (qf.heap[ab]? = some (.cells #[.int .i64 0, .int .i64 0, .int .i64 0, .string ⟨#[]⟩, .int .i64 0, .int .i64 0, .string ⟨#[]⟩, .int .i64 0, .int .i64 0, .string ⟨#[]⟩, .int .i64 0, .string ⟨#[]⟩, .int .i64 0, .int .i64 0, .int .i64 0, .int .i64 0, .int .i64 0, .int .i64 0, .int .i64 0, .string ⟨#[]⟩, .string ⟨#[]⟩, .slice none 0 0, .int .i64 0, .string ⟨#[]⟩, .slice none 0 0] 25 (0, 0))) := ⟨hbS_⟩; have bI : Aside0 (qf.heap[aJ]? = some (.cells #[.int .i64 5, .int .i64 0, .int .i64 0, .string ⟨#[]⟩, .int .i64 0, .int .i64 0, .string ⟨#[]⟩, .int .i64 0, .int .i64 0, .string ⟨#[]⟩, .int .i64 0, .string ⟨#[]⟩, .int .i64 0, .int .i64 0, .int .i64 0, .int .i64 (wrap64 ((bt a0 1) / 128)), .int .i64 0, .int .i64 0, .int .i64 0, .string ⟨#[]⟩, .string ⟨#[]⟩, u103021, .int .i64 0, .string ⟨#[]⟩, .slice none 0 0] 25 (0, 0))) := ⟨sS_.blk Z19 bh.out⟩; have dU : Aside0 (qf.heap[eu]? = some (.cells #[.string db, .int .i64 bx, .int .i64 dc, .bool true] 60 (0, 0))) := ⟨sS_.blk Z51 az.out⟩; have hL : Aside0 (Below w.heap.size w qf) := ⟨sS_.below Z21 bf.out⟩; clear hbS_ sS_; replace HO_103021 := bl; replace aa := bm; replace aN := bI; replace dh := dU; replace HB := hL; clear bl bm bI dU hL))
           refine bodyPost_ret (results_ctt rfl _ _ ab 25 #[.int .i64 0, .int .i64 0, .int .i64 0, .string ⟨#[]⟩, .int .i64 0, .int .i64 0, .string ⟨#[]⟩, .int .i64 0, .int .i64 0, .string ⟨#[]⟩, .int .i64 0, .string ⟨#[]⟩, .int .i64 0, .int .i64 0, .int .i64 0, .int .i64 0, .int .i64 0, .int .i64 0, .int .i64 0, .string ⟨#[]⟩, .string ⟨#[]⟩, .slice none 0 0, .int .i64 0, .string ⟨#[]⟩, .slice none 0 0] (0, 0) _ rfl Z2 Try.underlying25 rfl Z14) rfl ?_
           exact ⟨_, _, Z5, Z7, Z20, Z21⟩
          ·replace sL := Bool.eq_false_iff.mpr sL
           subst sL
           have H1 : (if 0 ≤ bx then (if bx ≤ (a0.size : Int) then ((ext_Get.f k1 (a0.extract (bx : Int).toNat a0.size)).bind fun ic => (if ic.2.2 = 0 then (some (5, 0, 0, (⟨#[]⟩ : ByteArray), 0, 0, (⟨#[]⟩ : ByteArray), 0, 0, (⟨#[]⟩ : ByteArray), 0, (⟨#[]⟩ : ByteArray), 0, 0, 0, (wrap64 ((bt a0 1) / 128)), 0, 0, 0, (⟨#[]⟩ : ByteArray), (⟨#[]⟩ : ByteArray), bN, 0, (⟨#[]⟩ : ByteArray), ic.1, 0, 0)) else (some (0, 0, 0, (⟨#[]⟩ : ByteArray), 0, 0, (⟨#[]⟩ : ByteArray), 0, 0, (⟨#[]⟩ : ByteArray), 0, (⟨#[]⟩ : ByteArray), 0, 0, 0, 0, 0, 0, 0, (⟨#[]⟩ : ByteArray), (⟨#[]⟩ : ByteArray), ([] : List (S46)), 0, (⟨#[]⟩ : ByteArray), ([] : List (S48)), wrap64 (bx + ic.2.1), ic.2.2)))) else (none)) else (none)) = some (r1, r2, r3, r4, r5, r6, r7, r8, r9, r10, r11, r12, r13, r14, r15, r16, r17, r18, r19, r20, r21, r22, r23, r24, r25, r26, r27) := by rw [if_neg (show ¬ (false = true) by decide)] at H; exact H
           clear H
           have H := H1
           clear H1
           by_cases sf : 0 ≤ bx
           ·rw [if_pos sf] at H
            have c63b0 := eq_true sf
            have c63b1 : decide (0 ≤ bx) = true := decide_eq_true sf
            clear sf
            by_cases sg : bx ≤ (a0.size : Int)
            ·rw [if_pos sg] at H
             have c64b0 := eq_true sg
             have c64b1 : decide (bx ≤ (a0.size : Int)) = true := decide_eq_true sg
             clear sg
             replace H := Option.bind_eq_some_iff.mp H
             obtain ⟨⟨cb, es, gQ⟩, sh, H⟩ := H
             replace H : (if gQ = 0 then (some (5, 0, 0, (⟨#[]⟩ : ByteArray), 0, 0, (⟨#[]⟩ : ByteArray), 0, 0, (⟨#[]⟩ : ByteArray), 0, (⟨#[]⟩ : ByteArray), 0, 0, 0, (wrap64 ((bt a0 1) / 128)), 0, 0, 0, (⟨#[]⟩ : ByteArray), (⟨#[]⟩ : ByteArray), bN, 0, (⟨#[]⟩ : ByteArray), cb, 0, 0)) else (some (0, 0, 0, (⟨#[]⟩ : ByteArray), 0, 0, (⟨#[]⟩ : ByteArray), 0, 0, (⟨#[]⟩ : ByteArray), 0, (⟨#[]⟩ : ByteArray), 0, 0, 0, 0, 0, 0, 0, (⟨#[]⟩ : ByteArray), (⟨#[]⟩ : ByteArray), ([] : List (S46)), 0, (⟨#[]⟩ : ByteArray), ([] : List (S48)), wrap64 (bx + es), gQ))) = some (r1, r2, r3, r4, r5, r6, r7, r8, r9, r10, r11, r12, r13, r14, r15, r16, r17, r18, r19, r20, r21, r22, r23, r24, r25, r26, r27) := H
             have um := Aside0.mk sh
             clear sh
             by_cases pC : gQ = 0
             ·rw [if_pos pC] at H
              have si : (gQ == 0) = true := beq_iff_eq.mpr pC
              have sj : (gQ != 0) = false := bne_eq_false_iff_eq.mpr pC
              clear pC
              simp only [Option.some.injEq, Prod.mk.injEq] at H
              obtain ⟨rfl, rfl, rfl, rfl, rfl, rfl, rfl, rfl, rfl, rfl, rfl, rfl, rfl, rfl, rfl, rfl, rfl, rfl, rfl, rfl, rfl, rfl, rfl, rfl, rfl, rfl, rfl⟩ := H
              have hnb67 := az.out
              have hnc67 := dI.out
              have hnb68 := fm.out
              have hnc68 := dJ.out
              have hcz69 := cells_4 dh.out
              go_wp2_with (first | ((with_reducible refine gate_dst (N := 37) rfl ?_); refine Pre.build_event 37 25 [(0, Go.Operand.const (Go.Value.int Go.IntKind.i64 5)), (15, Go.Operand.tmp 36)] rfl rfl rfl (rerr_Get.bd37 _ _) ?_) | ((with_reducible refine Pre.gate_load 25 rfl ?_); (try (refine gate_guard Z22 ?_; dsimp only)); refine Pre.load_event rfl rfl rfl Z22 Z11 Try.underlying25 rfl Z14 ?_) | ((with_reducible refine gate_callee (f := 59) rfl ?_); refine goesL_ (some 78) rfl rfl Try.func59 Z14 rfl #[.string (a0.extract (bx : Int).toNat a0.size)] rfl Z4 ?_; (with_reducible refine (ext_Get.calls k1 (a0.extract (bx : Int).toNat a0.size) cb es gQ _ um.out).mono ?_); rintro e w70 ⟨sk, rfl, ho0, hb⟩; refine ⟨_, rfl, ?_⟩; have fZ := Aside0.mk (Kd.R_lower ho0 (below_size Z21)); replace HO_103021 := Aside0.mk (Kd.R_below Z45 hb); replace aa := Aside0.mk (blk_below (g := ab) Z2 hb); replace aN := Aside0.mk (blk_below (g := aJ) Z19 hb); replace dh := Aside0.mk (blk_below (g := eu) (o := .cells #[.string db, .int .i64 bx, .int .i64 dc, .bool false] 60 (0, 0)) Z51 hb); replace HB := Aside0.mk (below_step Z21 hb); clear hb ho0; obtain ⟨lZ, ma, eo71⟩ := Kd.R_slice fZ.out; subst eo71; have hnb72 := bh.out; have hnc72 := aW.out; have rk := cells_25 aN.out; have oA := cells_25 aa.out; obtain ⟨mX, mY, eo75⟩ := Kd.R_slice HO_103021.out; subst eo75) | ((with_reducible refine Pre.gate_store 25 rfl ?_); refine Pre.store_abs (cur := #[.int .i64 0, .int .i64 0, .int .i64 0, .string ⟨#[]⟩, .int .i64 0, .int .i64 0, .string ⟨#[]⟩, .int .i64 0, .int .i64 0, .string ⟨#[]⟩, .int .i64 0, .string ⟨#[]⟩, .int .i64 0, .int .i64 0, .int .i64 0, .int .i64 0, .int .i64 0, .int .i64 0, .int .i64 0, .string ⟨#[]⟩, .string ⟨#[]⟩, .slice none 0 0, .int .i64 0, .string ⟨#[]⟩, .slice none 0 0]) (e := 25) rfl rfl rfl Z22 Z22 Z54 Z14 Z22 Z22 ?_; intro pl hbS_ sS_; have bl : Aside0 (Kd.R k46 46 pl w.heap.size (fun _ => True) (.slice mX bN.length mY) bN) := ⟨Kd.R_mono (Pre.R_sets sS_ (Kd.R_far (p := ⟨aJ, 24, none⟩) (Kd.R_types (Kd.R_types HO_103021.out aN.out Z27) aa.out Z27) (fun _ hk => hk.1.2) (.slice lZ cb.length ma)) (fun _ hk => hk.2)) (fun _ hk => trivial)⟩; have bm : Aside0 (Kd.R k48 48 pl w.heap.size (fun _ => True) (.slice lZ cb.length ma) cb) := ⟨Kd.R_mono (Pre.R_sets sS_ (Kd.R_far (p := ⟨aJ, 24, none⟩) (Kd.R_types (Kd.R_types fZ.out aN.out Z27) aa.out Z27) (fun _ hk => hk.1.2) (.slice lZ cb.length ma)) (fun _ hk => hk.2)) (fun _ hk => trivial)⟩; have bI : Aside0 (pl.heap[ab]? = some (.cells #[.int .i64 5, .int .i64 0, .int .i64 0, .string ⟨#[]⟩, .int .i64 0, .int .i64 0, .string ⟨#[]⟩, .int .i64 0, .int .i64 0, .string ⟨#[]⟩, .int .i64 0, .string ⟨#[]⟩, .int .i64 0, .int .i64 0, .int .i64 0, .int .i64 (wrap64 ((bt a0 1) / 128)), .int .i64 0, .int .i64 0, .int .i64 0, .string ⟨#[]⟩, .string ⟨#[]⟩, .slice mX bN.length mY, .int .i64 0, .string ⟨#[]⟩, .slice lZ cb.length ma] 25 (0, 0))) := ⟨hbS_⟩; have dU : Aside0 (pl.heap[aJ]? = some (.cells #[.int .i64 5, .int .i64 0, .int .i64 0, .string ⟨#[]⟩, .int .i64 0, .int .i64 0, .string ⟨#[]⟩, .int .i64 0, .int .i64 0, .string ⟨#[]⟩, .int .i64 0, .string ⟨#[]⟩, .int .i64 0, .int .i64 0, .int .i64 0, .int .i64 (wrap64 ((bt a0 1) / 128)), .int .i64 0, .int .i64 0, .int .i64 0, .string ⟨#[]⟩, .string ⟨#[]⟩, .slice mX bN.length mY, .int .i64 0, .string ⟨#[]⟩, .slice lZ cb.length ma] 25 (0, 0))) := ⟨sS_.blk (by (with_reducible repeat (first | refine blk_drewN ?_ _ | refine blk_drew ?_ | refine blk_alloc ?_ _)); refine blk_put (cs := #[.int .i64 5, .int .i64 0, .int .i64 0, .string ⟨#[]⟩, .int .i64 0, .int .i64 0, .string ⟨#[]⟩, .int .i64 0, .int .i64 0, .string ⟨#[]⟩, .int .i64 0, .string ⟨#[]⟩, .int .i64 0, .int .i64 0, .int .i64 0, .int .i64 (wrap64 ((bt a0 1) / 128)), .int .i64 0, .int .i64 0, .int .i64 0, .string ⟨#[]⟩, .string ⟨#[]⟩, .slice mX bN.length mY, .int .i64 0, .string ⟨#[]⟩, .slice none 0 0]) ?_ 24 _ rfl; (with_reducible repeat (first | refine blk_drewN ?_ _ | refine blk_drew ?_ | refine blk_alloc ?_ _)); exact aN.out) bh.out⟩; have hL : Aside0 (pl.heap[eu]? = some (.cells #[.string db, .int .i64 bx, .int .i64 dc, .bool false] 60 (0, 0))) := ⟨sS_.blk Z89 az.out⟩; have lz : Aside0 (Below w.heap.size w pl) := ⟨sS_.below Z21 bf.out⟩; clear hbS_ sS_; replace HO_103021 := bl; replace fZ := bm; replace aa := bI; replace aN := dU; replace dh := hL; replace HB := lz; clear bl bm bI dU hL lz))
              refine bodyPost_ret (results_ctt rfl _ _ ab 25 #[.int .i64 5, .int .i64 0, .int .i64 0, .string ⟨#[]⟩, .int .i64 0, .int .i64 0, .string ⟨#[]⟩, .int .i64 0, .int .i64 0, .string ⟨#[]⟩, .int .i64 0, .string ⟨#[]⟩, .int .i64 0, .int .i64 0, .int .i64 0, .int .i64 (wrap64 ((bt a0 1) / 128)), .int .i64 0, .int .i64 0, .int .i64 0, .string ⟨#[]⟩, .string ⟨#[]⟩, .slice mX bN.length mY, .int .i64 0, .string ⟨#[]⟩, .slice lZ cb.length ma] (0, 0) _ rfl Z2 Try.underlying25 rfl Z14) rfl ?_
              exact ⟨_, _, Z5, Z45, by (with_reducible repeat (first | apply Kd.R_alloc | apply Kd.R_drewN | apply Kd.R_drew)); exact fZ.out, Z21⟩
             ·rw [if_neg pC] at H
              have si : (gQ == 0) = false := beq_eq_false_iff_ne.mpr pC
              have sj : (gQ != 0) = true := bne_iff_ne.mpr pC
              simp only [Option.some.injEq, Prod.mk.injEq] at H
              obtain ⟨rfl, rfl, rfl, rfl, rfl, rfl, rfl, rfl, rfl, rfl, rfl, rfl, rfl, rfl, rfl, rfl, rfl, rfl, rfl, rfl, rfl, rfl, rfl, rfl, rfl, rfl, rfl⟩ := H
              have hnb77 := az.out
              have hnc77 := dI.out
              have hnb78 := fm.out
              have hnc78 := dJ.out
              have hcz79 := cells_4 dh.out
              try go_wp2_with (first | ((with_reducible refine gate_dst (N := 37) rfl ?_); refine Pre.build_event 37 25 [(0, Go.Operand.const (Go.Value.int Go.IntKind.i64 5)), (15, Go.Operand.tmp 36)] rfl rfl rfl (rerr_Get.bd37 _ _) ?_) | ((with_reducible refine Pre.gate_load 25 rfl ?_); (try (refine gate_guard Z22 ?_; dsimp only)); refine Pre.load_event rfl rfl rfl Z22 Z11 Try.underlying25 rfl Z14 ?_) | ((with_reducible refine gate_callee (f := 59) rfl ?_); refine goesL_ (some 78) rfl rfl Try.func59 Z14 rfl #[.string (a0.extract (bx : Int).toNat a0.size)] rfl Z4 ?_; (with_reducible refine (ext_Get.calls k1 (a0.extract (bx : Int).toNat a0.size) cb es gQ _ um.out).mono ?_); rintro e ud ⟨sk, rfl, ho0, hb⟩; refine ⟨_, rfl, ?_⟩; have fZ := Aside0.mk (Kd.R_lower ho0 (below_size Z21)); replace HO_103021 := Aside0.mk (Kd.R_below Z45 hb); replace aa := Aside0.mk (blk_below (g := ab) Z2 hb); replace aN := Aside0.mk (blk_below (g := aJ) Z19 hb); replace dh := Aside0.mk (blk_below (g := eu) (o := .cells #[.string db, .int .i64 bx, .int .i64 dc, .bool false] 60 (0, 0)) Z51 hb); replace HB := Aside0.mk (below_step Z21 hb); clear hb ho0))
              have bl := Aside0.mk (Kd.R_drew HO_103021.out)
              have bm := Aside0.mk (Kd.R_drew fZ.out)
              have bI := Aside0.mk (blk_drew aa.out)
              have dU := Aside0.mk (blk_drew aN.out)
              have hL := Aside0.mk (blk_drew dh.out)
              have lz := Aside0.mk (below_drew1 HB.out)
              clear HO_103021
              clear fZ
              clear aa
              clear aN
              clear dh
              clear HB
              have HO_103021 := bl
              have fZ := bm
              have aa := bI
              have aN := dU
              have dh := hL
              have HB := lz
              clear bl bm bI dU hL lz
              refine start_ (n := 9) (S := fun w' => w'.cell? ⟨eu, 0, none⟩ = some (.string db) ∧ w'.cell? ⟨eu, 1, none⟩ = some (.int .i64 bx) ∧ w'.cell? ⟨eu, 2, none⟩ = some (.int .i64 dc) ∧ w'.cell? ⟨eu, 3, none⟩ = some (.bool false)) (ds := []) (Sq.b 9 0) Z14 rfl rfl ⟨Sq.bc dh 0, Sq.bc dh 1, Sq.bc dh 2, Sq.bc dh 3⟩ (fun hHeld => ?_); refine with_tabW rerr_Get.tab20 rerr_Get.bits20 (fun HT_ HW_ => ?_)
              generalize ud.drew = ue at HO_103021 fZ aa aN dh HB hHeld ⊢
              refine Sq.pur 0 (some 84) (Sq.b 9 1) HT_.out ?_
              refine Sq.pur 1 (some 85) (Sq.b 9 3) HT_.out ?_
              refine Sq.pur 3 (some 87) (Sq.b 9 11) HT_.out ?_
              refine Sq.pur 5 (some 89) (Sq.b 9 43) HT_.out ?_
              refine Sq.tak 2 (some 86) (Sq.b 9 47) HT_.out HW_.out hHeld (v := ?_) (a' := ?_) ?_ ?_ ?_
              rotate_left
              ·rintro w' ⟨s0, s1, s2, s3⟩
               first | (refine Eq.trans (Pre.load_run (ty := 25) rfl Z22 Z87 Try.underlying25 rfl Z14) ?_; with_reducible rfl) | (go_simp; with_reducible rfl)
              rotate_left
              ·simp only [Act.put, Sq.s1, Sq.s2, Sq.s3, i64_w, i32_w]
               rfl
              refine Sq.pur 4 (some 88) (Sq.b 9 63) HT_.out ?_
              refine one_ (i := 6) (N := none) (Sq.b 9 127) rfl rfl (one_of HT_.out Z14) Z27 (fun K hK => ?_)
              refine skip_ (w1 := ?_) Z22 rfl ?_ ?_
              rotate_left
              ·refine Eq.trans (Pre.store_run rfl Z22 Z22 aa.out Z14 Z22 Z22) ?_
               rfl
              refine hK.out _ _ ⟨((cell_far (p := ⟨ab, _, none⟩) az.out _).trans (((cell_far (p := ⟨ab, _, none⟩) az.out _).trans (((cell_far (p := ⟨ab, _, none⟩) az.out _).trans (((cell_far (p := ⟨ab, _, none⟩) az.out _).trans (((cell_far (p := ⟨ab, _, none⟩) az.out _).trans (((cell_far (p := ⟨ab, _, none⟩) az.out _).trans (((cell_far (p := ⟨ab, _, none⟩) az.out _).trans (((cell_far (p := ⟨ab, _, none⟩) az.out _).trans (((cell_far (p := ⟨ab, _, none⟩) az.out _).trans (((cell_far (p := ⟨ab, _, none⟩) az.out _).trans (((cell_far (p := ⟨ab, _, none⟩) az.out _).trans (((cell_far (p := ⟨ab, _, none⟩) az.out _).trans (((cell_far (p := ⟨ab, _, none⟩) az.out _).trans (((cell_far (p := ⟨ab, _, none⟩) az.out _).trans (((cell_far (p := ⟨ab, _, none⟩) az.out _).trans (((cell_far (p := ⟨ab, _, none⟩) az.out _).trans (((cell_far (p := ⟨ab, _, none⟩) az.out _).trans (((cell_far (p := ⟨ab, _, none⟩) az.out _).trans (((cell_far (p := ⟨ab, _, none⟩) az.out _).trans (((cell_far (p := ⟨ab, _, none⟩) az.out _).trans (((cell_far (p := ⟨ab, _, none⟩) az.out _).trans (((cell_far (p := ⟨ab, _, none⟩) az.out _).trans (((cell_far (p := ⟨ab, _, none⟩) az.out _).trans (((cell_far (p := ⟨ab, _, none⟩) az.out _).trans (((cell_far (p := ⟨ab, _, none⟩) az.out _).trans (hHeld.1)))))))))))))))))))))))))))))))))))))))))))))))))), ((cell_far (p := ⟨ab, _, none⟩) az.out _).trans (((cell_far (p := ⟨ab, _, none⟩) az.out _).trans (((cell_far (p := ⟨ab, _, none⟩) az.out _).trans (((cell_far (p := ⟨ab, _, none⟩) az.out _).trans (((cell_far (p := ⟨ab, _, none⟩) az.out _).trans (((cell_far (p := ⟨ab, _, none⟩) az.out _).trans (((cell_far (p := ⟨ab, _, none⟩) az.out _).trans (((cell_far (p := ⟨ab, _, none⟩) az.out _).trans (((cell_far (p := ⟨ab, _, none⟩) az.out _).trans (((cell_far (p := ⟨ab, _, none⟩) az.out _).trans (((cell_far (p := ⟨ab, _, none⟩) az.out _).trans (((cell_far (p := ⟨ab, _, none⟩) az.out _).trans (((cell_far (p := ⟨ab, _, none⟩) az.out _).trans (((cell_far (p := ⟨ab, _, none⟩) az.out _).trans (((cell_far (p := ⟨ab, _, none⟩) az.out _).trans (((cell_far (p := ⟨ab, _, none⟩) az.out _).trans (((cell_far (p := ⟨ab, _, none⟩) az.out _).trans (((cell_far (p := ⟨ab, _, none⟩) az.out _).trans (((cell_far (p := ⟨ab, _, none⟩) az.out _).trans (((cell_far (p := ⟨ab, _, none⟩) az.out _).trans (((cell_far (p := ⟨ab, _, none⟩) az.out _).trans (((cell_far (p := ⟨ab, _, none⟩) az.out _).trans (((cell_far (p := ⟨ab, _, none⟩) az.out _).trans (((cell_far (p := ⟨ab, _, none⟩) az.out _).trans (((cell_far (p := ⟨ab, _, none⟩) az.out _).trans (hHeld.2.1)))))))))))))))))))))))))))))))))))))))))))))))))), ((cell_far (p := ⟨ab, _, none⟩) az.out _).trans (((cell_far (p := ⟨ab, _, none⟩) az.out _).trans (((cell_far (p := ⟨ab, _, none⟩) az.out _).trans (((cell_far (p := ⟨ab, _, none⟩) az.out _).trans (((cell_far (p := ⟨ab, _, none⟩) az.out _).trans (((cell_far (p := ⟨ab, _, none⟩) az.out _).trans (((cell_far (p := ⟨ab, _, none⟩) az.out _).trans (((cell_far (p := ⟨ab, _, none⟩) az.out _).trans (((cell_far (p := ⟨ab, _, none⟩) az.out _).trans (((cell_far (p := ⟨ab, _, none⟩) az.out _).trans (((cell_far (p := ⟨ab, _, none⟩) az.out _).trans (((cell_far (p := ⟨ab, _, none⟩) az.out _).trans (((cell_far (p := ⟨ab, _, none⟩) az.out _).trans (((cell_far (p := ⟨ab, _, none⟩) az.out _).trans (((cell_far (p := ⟨ab, _, none⟩) az.out _).trans (((cell_far (p := ⟨ab, _, none⟩) az.out _).trans (((cell_far (p := ⟨ab, _, none⟩) az.out _).trans (((cell_far (p := ⟨ab, _, none⟩) az.out _).trans (((cell_far (p := ⟨ab, _, none⟩) az.out _).trans (((cell_far (p := ⟨ab, _, none⟩) az.out _).trans (((cell_far (p := ⟨ab, _, none⟩) az.out _).trans (((cell_far (p := ⟨ab, _, none⟩) az.out _).trans (((cell_far (p := ⟨ab, _, none⟩) az.out _).trans (((cell_far (p := ⟨ab, _, none⟩) az.out _).trans (((cell_far (p := ⟨ab, _, none⟩) az.out _).trans (hHeld.2.2.1)))))))))))))))))))))))))))))))))))))))))))))))))), ((cell_far (p := ⟨ab, _, none⟩) az.out _).trans (((cell_far (p := ⟨ab, _, none⟩) az.out _).trans (((cell_far (p := ⟨ab, _, none⟩) az.out _).trans (((cell_far (p := ⟨ab, _, none⟩) az.out _).trans (((cell_far (p := ⟨ab, _, none⟩) az.out _).trans (((cell_far (p := ⟨ab, _, none⟩) az.out _).trans (((cell_far (p := ⟨ab, _, none⟩) az.out _).trans (((cell_far (p := ⟨ab, _, none⟩) az.out _).trans (((cell_far (p := ⟨ab, _, none⟩) az.out _).trans (((cell_far (p := ⟨ab, _, none⟩) az.out _).trans (((cell_far (p := ⟨ab, _, none⟩) az.out _).trans (((cell_far (p := ⟨ab, _, none⟩) az.out _).trans (((cell_far (p := ⟨ab, _, none⟩) az.out _).trans (((cell_far (p := ⟨ab, _, none⟩) az.out _).trans (((cell_far (p := ⟨ab, _, none⟩) az.out _).trans (((cell_far (p := ⟨ab, _, none⟩) az.out _).trans (((cell_far (p := ⟨ab, _, none⟩) az.out _).trans (((cell_far (p := ⟨ab, _, none⟩) az.out _).trans (((cell_far (p := ⟨ab, _, none⟩) az.out _).trans (((cell_far (p := ⟨ab, _, none⟩) az.out _).trans (((cell_far (p := ⟨ab, _, none⟩) az.out _).trans (((cell_far (p := ⟨ab, _, none⟩) az.out _).trans (((cell_far (p := ⟨ab, _, none⟩) az.out _).trans (((cell_far (p := ⟨ab, _, none⟩) az.out _).trans (((cell_far (p := ⟨ab, _, none⟩) az.out _).trans (hHeld.2.2.2))))))))))))))))))))))))))))))))))))))))))))))))))⟩ (fun hHeld => ?_)
              clear hK K
              refine Sq.pur 7 (some 3) (Sq.b 9 255) HT_.out ?_
              refine Sq.pur 8 (some 4) (Sq.b 9 511) HT_.out ?_
              refine done_ (done_of HT_.out Z14) ?_
              refine Pre.abs_end (g := ab) (t := 25) (cs := #[.int .i64 0, .int .i64 0, .int .i64 0, .string ⟨#[]⟩, .int .i64 0, .int .i64 0, .string ⟨#[]⟩, .int .i64 0, .int .i64 0, .string ⟨#[]⟩, .int .i64 0, .string ⟨#[]⟩, .int .i64 0, .int .i64 0, .int .i64 0, .int .i64 0, .int .i64 0, .int .i64 0, .int .i64 0, .string ⟨#[]⟩, .string ⟨#[]⟩, .slice none 0 0, .int .i64 0, .string ⟨#[]⟩, .slice none 0 0]) (cells := #[.int .i64 0, .int .i64 0, .int .i64 0, .string ⟨#[]⟩, .int .i64 0, .int .i64 0, .string ⟨#[]⟩, .int .i64 0, .int .i64 0, .string ⟨#[]⟩, .int .i64 0, .string ⟨#[]⟩, .int .i64 0, .int .i64 0, .int .i64 0, .int .i64 0, .int .i64 0, .int .i64 0, .int .i64 0, .string ⟨#[]⟩, .string ⟨#[]⟩, .slice none 0 0, .int .i64 0, .string ⟨#[]⟩, .slice none 0 0]) Z2 Z22 ?_
              intro lh hbS_ sS_
              replace hbS_ := Aside0.mk hbS_
              replace sS_ : Aside0 (Pre.Sets ab ue lh) := ⟨⟨sS_.os, sS_.tape, sS_.output, sS_.size, sS_.block⟩⟩
              have bl : Aside0 (Kd.R k46 46 lh w.heap.size (fun _ => True) u103021 bN) := ⟨Kd.R_mono (Pre.R_sets sS_.out (Kd.R_types HO_103021.out aa.out Z27) (fun _ hk => hk.2)) (fun _ hk => trivial)⟩
              have bm : Aside0 (Kd.R k48 48 lh w.heap.size (fun _ => True) sk cb) := ⟨Kd.R_mono (Pre.R_sets sS_.out (Kd.R_types fZ.out aa.out Z27) (fun _ hk => hk.2)) (fun _ hk => trivial)⟩
              have bI : Aside0 (lh.heap[ab]? = some (.cells #[.int .i64 0, .int .i64 0, .int .i64 0, .string ⟨#[]⟩, .int .i64 0, .int .i64 0, .string ⟨#[]⟩, .int .i64 0, .int .i64 0, .string ⟨#[]⟩, .int .i64 0, .string ⟨#[]⟩, .int .i64 0, .int .i64 0, .int .i64 0, .int .i64 0, .int .i64 0, .int .i64 0, .int .i64 0, .string ⟨#[]⟩, .string ⟨#[]⟩, .slice none 0 0, .int .i64 0, .string ⟨#[]⟩, .slice none 0 0] 25 (0, 0))) := ⟨hbS_.out⟩
              have dU : Aside0 (lh.heap[aJ]? = some (.cells #[.int .i64 5, .int .i64 0, .int .i64 0, .string ⟨#[]⟩, .int .i64 0, .int .i64 0, .string ⟨#[]⟩, .int .i64 0, .int .i64 0, .string ⟨#[]⟩, .int .i64 0, .string ⟨#[]⟩, .int .i64 0, .int .i64 0, .int .i64 0, .int .i64 (wrap64 ((bt a0 1) / 128)), .int .i64 0, .int .i64 0, .int .i64 0, .string ⟨#[]⟩, .string ⟨#[]⟩, u103021, .int .i64 0, .string ⟨#[]⟩, .slice none 0 0] 25 (0, 0))) := ⟨sS_.out.blk Z19 bh.out⟩
              have hL : Aside0 (lh.heap[eu]? = some (.cells #[.string db, .int .i64 bx, .int .i64 dc, .bool false] 60 (0, 0))) := ⟨sS_.out.blk Z51 az.out⟩
              have lz : Aside0 (Below w.heap.size w lh) := ⟨sS_.out.below Z21 bf.out⟩
              clear hbS_ sS_
              (try clear HO_103021)
              (try clear fZ)
              (try clear aa)
              (try clear aN)
              (try clear dh)
              (try clear HB)
              have HO_103021 := bl
              have fZ := bm
              have aa := bI
              have aN := dU
              have dh := hL
              have HB := lz
              clear bl bm bI dU hL lz
              try go_wp2_with (first | ((with_reducible refine gate_dst (N := 37) rfl ?_); refine Pre.build_event 37 25 [(0, Go.Operand.const (Go.Value.int Go.IntKind.i64 5)), (15, Go.Operand.tmp 36)] rfl rfl rfl (rerr_Get.bd37 _ _) ?_) | ((with_reducible refine Pre.gate_load 25 rfl ?_); (try (refine gate_guard Z22 ?_; dsimp only)); refine Pre.load_event rfl rfl rfl Z22 Z11 Try.underlying25 rfl Z14 ?_))
              refine bodyPost_ret (results_ctt rfl _ _ ab 25 #[.int .i64 0, .int .i64 0, .int .i64 0, .string ⟨#[]⟩, .int .i64 0, .int .i64 0, .string ⟨#[]⟩, .int .i64 0, .int .i64 0, .string ⟨#[]⟩, .int .i64 0, .string ⟨#[]⟩, .int .i64 0, .int .i64 0, .int .i64 0, .int .i64 0, .int .i64 0, .int .i64 0, .int .i64 0, .string ⟨#[]⟩, .string ⟨#[]⟩, .slice none 0 0, .int .i64 0, .string ⟨#[]⟩, .slice none 0 0] (0, 0) _ rfl Z2 Try.underlying25 rfl Z14) rfl ?_
              exact ⟨_, _, Z5, Z7, Z20, Z21⟩
            ·rw [if_neg sg] at H
             exact absurd H Z59
           ·rw [if_neg sf] at H
            exact absurd H Z59
     ·rw [if_neg dK] at H
      exact absurd H Z59
    ·rw [if_neg en] at H
     have eP : ((Go.bits .or .u8 (Go.bits .and .u8 (bt a0 1) 127) (bt a0 2)) == 0) = false := beq_eq_false_iff_ne.mpr en
     have fv : ((Go.bits .or .u8 (Go.bits .and .u8 (bt a0 1) 127) (bt a0 2)) != 0) = true := bne_iff_ne.mpr en
     simp only [Option.some.injEq, Prod.mk.injEq] at H
     obtain ⟨rfl, rfl, rfl, rfl, rfl, rfl, rfl, rfl, rfl, rfl, rfl, rfl, rfl, rfl, rfl, rfl, rfl, rfl, rfl, rfl, rfl, rfl, rfl, rfl, rfl, rfl, rfl⟩ := H
     go_enter Try.func30, Try.ntmps30
     try go_wp2_with (first | ((with_reducible refine gate_dst (N := 37) rfl ?_); refine Pre.build_event 37 25 [(0, Go.Operand.const (Go.Value.int Go.IntKind.i64 5)), (15, Go.Operand.tmp 36)] rfl rfl rfl (rerr_Get.bd37 _ _) ?_) | ((with_reducible refine Pre.gate_load 25 rfl ?_); (try (refine gate_guard Z22 ?_; dsimp only)); refine Pre.load_event rfl rfl rfl Z22 Z11 Try.underlying25 rfl Z14 ?_) | ((with_reducible refine gate_dst (N := 2) rfl ?_); refine Sq.box 2 #[.int .i64 0, .int .i64 0, .int .i64 0, .string ⟨#[]⟩, .int .i64 0, .int .i64 0, .string ⟨#[]⟩, .int .i64 0, .int .i64 0, .string ⟨#[]⟩, .int .i64 0, .string ⟨#[]⟩, .int .i64 0, .int .i64 0, .int .i64 0, .int .i64 0, .int .i64 0, .int .i64 0, .int .i64 0, .string ⟨#[]⟩, .string ⟨#[]⟩, .slice none 0 0, .int .i64 0, .string ⟨#[]⟩, .slice none 0 0] 25 ?_; intro ab hg tu hbox hb; have aa := Aside0.mk (hbox); have bR := Aside0.mk (Sq.ge hg Z1); have bf := Aside0.mk (Sq.ge hg Z1); replace HB := Aside0.mk (below_step Z1 hb); clear hb hbox hg))
     have bl := Aside0.mk (blk_drew aa.out)
     have bm := Aside0.mk (below_drew1 HB.out)
     clear aa
     clear HB
     have aa := bl
     have HB := bm
     clear bl bm
     have p7 : 0 ≤ (1 : Int) := Z34
     have q7 : 1 < a0.size := (by have : (1 : Int) < (a0.size : Int) := of_decide_eq_true Z6; omega)
     have hx7 : ∀ h : 1 < a0.size, ((a0[1]'h).toNat : Int) = bt a0 1 := bt_at a0 1
     clear p7
     have qi7 : (1 < (a0.size : Int)) = True := eq_true (of_decide_eq_true Z6)
     replace q7 := eq_true q7
     have p9 : 0 ≤ (2 : Int) := Z34
     have q9 : 2 < a0.size := (by have : (2 : Int) < (a0.size : Int) := of_decide_eq_true Z6; omega)
     have hx9 : ∀ h : 2 < a0.size, ((a0[2]'h).toNat : Int) = bt a0 2 := bt_at a0 2
     clear p9
     have qi9 : (2 < (a0.size : Int)) = True := eq_true (of_decide_eq_true Z6)
     replace q9 := eq_true q9
     refine start_ (n := 8) (S := fun w' => True) (ds := []) (Sq.b 8 0) Z14 rfl rfl trivial (fun hHeld => ?_); refine with_tabW rerr_Get.tab3 rerr_Get.bits3 (fun HT_ HW_ => ?_)
     generalize tu.drew = w109 at aa HB hHeld ⊢
     refine Sq.pur 0 (some 20) (Sq.b 8 1) HT_.out ?_
     refine Sq.pur 3 (some 23) (Sq.b 8 9) HT_.out ?_
     refine Sq.tak 1 (some 21) (Sq.b 8 11) HT_.out HW_.out hHeld (v := ?_) (a' := ?_) ?_ ?_ ?_
     rotate_left
     ·rintro w' s0
      first | (refine Eq.trans (Pre.load_run (ty := 25) rfl Z22 Z87 Try.underlying25 rfl Z14) ?_; with_reducible rfl) | (go_simp; with_reducible rfl)
     rotate_left
     ·simp only [Act.put, Sq.s1, Sq.s2, Sq.s3, i64_w, i32_w]
      rfl
     refine Sq.pur 2 (some 22) (Sq.b 8 15) HT_.out ?_
     refine Sq.tak 4 (some 24) (Sq.b 8 31) HT_.out HW_.out hHeld (v := ?_) (a' := ?_) ?_ ?_ ?_
     rotate_left
     ·rintro w' s0
      first | (refine Eq.trans (Pre.load_run (ty := 25) rfl Z22 Z87 Try.underlying25 rfl Z14) ?_; with_reducible rfl) | (go_simp; with_reducible rfl)
     rotate_left
     ·simp only [Act.put, Sq.s1, Sq.s2, Sq.s3, i64_w, i32_w]
      rfl
     refine Sq.pur 5 (some 25) (Sq.b 8 63) HT_.out ?_
     refine Sq.pur 6 (some 26) (Sq.b 8 127) HT_.out ?_
     refine Sq.pur 7 (some 19) (Sq.b 8 255) HT_.out ?_
     refine done_ (done_of HT_.out Z14) ?_
     have hcz110 := cells_25 aa.out
     try go_wp2_with (first | ((with_reducible refine gate_dst (N := 37) rfl ?_); refine Pre.build_event 37 25 [(0, Go.Operand.const (Go.Value.int Go.IntKind.i64 5)), (15, Go.Operand.tmp 36)] rfl rfl rfl (rerr_Get.bd37 _ _) ?_) | ((with_reducible refine Pre.gate_load 25 rfl ?_); (try (refine gate_guard Z22 ?_; dsimp only)); refine Pre.load_event rfl rfl rfl Z22 Z11 Try.underlying25 rfl Z14 ?_) | ((with_reducible refine Pre.gate_store 25 rfl ?_); refine Pre.store_abs (cur := #[.int .i64 0, .int .i64 0, .int .i64 0, .string ⟨#[]⟩, .int .i64 0, .int .i64 0, .string ⟨#[]⟩, .int .i64 0, .int .i64 0, .string ⟨#[]⟩, .int .i64 0, .string ⟨#[]⟩, .int .i64 0, .int .i64 0, .int .i64 0, .int .i64 0, .int .i64 0, .int .i64 0, .int .i64 0, .string ⟨#[]⟩, .string ⟨#[]⟩, .slice none 0 0, .int .i64 0, .string ⟨#[]⟩, .slice none 0 0]) (e := 25) rfl rfl rfl Z22 Z22 Z2 Z14 Z22 Z22 ?_; intro sl hbS_ sS_; have bl : Aside0 (sl.heap[ab]? = some (.cells #[.int .i64 0, .int .i64 0, .int .i64 0, .string ⟨#[]⟩, .int .i64 0, .int .i64 0, .string ⟨#[]⟩, .int .i64 0, .int .i64 0, .string ⟨#[]⟩, .int .i64 0, .string ⟨#[]⟩, .int .i64 0, .int .i64 0, .int .i64 0, .int .i64 0, .int .i64 0, .int .i64 0, .int .i64 0, .string ⟨#[]⟩, .string ⟨#[]⟩, .slice none 0 0, .int .i64 0, .string ⟨#[]⟩, .slice none 0 0] 25 (0, 0))) := ⟨hbS_⟩; have bm : Aside0 (Below w.heap.size w sl) := ⟨sS_.below Z0 bf.out⟩; clear hbS_ sS_; replace aa := bl; replace HB := bm; clear bl bm))
     refine bodyPost_ret (results_ctt rfl _ _ ab 25 #[.int .i64 0, .int .i64 0, .int .i64 0, .string ⟨#[]⟩, .int .i64 0, .int .i64 0, .string ⟨#[]⟩, .int .i64 0, .int .i64 0, .string ⟨#[]⟩, .int .i64 0, .string ⟨#[]⟩, .int .i64 0, .int .i64 0, .int .i64 0, .int .i64 0, .int .i64 0, .int .i64 0, .int .i64 0, .string ⟨#[]⟩, .string ⟨#[]⟩, .slice none 0 0, .int .i64 0, .string ⟨#[]⟩, .slice none 0 0] (0, 0) _ rfl Z2 Try.underlying25 rfl Z14) rfl ?_
     exact ⟨_, _, Z5, Z7, Z20, Z0⟩
   ·rw [if_neg c8] at H
    exact absurd H Z59
  ·rw [if_neg c6] at H
   exact absurd H Z59

end Go.Proofs.Ytccjakjjaemmkaa.PAP
