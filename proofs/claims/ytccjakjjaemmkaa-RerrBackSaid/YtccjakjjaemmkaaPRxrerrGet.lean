-- Written by mp.py, a program of this work (wip/tools), out of the translation; Lean checks it.
import Derived.Test.YtccjakjjaemmkaaPRxZ
import Derived.Test.YtccjakjjaemmkaaPRxcursor
import Derived.Test.YtccjakjjaemmkaaPRxext
import Derived.Test.YtccjakjjaemmkaaAbs
import Derived.Test.YtccjakjjaemmkaaLoad
namespace Go.Proofs.Ytccjakjjaemmkaa.PR
open Go.RowKit Go.Proofs.YtccjakjjaemmkaaW.PrintWords Go.Proofs.YtccjakjjaemmkaaW.PrintLast Go.Proofs.YtccjakjjaemmkaaW.PrintMore
attribute [local go_sem] max2_int min2_int max_two min_two max_three min_three max_four min_four   -- for this text's walks alone
set_option linter.unusedVariables false
set_option linter.unusedSimpArgs false

/-! ### rerr_Get: function 30 -/
def rerr_Get.l0 : Nat → ByteArray → Int → Int → Int → Int → Int → ByteArray → Int → Int → ByteArray → Int → Int → ByteArray → Int → ByteArray → Int → Int → Int → Int → Int → Int → Int → ByteArray → ByteArray → List (S46) → Int → ByteArray → ByteArray → Int → Int → Bool → Option (Int × Int × Int × ByteArray × Int × Int × ByteArray × Int × Int × ByteArray × Int × ByteArray × Int × Int × Int × Int × Int × Int × Int × ByteArray × ByteArray × (List (S46)) × Int × ByteArray × (List (S48)) × Int × Int)
 | 0, _, _, _, _, _, _, _, _, _, _, _, _, _, _, _, _, _, _, _, _, _, _, _, _, _, _, _, _, _, _, _ => none
 | k + 1, x0, wB, wC, eK, eL, eM, eN, eO, eP, eQ, eR, eS, eT, eU, et, eu, ev, ew, ex, ey, ez, eA, eB, eC, dZ, eD, eE, pQ, jW, pR, nm => if wC < wB then ((cursor_Text.f pQ jW pR nm 4).bind fun mq => ((cursor_Num.f mq.2.1 mq.2.2.1 mq.2.2.2.1 mq.2.2.2.2 4).bind fun jm => (if dZ.length < 5864062014805 then (rerr_Get.l0 k x0 wB (wrap64 (wC + 1)) eK eL eM eN eO eP eQ eR eS eT eU et eu ev ew ex ey ez eA eB eC (dZ ++ [(⟨mq.1, jm.1⟩ : S46)]) eD eE jm.2.1 jm.2.2.1 jm.2.2.2.1 jm.2.2.2.2) else (none)))) else (if nm = true then (some (0, 0, 0, (⟨#[]⟩ : ByteArray), 0, 0, (⟨#[]⟩ : ByteArray), 0, 0, (⟨#[]⟩ : ByteArray), 0, (⟨#[]⟩ : ByteArray), 0, 0, 0, 0, 0, 0, 0, (⟨#[]⟩ : ByteArray), (⟨#[]⟩ : ByteArray), ([] : List (S46)), 0, (⟨#[]⟩ : ByteArray), ([] : List (S48)), (x0.size : Int), 2)) else (if 0 ≤ jW then (if jW ≤ (x0.size : Int) then ((ext_Get.f k (x0.extract (jW : Int).toNat x0.size)).bind fun jX => (if jX.2.2 = 0 then (some (eK, eL, eM, eN, eO, eP, eQ, eR, eS, eT, eU, et, eu, ev, ew, ex, ey, ez, eA, eB, eC, dZ, eD, eE, jX.1, 0, 0)) else (some (0, 0, 0, (⟨#[]⟩ : ByteArray), 0, 0, (⟨#[]⟩ : ByteArray), 0, 0, (⟨#[]⟩ : ByteArray), 0, (⟨#[]⟩ : ByteArray), 0, 0, 0, 0, 0, 0, 0, (⟨#[]⟩ : ByteArray), (⟨#[]⟩ : ByteArray), ([] : List (S46)), 0, (⟨#[]⟩ : ByteArray), ([] : List (S48)), wrap64 (jW + jX.2.1), jX.2.2)))) else (none)) else (none)))
def rerr_Get.f (k : Nat) (a0 : ByteArray) : Option (Int × Int × Int × ByteArray × Int × Int × ByteArray × Int × Int × ByteArray × Int × ByteArray × Int × Int × Int × Int × Int × Int × Int × ByteArray × ByteArray × (List (S46)) × Int × ByteArray × (List (S48)) × Int × Int) := if (a0.size : Int) < 4 then (some (0, 0, 0, (⟨#[]⟩ : ByteArray), 0, 0, (⟨#[]⟩ : ByteArray), 0, 0, (⟨#[]⟩ : ByteArray), 0, (⟨#[]⟩ : ByteArray), 0, 0, 0, 0, 0, 0, 0, (⟨#[]⟩ : ByteArray), (⟨#[]⟩ : ByteArray), ([] : List (S46)), 0, (⟨#[]⟩ : ByteArray), ([] : List (S48)), (a0.size : Int), 2)) else (if 1 < (a0.size : Int) then (if 2 < (a0.size : Int) then (if (Go.bits .or .u8 (Go.bits .and .u8 (bt a0 1) 127) (bt a0 2)) = 0 then (if 3 < (a0.size : Int) then (if (bt a0 3) = 0 then (some (0, 0, 0, (⟨#[]⟩ : ByteArray), 0, 0, (⟨#[]⟩ : ByteArray), 0, 0, (⟨#[]⟩ : ByteArray), 0, (⟨#[]⟩ : ByteArray), 0, 0, 0, 0, 0, 0, 0, (⟨#[]⟩ : ByteArray), (⟨#[]⟩ : ByteArray), ([] : List (S46)), 0, (⟨#[]⟩ : ByteArray), ([] : List (S48)), 3, 8)) else ((cursor_New.f a0).bind fun bW => ((cursor_Text.f bW.1 bW.2.1 bW.2.2.1 bW.2.2.2 4).bind fun bn => (rerr_Get.l0 k a0 (wrap64 (bt a0 3)) 0 5 0 0 (⟨#[]⟩ : ByteArray) 0 0 (⟨#[]⟩ : ByteArray) 0 0 (⟨#[]⟩ : ByteArray) 0 (⟨#[]⟩ : ByteArray) 0 0 0 (wrap64 ((bt a0 1) / 128)) 0 0 0 (⟨#[]⟩ : ByteArray) (⟨#[]⟩ : ByteArray) ([] : List (S46)) 0 (⟨#[]⟩ : ByteArray) bn.2.1 bn.2.2.1 bn.2.2.2.1 bn.2.2.2.2)))) else (none)) else (some (0, 0, 0, (⟨#[]⟩ : ByteArray), 0, 0, (⟨#[]⟩ : ByteArray), 0, 0, (⟨#[]⟩ : ByteArray), 0, (⟨#[]⟩ : ByteArray), 0, 0, 0, 0, 0, 0, 0, (⟨#[]⟩ : ByteArray), (⟨#[]⟩ : ByteArray), ([] : List (S46)), 0, (⟨#[]⟩ : ByteArray), ([] : List (S48)), 1, 5))) else (none)) else (none))
theorem rerr_Get.mono_l : ∀ k, (∀ y0 y1 y2 y3 y4 y5 y6 y7 y8 y9 fi fj fk fl fm fn fo fp fq fr fs ft fu fv fw fx hH jk kj pb pc, LeO (rerr_Get.l0 k y0 y1 y2 y3 y4 y5 y6 y7 y8 y9 fi fj fk fl fm fn fo fp fq fr fs ft fu fv fw fx hH jk kj pb pc) (rerr_Get.l0 (k + 1) y0 y1 y2 y3 y4 y5 y6 y7 y8 y9 fi fj fk fl fm fn fo fp fq fr fs ft fu fv fw fx hH jk kj pb pc))
 | 0 => fun _ _ _ _ _ _ _ _ _ _ _ _ _ _ _ _ _ _ _ _ _ _ _ _ _ _ _ _ _ _ _ r h => by simp [rerr_Get.l0] at h
 | k + 1 => by
  have ih0 := rerr_Get.mono_l k
  ·intro y0 y1 y2 y3 y4 y5 y6 y7 y8 y9 fi fj fk fl fm fn fo fp fq fr fs ft fu fv fw fx hH jk kj pb pc
   unfold rerr_Get.l0
   repeat' first
   | (with_reducible exact ih0 ..)
   | (with_reducible exact ext_Get.mono _ _)
   | (with_reducible exact LeO.refl _)
   | (with_reducible exact LeO.none _)
   | (with_reducible refine LeO.ite ?_ ?_)
   | (with_reducible refine LeO.bind ?_ (fun _ => ?_))
   | exact ih0 ..
   | exact ext_Get.mono _ _
   | exact LeO.none _
   | refine LeO.ite ?_ ?_
   | refine LeO.bind ?_ (fun _ => ?_)
theorem rerr_Get.mono : ∀ a0 k, LeO (rerr_Get.f k a0) (rerr_Get.f (k + 1) a0) := by
 intro a0 k
 have ih0 := rerr_Get.mono_l k
 unfold rerr_Get.f
 repeat' first
   | (with_reducible exact ih0 ..)
   | (with_reducible exact ext_Get.mono _ _)
   | (with_reducible exact LeO.refl _)
   | (with_reducible exact LeO.none _)
   | (with_reducible refine LeO.ite ?_ ?_)
   | (with_reducible refine LeO.bind ?_ (fun _ => ?_))
   | exact ih0 ..
   | exact ext_Get.mono _ _
   | exact LeO.none _
   | refine LeO.ite ?_ ?_
   | refine LeO.bind ?_ (fun _ => ?_)
def rerr_Get.T3 : Bool × List (List Nat × List Nat) := (true, [([], []), ([0], [0]), ([1], [1]), ([], []), ([3], [3]), ([2, 4], [2, 4]), ([5], [5]), ([6], [6])])
def rerr_Get.B3 : List Nat := [0, 1, 3, 0, 8, 31, 63, 127]
theorem rerr_Get.tab3 : rtab .any (opsOf Try.f30 3) = rerr_Get.T3 := by kernel_rfl
theorem rerr_Get.bits3 : waitsOk rerr_Get.T3.2 rerr_Get.B3 = true := by kernel_rfl
def rerr_Get.T20 : Bool × List (List Nat × List Nat) := (true, [([], []), ([], []), ([1], [1]), ([], []), ([2, 3], [2, 3]), ([], []), ([0, 0], [0]), ([4, 6, 0, 1, 2, 3, 4, 6], [4]), ([5, 7, 0, 1, 2, 3, 4, 5, 6, 7], [5])])
def rerr_Get.B20 : List Nat := [0, 0, 2, 0, 14, 0, 1, 95, 255]
theorem rerr_Get.tab20 : rtab .any (opsOf Try.f30 20) = rerr_Get.T20 := by kernel_rfl
theorem rerr_Get.bits20 : waitsOk rerr_Get.T20.2 rerr_Get.B20 = true := by kernel_rfl
set_option maxRecDepth 100000 in
theorem rerr_Get.bd37 (v0 : Int) (kd : Int) : Try.prog.built 25 [(0, .int .i64 v0), (15, .int .i64 kd)] = some #[.int .i64 v0, .int .i64 0, .int .i64 0, .string ⟨#[]⟩, .int .i64 0, .int .i64 0, .string ⟨#[]⟩, .int .i64 0, .int .i64 0, .string ⟨#[]⟩, .int .i64 0, .string ⟨#[]⟩, .int .i64 0, .int .i64 0, .int .i64 0, .int .i64 kd, .int .i64 0, .int .i64 0, .int .i64 0, .string ⟨#[]⟩, .string ⟨#[]⟩, .slice none 0 0, .int .i64 0, .string ⟨#[]⟩, .slice none 0 0] := by kernel_rfl
set_option maxHeartbeats 8000000 in
set_option maxRecDepth 100000 in
theorem rerr_Get.calls (k : Nat) (a0 : ByteArray) (r1 : Int) (r2 : Int) (r3 : Int) (r4 : ByteArray) (r5 : Int) (r6 : Int) (r7 : ByteArray) (r8 : Int) (r9 : Int) (r10 : ByteArray) (r11 : Int) (r12 : ByteArray) (r13 : Int) (r14 : Int) (r15 : Int) (r16 : Int) (r17 : Int) (r18 : Int) (r19 : Int) (r20 : ByteArray) (r21 : ByteArray) (r22 : List (S46)) (r23 : Int) (r24 : ByteArray) (r25 : List (S48)) (r26 : Int) (r27 : Int) (w : World) (h : rerr_Get.f k a0 = some (r1, r2, r3, r4, r5, r6, r7, r8, r9, r10, r11, r12, r13, r14, r15, r16, r17, r18, r19, r20, r21, r22, r23, r24, r25, r26, r27)) :
  Calls Try.prog 30 #[.string a0] w fun e w' => ∃ v21_ v24_ : Value, e = .returned (.tuple #[.agg #[.int .i64 r1, .int .i64 r2, .int .i64 r3, .string r4, .int .i64 r5, .int .i64 r6, .string r7, .int .i64 r8, .int .i64 r9, .string r10, .int .i64 r11, .string r12, .int .i64 r13, .int .i64 r14, .int .i64 r15, .int .i64 r16, .int .i64 r17, .int .i64 r18, .int .i64 r19, .string r20, .string r21, v21_, .int .i64 r23, .string r24, v24_], .int .i64 r26, .int .i64 r27]) ∧ Kd.R k46 46 w' w.heap.size (fun _ => True) v21_ r22 ∧ Kd.R k48 48 w' w.heap.size (fun _ => True) v24_ r25 ∧ Below w.heap.size w w' := by
 have gB := Try.underlying25
 have kZ := Try.underlying60
 have pa := Try.underlying46
 have HB := Aside0.mk (Below.refl w.heap.size w)
 have H : (if (a0.size : Int) < 4 then (some (0, 0, 0, (⟨#[]⟩ : ByteArray), 0, 0, (⟨#[]⟩ : ByteArray), 0, 0, (⟨#[]⟩ : ByteArray), 0, (⟨#[]⟩ : ByteArray), 0, 0, 0, 0, 0, 0, 0, (⟨#[]⟩ : ByteArray), (⟨#[]⟩ : ByteArray), ([] : List (S46)), 0, (⟨#[]⟩ : ByteArray), ([] : List (S48)), (a0.size : Int), 2)) else (if 1 < (a0.size : Int) then (if 2 < (a0.size : Int) then (if (Go.bits .or .u8 (Go.bits .and .u8 (bt a0 1) 127) (bt a0 2)) = 0 then (if 3 < (a0.size : Int) then (if (bt a0 3) = 0 then (some (0, 0, 0, (⟨#[]⟩ : ByteArray), 0, 0, (⟨#[]⟩ : ByteArray), 0, 0, (⟨#[]⟩ : ByteArray), 0, (⟨#[]⟩ : ByteArray), 0, 0, 0, 0, 0, 0, 0, (⟨#[]⟩ : ByteArray), (⟨#[]⟩ : ByteArray), ([] : List (S46)), 0, (⟨#[]⟩ : ByteArray), ([] : List (S48)), 3, 8)) else ((cursor_New.f a0).bind fun bW => ((cursor_Text.f bW.1 bW.2.1 bW.2.2.1 bW.2.2.2 4).bind fun bn => (rerr_Get.l0 k a0 (wrap64 (bt a0 3)) 0 5 0 0 (⟨#[]⟩ : ByteArray) 0 0 (⟨#[]⟩ : ByteArray) 0 0 (⟨#[]⟩ : ByteArray) 0 (⟨#[]⟩ : ByteArray) 0 0 0 (wrap64 ((bt a0 1) / 128)) 0 0 0 (⟨#[]⟩ : ByteArray) (⟨#[]⟩ : ByteArray) ([] : List (S46)) 0 (⟨#[]⟩ : ByteArray) bn.2.1 bn.2.2.1 bn.2.2.2.1 bn.2.2.2.2)))) else (none)) else (some (0, 0, 0, (⟨#[]⟩ : ByteArray), 0, 0, (⟨#[]⟩ : ByteArray), 0, 0, (⟨#[]⟩ : ByteArray), 0, (⟨#[]⟩ : ByteArray), 0, 0, 0, 0, 0, 0, 0, (⟨#[]⟩ : ByteArray), (⟨#[]⟩ : ByteArray), ([] : List (S46)), 0, (⟨#[]⟩ : ByteArray), ([] : List (S48)), 1, 5))) else (none)) else (none))) = some (r1, r2, r3, r4, r5, r6, r7, r8, r9, r10, r11, r12, r13, r14, r15, r16, r17, r18, r19, r20, r21, r22, r23, r24, r25, r26, r27) := h
 clear h
 by_cases c2 : (a0.size : Int) < 4
 ·rw [if_pos c2] at H
  have iq : decide ((a0.size : Int) < 4) = true := decide_eq_true c2
  have jE : decide (a0.size < 4) = true := decide_eq_true Z55
  clear c2
  simp only [Option.some.injEq, Prod.mk.injEq] at H
  obtain ⟨rfl, rfl, rfl, rfl, rfl, rfl, rfl, rfl, rfl, rfl, rfl, rfl, rfl, rfl, rfl, rfl, rfl, rfl, rfl, rfl, rfl, rfl, rfl, rfl, rfl, rfl, rfl⟩ := H
  go_enter Try.func30, Try.ntmps30
  go_wp2_with (first | ((with_reducible refine gate_dst (N := 37) rfl ?_); refine Pre.build_event 37 25 [(0, Go.Operand.const (Go.Value.int Go.IntKind.i64 5)), (15, Go.Operand.tmp 36)] rfl rfl rfl (rerr_Get.bd37 _ _) ?_) | ((with_reducible refine Pre.gate_load 25 rfl ?_); (try (refine gate_guard Z13 ?_; dsimp only)); refine Pre.load_event rfl rfl rfl Z13 Z17 Try.underlying25 rfl Z6 ?_) | ((with_reducible refine gate_dst (N := 2) rfl ?_); refine box_event ?hg (N := 2) ?hd (cs := #[.int .i64 0, .int .i64 0, .int .i64 0, .string ⟨#[]⟩, .int .i64 0, .int .i64 0, .string ⟨#[]⟩, .int .i64 0, .int .i64 0, .string ⟨#[]⟩, .int .i64 0, .string ⟨#[]⟩, .int .i64 0, .int .i64 0, .int .i64 0, .int .i64 0, .int .i64 0, .int .i64 0, .int .i64 0, .string ⟨#[]⟩, .string ⟨#[]⟩, .slice none 0 0, .int .i64 0, .string ⟨#[]⟩, .slice none 0 0]) (t := 25) ?hr ?_; (case hd => rfl); (case hg => rfl); (case hr => first | (go_simp; done) | (go_simp; rfl)); intro aa hg w3 hbox hb; have aG := Aside0.mk (below_step Z3 hb); have aH := Aside0.mk (hbox); have aI := Aside0.mk ((by rw [hg]; exact (below_size Z3) : w.heap.size ≤ aa)); have aZ := Aside0.mk ((by rw [hg]; exact (below_size Z3) : w.heap.size ≤ aa)); replace HB := aG; have ab := aH; have cl := aI; have bs := aZ; clear aG aH aI aZ; clear hb hbox hg; have lK := cells_25 ab.out) | ((with_reducible refine Pre.gate_store 25 rfl ?_); refine Pre.store_abs (cur := #[.int .i64 0, .int .i64 0, .int .i64 0, .string ⟨#[]⟩, .int .i64 0, .int .i64 0, .string ⟨#[]⟩, .int .i64 0, .int .i64 0, .string ⟨#[]⟩, .int .i64 0, .string ⟨#[]⟩, .int .i64 0, .int .i64 0, .int .i64 0, .int .i64 0, .int .i64 0, .int .i64 0, .int .i64 0, .string ⟨#[]⟩, .string ⟨#[]⟩, .slice none 0 0, .int .i64 0, .string ⟨#[]⟩, .slice none 0 0]) (e := 25) rfl rfl rfl Z13 Z13 Z1 Z6 Z13 Z13 ?_; intro w5 hbS_ sS_; have aG : Aside0 (w5.heap[aa]? = some (.cells #[.int .i64 0, .int .i64 0, .int .i64 0, .string ⟨#[]⟩, .int .i64 0, .int .i64 0, .string ⟨#[]⟩, .int .i64 0, .int .i64 0, .string ⟨#[]⟩, .int .i64 0, .string ⟨#[]⟩, .int .i64 0, .int .i64 0, .int .i64 0, .int .i64 0, .int .i64 0, .int .i64 0, .int .i64 0, .string ⟨#[]⟩, .string ⟨#[]⟩, .slice none 0 0, .int .i64 0, .string ⟨#[]⟩, .slice none 0 0] 25 (0, 0))) := ⟨hbS_⟩; have aH : Aside0 (Below w.heap.size w w5) := ⟨sS_.below Z0 bs.out⟩; clear hbS_ sS_; replace ab := aG; replace HB := aH; clear aG aH))
  refine bodyPost_ret (results_ctt rfl _ _ aa 25 #[.int .i64 0, .int .i64 0, .int .i64 0, .string ⟨#[]⟩, .int .i64 0, .int .i64 0, .string ⟨#[]⟩, .int .i64 0, .int .i64 0, .string ⟨#[]⟩, .int .i64 0, .string ⟨#[]⟩, .int .i64 0, .int .i64 0, .int .i64 0, .int .i64 0, .int .i64 0, .int .i64 0, .int .i64 0, .string ⟨#[]⟩, .string ⟨#[]⟩, .slice none 0 0, .int .i64 0, .string ⟨#[]⟩, .slice none 0 0] (0, 0) _ rfl Z1 Try.underlying25 rfl Z6) rfl ?_
  exact ⟨_, _, Z9, Z12, Z27, Z0⟩
 ·rw [if_neg c2] at H
  have iq : decide ((a0.size : Int) < 4) = false := decide_eq_false c2
  have jE : decide (a0.size < 4) = false := decide_eq_false Z55
  clear c2
  by_cases c6 : 1 < (a0.size : Int)
  ·rw [if_pos c6] at H
   have gZ : decide (1 < (a0.size : Int)) = true := decide_eq_true c6
   have ii : decide (1 < a0.size) = true := decide_eq_true Z55
   clear c6
   by_cases c8 : 2 < (a0.size : Int)
   ·rw [if_pos c8] at H
    have iG : decide (2 < (a0.size : Int)) = true := decide_eq_true c8
    have kt : decide (2 < a0.size) = true := decide_eq_true Z55
    clear c8
    by_cases cX : (Go.bits .or .u8 (Go.bits .and .u8 (bt a0 1) 127) (bt a0 2)) = 0
    ·rw [if_pos cX] at H
     have ff : ((Go.bits .or .u8 (Go.bits .and .u8 (bt a0 1) 127) (bt a0 2)) == 0) = true := beq_iff_eq.mpr cX
     have gG : ((Go.bits .or .u8 (Go.bits .and .u8 (bt a0 1) 127) (bt a0 2)) != 0) = false := bne_eq_false_iff_eq.mpr cX
     clear cX
     by_cases cU : 3 < (a0.size : Int)
     ·rw [if_pos cU] at H
      have fE : decide (3 < (a0.size : Int)) = true := decide_eq_true cU
      have hu : decide (3 < a0.size) = true := decide_eq_true Z55
      clear cU
      by_cases dB : (bt a0 3) = 0
      ·rw [if_pos dB] at H
       have gF : ((bt a0 3) == 0) = true := beq_iff_eq.mpr dB
       have ie : ((bt a0 3) != 0) = false := bne_eq_false_iff_eq.mpr dB
       clear dB
       simp only [Option.some.injEq, Prod.mk.injEq] at H
       obtain ⟨rfl, rfl, rfl, rfl, rfl, rfl, rfl, rfl, rfl, rfl, rfl, rfl, rfl, rfl, rfl, rfl, rfl, rfl, rfl, rfl, rfl, rfl, rfl, rfl, rfl, rfl, rfl⟩ := H
       go_enter Try.func30, Try.ntmps30
       try go_wp2_with (first | ((with_reducible refine gate_dst (N := 37) rfl ?_); refine Pre.build_event 37 25 [(0, Go.Operand.const (Go.Value.int Go.IntKind.i64 5)), (15, Go.Operand.tmp 36)] rfl rfl rfl (rerr_Get.bd37 _ _) ?_) | ((with_reducible refine Pre.gate_load 25 rfl ?_); (try (refine gate_guard Z13 ?_; dsimp only)); refine Pre.load_event rfl rfl rfl Z13 Z17 Try.underlying25 rfl Z6 ?_) | ((with_reducible refine gate_dst (N := 2) rfl ?_); refine box_event ?hg (N := 2) ?hd (cs := #[.int .i64 0, .int .i64 0, .int .i64 0, .string ⟨#[]⟩, .int .i64 0, .int .i64 0, .string ⟨#[]⟩, .int .i64 0, .int .i64 0, .string ⟨#[]⟩, .int .i64 0, .string ⟨#[]⟩, .int .i64 0, .int .i64 0, .int .i64 0, .int .i64 0, .int .i64 0, .int .i64 0, .int .i64 0, .string ⟨#[]⟩, .string ⟨#[]⟩, .slice none 0 0, .int .i64 0, .string ⟨#[]⟩, .slice none 0 0]) (t := 25) ?hr ?_; (case hd => rfl); (case hg => rfl); (case hr => first | (go_simp; done) | (go_simp; rfl)); intro aa hg mB hbox hb; have aG := Aside0.mk (below_step Z3 hb); have aH := Aside0.mk (hbox); have aI := Aside0.mk ((by rw [hg]; exact (below_size Z3) : w.heap.size ≤ aa)); have aZ := Aside0.mk ((by rw [hg]; exact (below_size Z3) : w.heap.size ≤ aa)); replace HB := aG; have ab := aH; have cl := aI; have bs := aZ; clear aG aH aI aZ; clear hb hbox hg))
       have aG := Aside0.mk (blk_drew ab.out)
       have aH := Aside0.mk (below_drew1 HB.out)
       clear ab
       clear HB
       have ab := aG
       have HB := aH
       clear aG aH
       have p7 : 0 ≤ (1 : Int) := Z55
       have q7 : 1 < a0.size := (by have : (1 : Int) < (a0.size : Int) := of_decide_eq_true Z10; omega)
       have hx7 : ∀ h : 1 < a0.size, ((a0[1]'h).toNat : Int) = bt a0 1 := bt_at a0 1
       clear p7
       have qi7 : (1 < (a0.size : Int)) = True := eq_true (of_decide_eq_true Z10)
       replace q7 := eq_true q7
       have p9 : 0 ≤ (2 : Int) := Z55
       have q9 : 2 < a0.size := (by have : (2 : Int) < (a0.size : Int) := of_decide_eq_true Z10; omega)
       have hx9 : ∀ h : 2 < a0.size, ((a0[2]'h).toNat : Int) = bt a0 2 := bt_at a0 2
       clear p9
       have qi9 : (2 < (a0.size : Int)) = True := eq_true (of_decide_eq_true Z10)
       replace q9 := eq_true q9
       refine start_ (n := 8) (S := fun w' => True) (ds := []) #[false, false, false, false, false, false, false, false] Z6 rfl rfl trivial (fun hHeld => ?_); refine with_tabW rerr_Get.tab3 rerr_Get.bits3 (fun HT_ HW_ => ?_)
       generalize mB.drew = pE at ab HB hHeld ⊢
       refine pure_ (i := 0) (N := some 20) (v := ?_) (a' := ?_) #[true, false, false, false, false, false, false, false] rfl rfl (any_of HT_.out Z6) (fun _ _ _ h => h) (Or.inl ⟨Z13, ?_⟩) ?_ ?_
       rotate_left
       ·intro w'
        go_simp
        with_reducible rfl
       rotate_left
       ·simp only [Act.put, List.setIfInBounds_toArray, List.set_cons_zero, List.set_cons_succ, i64_w, i32_w]
        rfl
       refine pure_ (i := 3) (N := some 23) (v := ?_) (a' := ?_) #[true, false, false, true, false, false, false, false] rfl rfl (any_of HT_.out Z6) (fun _ _ _ h => h) (Or.inl ⟨Z13, ?_⟩) ?_ ?_
       rotate_left
       ·intro w'
        go_simp
        with_reducible rfl
       rotate_left
       ·simp only [Act.put, List.setIfInBounds_toArray, List.set_cons_zero, List.set_cons_succ, i64_w, i32_w]
        rfl
       refine take_ (i := 1) (N := some 21) (v := ?_) (a' := ?_) #[true, true, false, true, false, false, false, false] rfl rfl (take_ofW HT_.out HW_.out Z6) (fun _ _ _ h => h) (Or.inl ⟨Z13, ?_⟩) hHeld ?_ ?_
       rotate_left
       ·rintro w' s0
        first | (refine Eq.trans (Pre.load_run (ty := 25) rfl Z13 s0 Try.underlying25 rfl Z6) ?_; with_reducible rfl) | (go_simp; with_reducible rfl)
       rotate_left
       ·simp only [Act.put, List.setIfInBounds_toArray, List.set_cons_zero, List.set_cons_succ, i64_w, i32_w]
        rfl
       refine pure_ (i := 2) (N := some 22) (v := ?_) (a' := ?_) #[true, true, true, true, false, false, false, false] rfl rfl (any_of HT_.out Z6) (fun _ _ _ h => h) (Or.inl ⟨Z13, ?_⟩) ?_ ?_
       rotate_left
       ·intro w'
        go_simp
        with_reducible rfl
       rotate_left
       ·simp only [Act.put, List.setIfInBounds_toArray, List.set_cons_zero, List.set_cons_succ, i64_w, i32_w]
        rfl
       refine take_ (i := 4) (N := some 24) (v := ?_) (a' := ?_) #[true, true, true, true, true, false, false, false] rfl rfl (take_ofW HT_.out HW_.out Z6) (fun _ _ _ h => h) (Or.inl ⟨Z13, ?_⟩) hHeld ?_ ?_
       rotate_left
       ·rintro w' s0
        first | (refine Eq.trans (Pre.load_run (ty := 25) rfl Z13 s0 Try.underlying25 rfl Z6) ?_; with_reducible rfl) | (go_simp; with_reducible rfl)
       rotate_left
       ·simp only [Act.put, List.setIfInBounds_toArray, List.set_cons_zero, List.set_cons_succ, i64_w, i32_w]
        rfl
       refine pure_ (i := 5) (N := some 25) (v := ?_) (a' := ?_) #[true, true, true, true, true, true, false, false] rfl rfl (any_of HT_.out Z6) (fun _ _ _ h => h) (Or.inl ⟨Z13, ?_⟩) ?_ ?_
       rotate_left
       ·intro w'
        go_simp
        with_reducible rfl
       rotate_left
       ·simp only [Act.put, List.setIfInBounds_toArray, List.set_cons_zero, List.set_cons_succ, i64_w, i32_w]
        rfl
       refine pure_ (i := 6) (N := some 26) (v := ?_) (a' := ?_) #[true, true, true, true, true, true, true, false] rfl rfl (any_of HT_.out Z6) (fun _ _ _ h => h) (Or.inl ⟨Z13, ?_⟩) ?_ ?_
       rotate_left
       ·intro w'
        go_simp
        with_reducible rfl
       rotate_left
       ·simp only [Act.put, List.setIfInBounds_toArray, List.set_cons_zero, List.set_cons_succ, i64_w, i32_w]
        rfl
       refine pure_ (i := 7) (N := some 19) (v := ?_) (a' := ?_) #[true, true, true, true, true, true, true, true] rfl rfl (any_of HT_.out Z6) (fun _ _ _ h => h) (Or.inl ⟨Z13, ?_⟩) ?_ ?_
       rotate_left
       ·intro w'
        go_simp
        with_reducible rfl
       rotate_left
       ·simp only [Act.put, List.setIfInBounds_toArray, List.set_cons_zero, List.set_cons_succ, i64_w, i32_w]
        rfl
       refine done_ (done_of HT_.out Z6) ?_
       have p12 : 0 ≤ (3 : Int) := Z55
       have q12 : 3 < a0.size := (by have : (3 : Int) < (a0.size : Int) := of_decide_eq_true Z10; omega)
       have hx12 : ∀ h : 3 < a0.size, ((a0[3]'h).toNat : Int) = bt a0 3 := bt_at a0 3
       clear p12
       have qi12 : (3 < (a0.size : Int)) = True := eq_true (of_decide_eq_true Z10)
       replace q12 := eq_true q12
       have ir := cells_25 ab.out
       try go_wp2_with (first | ((with_reducible refine gate_dst (N := 37) rfl ?_); refine Pre.build_event 37 25 [(0, Go.Operand.const (Go.Value.int Go.IntKind.i64 5)), (15, Go.Operand.tmp 36)] rfl rfl rfl (rerr_Get.bd37 _ _) ?_) | ((with_reducible refine Pre.gate_load 25 rfl ?_); (try (refine gate_guard Z13 ?_; dsimp only)); refine Pre.load_event rfl rfl rfl Z13 Z17 Try.underlying25 rfl Z6 ?_) | ((with_reducible refine Pre.gate_store 25 rfl ?_); refine Pre.store_abs (cur := #[.int .i64 0, .int .i64 0, .int .i64 0, .string ⟨#[]⟩, .int .i64 0, .int .i64 0, .string ⟨#[]⟩, .int .i64 0, .int .i64 0, .string ⟨#[]⟩, .int .i64 0, .string ⟨#[]⟩, .int .i64 0, .int .i64 0, .int .i64 0, .int .i64 0, .int .i64 0, .int .i64 0, .int .i64 0, .string ⟨#[]⟩, .string ⟨#[]⟩, .slice none 0 0, .int .i64 0, .string ⟨#[]⟩, .slice none 0 0]) (e := 25) rfl rfl rfl Z13 Z13 Z1 Z6 Z13 Z13 ?_; intro kz hbS_ sS_; have aG : Aside0 (kz.heap[aa]? = some (.cells #[.int .i64 0, .int .i64 0, .int .i64 0, .string ⟨#[]⟩, .int .i64 0, .int .i64 0, .string ⟨#[]⟩, .int .i64 0, .int .i64 0, .string ⟨#[]⟩, .int .i64 0, .string ⟨#[]⟩, .int .i64 0, .int .i64 0, .int .i64 0, .int .i64 0, .int .i64 0, .int .i64 0, .int .i64 0, .string ⟨#[]⟩, .string ⟨#[]⟩, .slice none 0 0, .int .i64 0, .string ⟨#[]⟩, .slice none 0 0] 25 (0, 0))) := ⟨hbS_⟩; have aH : Aside0 (Below w.heap.size w kz) := ⟨sS_.below Z0 bs.out⟩; clear hbS_ sS_; replace ab := aG; replace HB := aH; clear aG aH))
       refine bodyPost_ret (results_ctt rfl _ _ aa 25 #[.int .i64 0, .int .i64 0, .int .i64 0, .string ⟨#[]⟩, .int .i64 0, .int .i64 0, .string ⟨#[]⟩, .int .i64 0, .int .i64 0, .string ⟨#[]⟩, .int .i64 0, .string ⟨#[]⟩, .int .i64 0, .int .i64 0, .int .i64 0, .int .i64 0, .int .i64 0, .int .i64 0, .int .i64 0, .string ⟨#[]⟩, .string ⟨#[]⟩, .slice none 0 0, .int .i64 0, .string ⟨#[]⟩, .slice none 0 0] (0, 0) _ rfl Z1 Try.underlying25 rfl Z6) rfl ?_
       exact ⟨_, _, Z9, Z12, Z27, Z0⟩
      ·rw [if_neg dB] at H
       have gF : ((bt a0 3) == 0) = false := beq_eq_false_iff_ne.mpr dB
       have ie : ((bt a0 3) != 0) = true := bne_iff_ne.mpr dB
       replace H := Option.bind_eq_some_iff.mp H
       obtain ⟨⟨bf, bc, bk, bm⟩, oi, H⟩ := H
       replace H : ((cursor_Text.f bf bc bk bm 4).bind fun bn => (rerr_Get.l0 k a0 (wrap64 (bt a0 3)) 0 5 0 0 (⟨#[]⟩ : ByteArray) 0 0 (⟨#[]⟩ : ByteArray) 0 0 (⟨#[]⟩ : ByteArray) 0 (⟨#[]⟩ : ByteArray) 0 0 0 (wrap64 ((bt a0 1) / 128)) 0 0 0 (⟨#[]⟩ : ByteArray) (⟨#[]⟩ : ByteArray) ([] : List (S46)) 0 (⟨#[]⟩ : ByteArray) bn.2.1 bn.2.2.1 bn.2.2.2.1 bn.2.2.2.2)) = some (r1, r2, r3, r4, r5, r6, r7, r8, r9, r10, r11, r12, r13, r14, r15, r16, r17, r18, r19, r20, r21, r22, r23, r24, r25, r26, r27) := H
       have vt := Aside0.mk oi
       clear oi
       replace H := Option.bind_eq_some_iff.mp H
       obtain ⟨⟨bp, aQ, aV, bi, cy⟩, kH, H⟩ := H
       replace H : (rerr_Get.l0 k a0 (wrap64 (bt a0 3)) 0 5 0 0 (⟨#[]⟩ : ByteArray) 0 0 (⟨#[]⟩ : ByteArray) 0 0 (⟨#[]⟩ : ByteArray) 0 (⟨#[]⟩ : ByteArray) 0 0 0 (wrap64 ((bt a0 1) / 128)) 0 0 0 (⟨#[]⟩ : ByteArray) (⟨#[]⟩ : ByteArray) ([] : List (S46)) 0 (⟨#[]⟩ : ByteArray) aQ aV bi cy) = some (r1, r2, r3, r4, r5, r6, r7, r8, r9, r10, r11, r12, r13, r14, r15, r16, r17, r18, r19, r20, r21, r22, r23, r24, r25, r26, r27) := H
       have gN := Aside0.mk kH
       clear kH
       have H' := Aside0.mk H
       clear H
       go_enter Try.func30, Try.ntmps30
       try go_wp2_with (first | ((with_reducible refine gate_dst (N := 37) rfl ?_); refine Pre.build_event 37 25 [(0, Go.Operand.const (Go.Value.int Go.IntKind.i64 5)), (15, Go.Operand.tmp 36)] rfl rfl rfl (rerr_Get.bd37 _ _) ?_) | ((with_reducible refine Pre.gate_load 25 rfl ?_); (try (refine gate_guard Z13 ?_; dsimp only)); refine Pre.load_event rfl rfl rfl Z13 Z17 Try.underlying25 rfl Z6 ?_) | ((with_reducible refine gate_dst (N := 2) rfl ?_); refine box_event ?hg (N := 2) ?hd (cs := #[.int .i64 0, .int .i64 0, .int .i64 0, .string ⟨#[]⟩, .int .i64 0, .int .i64 0, .string ⟨#[]⟩, .int .i64 0, .int .i64 0, .string ⟨#[]⟩, .int .i64 0, .string ⟨#[]⟩, .int .i64 0, .int .i64 0, .int .i64 0, .int .i64 0, .int .i64 0, .int .i64 0, .int .i64 0, .string ⟨#[]⟩, .string ⟨#[]⟩, .slice none 0 0, .int .i64 0, .string ⟨#[]⟩, .slice none 0 0]) (t := 25) ?hr ?_; (case hd => rfl); (case hg => rfl); (case hr => first | (go_simp; done) | (go_simp; rfl)); intro aa hg ij hbox hb; have aG := Aside0.mk (below_step Z3 hb); have aH := Aside0.mk (hbox); have aI := Aside0.mk ((by rw [hg]; exact (below_size Z3) : w.heap.size ≤ aa)); have aZ := Aside0.mk ((by rw [hg]; exact (below_size Z3) : w.heap.size ≤ aa)); replace HB := aG; have ab := aH; have cl := aI; have bs := aZ; clear aG aH aI aZ; clear hb hbox hg))
       have aG := Aside0.mk (blk_drew ab.out)
       have aH := Aside0.mk (below_drew1 HB.out)
       clear ab
       clear HB
       have ab := aG
       have HB := aH
       clear aG aH
       have p7 : 0 ≤ (1 : Int) := Z55
       have q7 : 1 < a0.size := (by have : (1 : Int) < (a0.size : Int) := of_decide_eq_true Z10; omega)
       have hx7 : ∀ h : 1 < a0.size, ((a0[1]'h).toNat : Int) = bt a0 1 := bt_at a0 1
       clear p7
       have qi7 : (1 < (a0.size : Int)) = True := eq_true (of_decide_eq_true Z10)
       replace q7 := eq_true q7
       have p9 : 0 ≤ (2 : Int) := Z55
       have q9 : 2 < a0.size := (by have : (2 : Int) < (a0.size : Int) := of_decide_eq_true Z10; omega)
       have hx9 : ∀ h : 2 < a0.size, ((a0[2]'h).toNat : Int) = bt a0 2 := bt_at a0 2
       clear p9
       have qi9 : (2 < (a0.size : Int)) = True := eq_true (of_decide_eq_true Z10)
       replace q9 := eq_true q9
       refine start_ (n := 8) (S := fun w' => True) (ds := []) #[false, false, false, false, false, false, false, false] Z6 rfl rfl trivial (fun hHeld => ?_); refine with_tabW rerr_Get.tab3 rerr_Get.bits3 (fun HT_ HW_ => ?_)
       generalize ij.drew = gn at ab HB hHeld ⊢
       refine pure_ (i := 0) (N := some 20) (v := ?_) (a' := ?_) #[true, false, false, false, false, false, false, false] rfl rfl (any_of HT_.out Z6) (fun _ _ _ h => h) (Or.inl ⟨Z13, ?_⟩) ?_ ?_
       rotate_left
       ·intro w'
        go_simp
        with_reducible rfl
       rotate_left
       ·simp only [Act.put, List.setIfInBounds_toArray, List.set_cons_zero, List.set_cons_succ, i64_w, i32_w]
        rfl
       refine pure_ (i := 3) (N := some 23) (v := ?_) (a' := ?_) #[true, false, false, true, false, false, false, false] rfl rfl (any_of HT_.out Z6) (fun _ _ _ h => h) (Or.inl ⟨Z13, ?_⟩) ?_ ?_
       rotate_left
       ·intro w'
        go_simp
        with_reducible rfl
       rotate_left
       ·simp only [Act.put, List.setIfInBounds_toArray, List.set_cons_zero, List.set_cons_succ, i64_w, i32_w]
        rfl
       refine take_ (i := 1) (N := some 21) (v := ?_) (a' := ?_) #[true, true, false, true, false, false, false, false] rfl rfl (take_ofW HT_.out HW_.out Z6) (fun _ _ _ h => h) (Or.inl ⟨Z13, ?_⟩) hHeld ?_ ?_
       rotate_left
       ·rintro w' s0
        first | (refine Eq.trans (Pre.load_run (ty := 25) rfl Z13 s0 Try.underlying25 rfl Z6) ?_; with_reducible rfl) | (go_simp; with_reducible rfl)
       rotate_left
       ·simp only [Act.put, List.setIfInBounds_toArray, List.set_cons_zero, List.set_cons_succ, i64_w, i32_w]
        rfl
       refine pure_ (i := 2) (N := some 22) (v := ?_) (a' := ?_) #[true, true, true, true, false, false, false, false] rfl rfl (any_of HT_.out Z6) (fun _ _ _ h => h) (Or.inl ⟨Z13, ?_⟩) ?_ ?_
       rotate_left
       ·intro w'
        go_simp
        with_reducible rfl
       rotate_left
       ·simp only [Act.put, List.setIfInBounds_toArray, List.set_cons_zero, List.set_cons_succ, i64_w, i32_w]
        rfl
       refine take_ (i := 4) (N := some 24) (v := ?_) (a' := ?_) #[true, true, true, true, true, false, false, false] rfl rfl (take_ofW HT_.out HW_.out Z6) (fun _ _ _ h => h) (Or.inl ⟨Z13, ?_⟩) hHeld ?_ ?_
       rotate_left
       ·rintro w' s0
        first | (refine Eq.trans (Pre.load_run (ty := 25) rfl Z13 s0 Try.underlying25 rfl Z6) ?_; with_reducible rfl) | (go_simp; with_reducible rfl)
       rotate_left
       ·simp only [Act.put, List.setIfInBounds_toArray, List.set_cons_zero, List.set_cons_succ, i64_w, i32_w]
        rfl
       refine pure_ (i := 5) (N := some 25) (v := ?_) (a' := ?_) #[true, true, true, true, true, true, false, false] rfl rfl (any_of HT_.out Z6) (fun _ _ _ h => h) (Or.inl ⟨Z13, ?_⟩) ?_ ?_
       rotate_left
       ·intro w'
        go_simp
        with_reducible rfl
       rotate_left
       ·simp only [Act.put, List.setIfInBounds_toArray, List.set_cons_zero, List.set_cons_succ, i64_w, i32_w]
        rfl
       refine pure_ (i := 6) (N := some 26) (v := ?_) (a' := ?_) #[true, true, true, true, true, true, true, false] rfl rfl (any_of HT_.out Z6) (fun _ _ _ h => h) (Or.inl ⟨Z13, ?_⟩) ?_ ?_
       rotate_left
       ·intro w'
        go_simp
        with_reducible rfl
       rotate_left
       ·simp only [Act.put, List.setIfInBounds_toArray, List.set_cons_zero, List.set_cons_succ, i64_w, i32_w]
        rfl
       refine pure_ (i := 7) (N := some 19) (v := ?_) (a' := ?_) #[true, true, true, true, true, true, true, true] rfl rfl (any_of HT_.out Z6) (fun _ _ _ h => h) (Or.inl ⟨Z13, ?_⟩) ?_ ?_
       rotate_left
       ·intro w'
        go_simp
        with_reducible rfl
       rotate_left
       ·simp only [Act.put, List.setIfInBounds_toArray, List.set_cons_zero, List.set_cons_succ, i64_w, i32_w]
        rfl
       refine done_ (done_of HT_.out Z6) ?_
       have p12 : 0 ≤ (3 : Int) := Z55
       have q12 : 3 < a0.size := (by have : (3 : Int) < (a0.size : Int) := of_decide_eq_true Z10; omega)
       have hx12 : ∀ h : 3 < a0.size, ((a0[3]'h).toNat : Int) = bt a0 3 := bt_at a0 3
       clear p12
       have qi12 : (3 < (a0.size : Int)) = True := eq_true (of_decide_eq_true Z10)
       replace q12 := eq_true q12
       have p18 : 0 ≤ (1 : Int) := Z55
       have q18 : 1 < a0.size := (by have : (1 : Int) < (a0.size : Int) := of_decide_eq_true Z10; omega)
       have hx18 : ∀ h : 1 < a0.size, ((a0[1]'h).toNat : Int) = bt a0 1 := bt_at a0 1
       clear p18
       have qi18 : (1 < (a0.size : Int)) = True := eq_true (of_decide_eq_true Z10)
       replace q18 := eq_true q18
       try go_wp2_with (first | ((with_reducible refine gate_dst (N := 37) rfl ?_); refine Pre.build_event 37 25 [(0, Go.Operand.const (Go.Value.int Go.IntKind.i64 5)), (15, Go.Operand.tmp 36)] rfl rfl rfl (rerr_Get.bd37 _ _) ?_) | ((with_reducible refine Pre.gate_load 25 rfl ?_); (try (refine gate_guard Z13 ?_; dsimp only)); refine Pre.load_event rfl rfl rfl Z13 Z17 Try.underlying25 rfl Z6 ?_) | ((with_reducible refine gate_dst (N := 5) rfl ?_); refine box_event ?hg (N := 5) ?hd (cs := #[.int .i64 0, .int .i64 0, .int .i64 0, .string ⟨#[]⟩, .int .i64 0, .int .i64 0, .string ⟨#[]⟩, .int .i64 0, .int .i64 0, .string ⟨#[]⟩, .int .i64 0, .string ⟨#[]⟩, .int .i64 0, .int .i64 0, .int .i64 0, .int .i64 0, .int .i64 0, .int .i64 0, .int .i64 0, .string ⟨#[]⟩, .string ⟨#[]⟩, .slice none 0 0, .int .i64 0, .string ⟨#[]⟩, .slice none 0 0]) (t := 25) ?hr ?_; (case hd => rfl); (case hg => rfl); (case hr => first | (go_simp; done) | (go_simp; rfl)); intro aU hg ed hbox hb; have aG := Aside0.mk (blk_below (g := aa) Z1 hb); have aH := Aside0.mk (below_step Z0 hb); have aI := Aside0.mk (hbox); have aZ := Aside0.mk ((by rw [hg]; exact (below_size Z0) : w.heap.size ≤ aU)); have bH := Aside0.mk ((by rw [hg]; exact (below_size Z0) : w.heap.size ≤ aU)); have cx := Aside0.mk ((by rw [hg]; exact Nat.ne_of_lt (blk_lt (g := aa) Z1) : aa ≠ aU)); have du := Aside0.mk ((by rw [hg]; exact Nat.ne_of_gt (blk_lt (g := aa) Z1) : aU ≠ aa)); replace ab := aG; replace HB := aH; have aX := aI; have iA := aZ; have gS := bH; have bo := cx; have cc := du; clear aG aH aI aZ bH cx du; clear hb hbox hg; have pd := cc.out; have pe := bo.out; have iO := cells_25 aX.out) | ((with_reducible refine Pre.gate_store 25 rfl ?_); refine Pre.store_abs (cur := #[.int .i64 0, .int .i64 0, .int .i64 0, .string ⟨#[]⟩, .int .i64 0, .int .i64 0, .string ⟨#[]⟩, .int .i64 0, .int .i64 0, .string ⟨#[]⟩, .int .i64 0, .string ⟨#[]⟩, .int .i64 0, .int .i64 0, .int .i64 0, .int .i64 0, .int .i64 0, .int .i64 0, .int .i64 0, .string ⟨#[]⟩, .string ⟨#[]⟩, .slice none 0 0, .int .i64 0, .string ⟨#[]⟩, .slice none 0 0]) (e := 25) rfl rfl rfl Z13 Z13 Z26 Z6 Z13 Z13 ?_; intro iy hbS_ sS_; have aG : Aside0 (iy.heap[aa]? = some (.cells #[.int .i64 0, .int .i64 0, .int .i64 0, .string ⟨#[]⟩, .int .i64 0, .int .i64 0, .string ⟨#[]⟩, .int .i64 0, .int .i64 0, .string ⟨#[]⟩, .int .i64 0, .string ⟨#[]⟩, .int .i64 0, .int .i64 0, .int .i64 0, .int .i64 0, .int .i64 0, .int .i64 0, .int .i64 0, .string ⟨#[]⟩, .string ⟨#[]⟩, .slice none 0 0, .int .i64 0, .string ⟨#[]⟩, .slice none 0 0] 25 (0, 0))) := ⟨sS_.blk Z1 bo.out⟩; have aH : Aside0 (iy.heap[aU]? = some (.cells #[.int .i64 5, .int .i64 0, .int .i64 0, .string ⟨#[]⟩, .int .i64 0, .int .i64 0, .string ⟨#[]⟩, .int .i64 0, .int .i64 0, .string ⟨#[]⟩, .int .i64 0, .string ⟨#[]⟩, .int .i64 0, .int .i64 0, .int .i64 0, .int .i64 (wrap64 ((bt a0 1) / 128)), .int .i64 0, .int .i64 0, .int .i64 0, .string ⟨#[]⟩, .string ⟨#[]⟩, .slice none 0 0, .int .i64 0, .string ⟨#[]⟩, .slice none 0 0] 25 (0, 0))) := ⟨hbS_⟩; have aI : Aside0 (Below w.heap.size w iy) := ⟨sS_.below Z15 gS.out⟩; clear hbS_ sS_; replace ab := aG; replace aX := aH; replace HB := aI; clear aG aH aI) | ((with_reducible refine gate_callee (f := 61) rfl ?_); refine goesL_ (some 40) rfl rfl Try.func61 Z6 rfl #[.string a0] rfl Z5 ?_; (with_reducible refine (cursor_New.calls a0 bf bc bk bm _ vt.out).mono ?_); rintro e nl ⟨rfl, hb⟩; refine ⟨_, rfl, ?_⟩; have aG := Aside0.mk (blk_below (g := aa) Z1 hb); have aH := Aside0.mk (blk_below (g := aU) Z26 hb); have aI := Aside0.mk (below_step Z15 hb); replace ab := aG; replace aX := aH; replace HB := aI; clear aG aH aI; (try clear hb); (try clear hb2); (try clear hk); (try clear hi)) | ((with_reducible refine gate_callee (f := 60) rfl ?_); refine goesL_ (some 41) rfl rfl Try.func60 Z6 rfl #[.agg #[.string bf, .int .i64 bc, .int .i64 bk, .bool bm], .int .i64 4] rfl Z5 ?_; (with_reducible refine (cursor_Text.calls bf bc bk bm 4 bp aQ aV bi cy _ gN.out).mono ?_); rintro e hX ⟨rfl, hb⟩; refine ⟨_, rfl, ?_⟩; have aG := Aside0.mk (blk_below (g := aa) Z1 hb); have aH := Aside0.mk (blk_below (g := aU) Z26 hb); have aI := Aside0.mk (below_step Z15 hb); replace ab := aG; replace aX := aH; replace HB := aI; clear aG aH aI; (try clear hb); (try clear hb2); (try clear hk); (try clear hi)) | ((with_reducible refine gate_dst (N := 7) rfl ?_); refine box_event ?hg (N := 7) ?hd (cs := #[.string ⟨#[]⟩, .int .i64 0, .int .i64 0, .bool false]) (t := 60) ?hr ?_; (case hd => rfl); (case hg => rfl); (case hr => first | (go_simp; done) | (go_simp; rfl)); intro eY hg gM hbox hb; have aG := Aside0.mk (blk_below (g := aa) Z1 hb); have aH := Aside0.mk (blk_below (g := aU) Z26 hb); have aI := Aside0.mk (below_step Z15 hb); have aZ := Aside0.mk (hbox); have bH := Aside0.mk ((by rw [hg]; exact (below_size Z15) : w.heap.size ≤ eY)); have cx := Aside0.mk ((by rw [hg]; exact (below_size Z15) : w.heap.size ≤ eY)); have du := Aside0.mk ((by rw [hg]; exact Nat.ne_of_lt (blk_lt (g := aa) Z1) : aa ≠ eY)); have gE := Aside0.mk ((by rw [hg]; exact Nat.ne_of_gt (blk_lt (g := aa) Z1) : eY ≠ aa)); have hC := Aside0.mk ((by rw [hg]; exact Nat.ne_of_lt (blk_lt (g := aU) Z26) : aU ≠ eY)); have jL := Aside0.mk ((by rw [hg]; exact Nat.ne_of_gt (blk_lt (g := aU) Z26) : eY ≠ aU)); replace ab := aG; replace aX := aH; replace HB := aI; have en := aZ; have GW112 := bH; have qE := cx; have eZ := du; have aW := gE; have fa := hC; have io := jL; clear aG aH aI aZ bH cx du gE hC jL; clear hb hbox hg; have tv := aW.out; have tw := eZ.out; have hnb32 := io.out; have hnc32 := fa.out; have lv := cells_4 en.out; have p21 : 0 ≤ (3 : Int) := Z55; have q21 : 3 < a0.size := (by have : (3 : Int) < (a0.size : Int) := of_decide_eq_true Z10; omega); have hx21 : ∀ h : 3 < a0.size, ((a0[3]'h).toNat : Int) = bt a0 3 := bt_at a0 3; clear p21; have qi21 : (3 < (a0.size : Int)) = True := eq_true (of_decide_eq_true Z10); replace q21 := eq_true q21))
       go_loopg [47] k (fun kq xa w' => ∃ (jB : Int) (dc : List (S46)) (ee : ByteArray) (ct : Int) (ef : Int) (gu : Bool) (u103021 : Value), xa = .int .i64 jB ∧ Aside0 (rerr_Get.l0 kq a0 (wrap64 (bt a0 3)) jB 5 0 0 (⟨#[]⟩ : ByteArray) 0 0 (⟨#[]⟩ : ByteArray) 0 0 (⟨#[]⟩ : ByteArray) 0 (⟨#[]⟩ : ByteArray) 0 0 0 (wrap64 ((bt a0 1) / 128)) 0 0 0 (⟨#[]⟩ : ByteArray) (⟨#[]⟩ : ByteArray) dc 0 (⟨#[]⟩ : ByteArray) ee ct ef gu = some (r1, r2, r3, r4, r5, r6, r7, r8, r9, r10, r11, r12, r13, r14, r15, r16, r17, r18, r19, r20, r21, r22, r23, r24, r25, r26, r27)) ∧ Aside0 (kq ≤ k) ∧ Aside0 (Kd.R k46 46 w' w.heap.size (fun _ => True) u103021 dc) ∧ Aside0 (w'.heap[aa]? = some (.cells #[.int .i64 0, .int .i64 0, .int .i64 0, .string ⟨#[]⟩, .int .i64 0, .int .i64 0, .string ⟨#[]⟩, .int .i64 0, .int .i64 0, .string ⟨#[]⟩, .int .i64 0, .string ⟨#[]⟩, .int .i64 0, .int .i64 0, .int .i64 0, .int .i64 0, .int .i64 0, .int .i64 0, .int .i64 0, .string ⟨#[]⟩, .string ⟨#[]⟩, (.slice none 0 0), .int .i64 0, .string ⟨#[]⟩, (.slice none 0 0)] 25 (0, 0))) ∧ Aside0 (w'.heap[aU]? = some (.cells #[.int .i64 5, .int .i64 0, .int .i64 0, .string ⟨#[]⟩, .int .i64 0, .int .i64 0, .string ⟨#[]⟩, .int .i64 0, .int .i64 0, .string ⟨#[]⟩, .int .i64 0, .string ⟨#[]⟩, .int .i64 0, .int .i64 0, .int .i64 0, .int .i64 (wrap64 ((bt a0 1) / 128)), .int .i64 0, .int .i64 0, .int .i64 0, .string ⟨#[]⟩, .string ⟨#[]⟩, u103021, .int .i64 0, .string ⟨#[]⟩, (.slice none 0 0)] 25 (0, 0))) ∧ Aside0 (w'.heap[eY]? = some (.cells #[.string ee, .int .i64 ct, .int .i64 ef, .bool gu] 60 (0, 0))) ∧ Aside0 (Below w.heap.size w w'))
       case atStart => exact ⟨(0), (([] : List (S46))), (aQ), (aV), (bi), (cy), (.slice none 0 0), Z14, H', ⟨Nat.le_refl _⟩, ⟨Z12⟩, ⟨by (with_reducible repeat (first | refine blk_drewN ?_ _ | refine blk_drew ?_ | refine blk_alloc ?_ _)); refine blk_far ?_ eZ.out _; (with_reducible repeat (first | refine blk_drewN ?_ _ | refine blk_drew ?_ | refine blk_alloc ?_ _)); refine blk_far ?_ eZ.out _; (with_reducible repeat (first | refine blk_drewN ?_ _ | refine blk_drew ?_ | refine blk_alloc ?_ _)); refine blk_far ?_ eZ.out _; (with_reducible repeat (first | refine blk_drewN ?_ _ | refine blk_drew ?_ | refine blk_alloc ?_ _)); refine blk_far ?_ eZ.out _; (with_reducible repeat (first | refine blk_drewN ?_ _ | refine blk_drew ?_ | refine blk_alloc ?_ _)); exact ab.out⟩, ⟨by (with_reducible repeat (first | refine blk_drewN ?_ _ | refine blk_drew ?_ | refine blk_alloc ?_ _)); refine blk_far ?_ fa.out _; (with_reducible repeat (first | refine blk_drewN ?_ _ | refine blk_drew ?_ | refine blk_alloc ?_ _)); refine blk_far ?_ fa.out _; (with_reducible repeat (first | refine blk_drewN ?_ _ | refine blk_drew ?_ | refine blk_alloc ?_ _)); refine blk_far ?_ fa.out _; (with_reducible repeat (first | refine blk_drewN ?_ _ | refine blk_drew ?_ | refine blk_alloc ?_ _)); refine blk_far ?_ fa.out _; (with_reducible repeat (first | refine blk_drewN ?_ _ | refine blk_drew ?_ | refine blk_alloc ?_ _)); exact aX.out⟩, ⟨by (with_reducible repeat (first | refine blk_drewN ?_ _ | refine blk_drew ?_ | refine blk_alloc ?_ _)); apply blk_puts4; (with_reducible repeat (first | refine blk_drewN ?_ _ | refine blk_drew ?_ | refine blk_alloc ?_ _)); exact en.out⟩, ⟨Z29⟩⟩
       case round =>
        clear H'
        try clear c1
        try clear p1
        try clear q1
        try clear hx1
        try clear qi1
        try clear c2
        try clear iq
        try clear jE
        try clear p2
        try clear q2
        try clear hx2
        try clear qi2
        try clear c3
        try clear c6
        try clear gZ
        try clear ii
        try clear p6
        try clear p7
        try clear q7
        try clear hx7
        try clear qi7
        try clear c8
        try clear iG
        try clear kt
        try clear p9
        try clear q9
        try clear hx9
        try clear qi9
        try clear cX
        try clear ff
        try clear gG
        try clear cU
        try clear fE
        try clear hu
        try clear p12
        try clear q12
        try clear hx12
        try clear qi12
        try clear dB
        try clear gF
        try clear ie
        try clear p18
        try clear q18
        try clear hx18
        try clear qi18
        try clear p21
        try clear q21
        try clear hx21
        try clear qi21
        try clear kf
        try clear la
        try clear jD
        try clear jv
        try clear ir
        try clear iO
        try clear lv
        try clear lK
        try clear p12
        try clear p18
        try clear p21
        try clear p7
        try clear p9
        try clear q12
        try clear q18
        try clear q21
        try clear q7
        try clear q9
        obtain ⟨jB, dc, ee, ct, ef, gu, u103021, rfl, HA, HK1, HO_103021, ab, aX, en, HB⟩ := hrel
        cases gk with
        | zero => exact absurd HA.out (by simp [rerr_Get.l0])
        | succ k1 =>
         have H := HA.out
         clear HA
         simp only [rerr_Get.l0] at H
         by_cases jf : jB < (wrap64 (bt a0 3))
         ·rw [if_pos jf] at H
          have ks : decide (jB < (wrap64 (bt a0 3))) = true := decide_eq_true jf
          clear jf
          replace H := Option.bind_eq_some_iff.mp H
          obtain ⟨⟨cj, cm, ce, cq, cg⟩, kJ, H⟩ := H
          replace H : ((cursor_Num.f cm ce cq cg 4).bind fun jm => (if dc.length < 5864062014805 then (rerr_Get.l0 k1 a0 (wrap64 (bt a0 3)) (wrap64 (jB + 1)) 5 0 0 (⟨#[]⟩ : ByteArray) 0 0 (⟨#[]⟩ : ByteArray) 0 0 (⟨#[]⟩ : ByteArray) 0 (⟨#[]⟩ : ByteArray) 0 0 0 (wrap64 ((bt a0 1) / 128)) 0 0 0 (⟨#[]⟩ : ByteArray) (⟨#[]⟩ : ByteArray) (dc ++ [(⟨cj, jm.1⟩ : S46)]) 0 (⟨#[]⟩ : ByteArray) jm.2.1 jm.2.2.1 jm.2.2.2.1 jm.2.2.2.2) else (none))) = some (r1, r2, r3, r4, r5, r6, r7, r8, r9, r10, r11, r12, r13, r14, r15, r16, r17, r18, r19, r20, r21, r22, r23, r24, r25, r26, r27) := H
          have pK := Aside0.mk kJ
          clear kJ
          replace H := Option.bind_eq_some_iff.mp H
          obtain ⟨⟨co, ck, cu, ch, cG⟩, tx, H⟩ := H
          replace H : (if dc.length < 5864062014805 then (rerr_Get.l0 k1 a0 (wrap64 (bt a0 3)) (wrap64 (jB + 1)) 5 0 0 (⟨#[]⟩ : ByteArray) 0 0 (⟨#[]⟩ : ByteArray) 0 0 (⟨#[]⟩ : ByteArray) 0 (⟨#[]⟩ : ByteArray) 0 0 0 (wrap64 ((bt a0 1) / 128)) 0 0 0 (⟨#[]⟩ : ByteArray) (⟨#[]⟩ : ByteArray) (dc ++ [(⟨cj, co⟩ : S46)]) 0 (⟨#[]⟩ : ByteArray) ck cu ch cG) else (none)) = some (r1, r2, r3, r4, r5, r6, r7, r8, r9, r10, r11, r12, r13, r14, r15, r16, r17, r18, r19, r20, r21, r22, r23, r24, r25, r26, r27) := H
          have xb := Aside0.mk tx
          clear tx
          by_cases pS : dc.length < 5864062014805
          ·rw [if_pos pS] at H
           have LMc37 := Aside0.mk pS
           clear pS
           obtain ⟨pT, hy124⟩ : ∃ y_ : List (S46), y_ = (dc ++ [(⟨cj, co⟩ : S46)]) := ⟨_, rfl⟩
           replace H : (rerr_Get.l0 k1 a0 (wrap64 (bt a0 3)) (wrap64 (jB + 1)) 5 0 0 (⟨#[]⟩ : ByteArray) 0 0 (⟨#[]⟩ : ByteArray) 0 0 (⟨#[]⟩ : ByteArray) 0 (⟨#[]⟩ : ByteArray) 0 0 0 (wrap64 ((bt a0 1) / 128)) 0 0 0 (⟨#[]⟩ : ByteArray) (⟨#[]⟩ : ByteArray) pT 0 (⟨#[]⟩ : ByteArray) ck cu ch cG) = some (r1, r2, r3, r4, r5, r6, r7, r8, r9, r10, r11, r12, r13, r14, r15, r16, r17, r18, r19, r20, r21, r22, r23, r24, r25, r26, r27) := by first | (rw [hy124]; with_reducible exact H) | (have H2_ := (Option.bind_some _ _).symm.trans H; rw [hy124]; with_reducible exact H2_) | (have H2_ := (Option.bind_some _ _).symm.trans H; with_reducible exact H2_) | with_reducible exact H | (rw [hy124]; exact H) | exact H
           have Ny124 := Aside0.mk hy124
           clear hy124
           have H' := Aside0.mk H
           clear H
           go_wp2_with (first | ((with_reducible refine gate_dst (N := 37) rfl ?_); refine Pre.build_event 37 25 [(0, Go.Operand.const (Go.Value.int Go.IntKind.i64 5)), (15, Go.Operand.tmp 36)] rfl rfl rfl (rerr_Get.bd37 _ _) ?_) | ((with_reducible refine Pre.gate_load 25 rfl ?_); (try (refine gate_guard Z13 ?_; dsimp only)); refine Pre.load_event rfl rfl rfl Z13 Z17 Try.underlying25 rfl Z6 ?_) | ((with_reducible refine gate_dst (N := 8) rfl ?_); refine box_event ?hg (N := 8) ?hd (cs := #[.string ⟨#[]⟩, .int .i64 0]) (t := 46) ?hr ?_; (case hd => rfl); (case hg => rfl); (case hr => first | (go_simp; done) | (go_simp; rfl)); intro gT hg kY hbox hb; have aG := Aside0.mk (Kd.R_below (Kd.R_elderB Z69 gT (Nat.le_of_eq hg.symm)) hb); have aH := Aside0.mk (blk_below (g := aa) Z1 hb); have aI := Aside0.mk (blk_below (g := aU) Z26 hb); have aZ := Aside0.mk (blk_below (g := eY) (o := .cells #[.string ee, .int .i64 ct, .int .i64 ef, .bool gu] 60 (0, 0)) Z80 hb); have bH := Aside0.mk (below_step Z29 hb); have cx := Aside0.mk (hbox); have du := Aside0.mk ((by rw [hg]; exact (below_size Z29) : w.heap.size ≤ gT)); have gE := Aside0.mk ((by rw [hg]; exact (below_size Z29) : w.heap.size ≤ gT)); have hC := Aside0.mk ((by rw [hg]; exact Nat.ne_of_lt (blk_lt (g := aa) Z1) : aa ≠ gT)); have jL := Aside0.mk ((by rw [hg]; exact Nat.ne_of_gt (blk_lt (g := aa) Z1) : gT ≠ aa)); have iL := Aside0.mk ((by rw [hg]; exact Nat.ne_of_lt (blk_lt (g := aU) Z26) : aU ≠ gT)); have tz := Aside0.mk ((by rw [hg]; exact Nat.ne_of_gt (blk_lt (g := aU) Z26) : gT ≠ aU)); have tA := Aside0.mk ((by rw [hg]; exact Nat.ne_of_lt (blk_lt (g := eY) (o := .cells #[.string ee, .int .i64 ct, .int .i64 ef, .bool gu] 60 (0, 0)) Z80) : eY ≠ gT)); have tB := Aside0.mk ((by rw [hg]; exact Nat.ne_of_gt (blk_lt (g := eY) (o := .cells #[.string ee, .int .i64 ct, .int .i64 ef, .bool gu] 60 (0, 0)) Z80) : gT ≠ eY)); replace HO_103021 := aG; replace ab := aH; replace aX := aI; replace en := aZ; replace HB := bH; have ig := cx; have GW113 := du; have tC := gE; have lC := hC; have nF := jL; have lD := iL; have nG := tz; have lE := tA; have gK := tB; clear aG aH aI aZ bH cx du gE hC jL iL tz tA tB; clear hb hbox hg; have hnb39 := aW.out; have hnc39 := eZ.out; have hnb40 := io.out; have hnc40 := fa.out; have tD := lE.out; have tE := gK.out; have tF := cells_4 en.out) | ((with_reducible refine gate_callee (f := 60) rfl ?_); refine goesL_ (some 51) rfl rfl Try.func60 Z6 rfl #[.agg #[.string ee, .int .i64 ct, .int .i64 ef, .bool gu], .int .i64 4] rfl Z5 ?_; (with_reducible refine (cursor_Text.calls ee ct ef gu 4 cj cm ce cq cg _ pK.out).mono ?_); rintro e ov ⟨rfl, hb⟩; refine ⟨_, rfl, ?_⟩; have aG := Aside0.mk (Kd.R_below Z69 hb); have aH := Aside0.mk (blk_below (g := aa) Z1 hb); have aI := Aside0.mk (blk_below (g := aU) Z26 hb); have aZ := Aside0.mk (blk_below (g := eY) (o := .cells #[.string ee, .int .i64 ct, .int .i64 ef, .bool gu] 60 (0, 0)) Z80 hb); have bH := Aside0.mk (blk_below (g := gT) (o := .cells #[.string ⟨#[]⟩, .int .i64 0] 46 (0, 0)) (by (with_reducible repeat (first | refine blk_drewN ?_ _ | refine blk_drew ?_ | refine blk_alloc ?_ _)); exact ig.out) hb); have cx := Aside0.mk (below_step Z61 hb); replace HO_103021 := aG; replace ab := aH; replace aX := aI; replace en := aZ; replace ig := bH; replace HB := cx; clear aG aH aI aZ bH cx; (try clear hb); (try clear hb2); (try clear hk); (try clear hi); have qF := nF.out; have qG := lC.out; have tG := nG.out; have tH := lD.out; have hcz46_0 : ov.cell? ⟨gT, 0, none⟩ = some (.string ⟨#[]⟩) := (blk_cell ig.out 0).trans rfl; have hcz46_1 : ov.cell? ⟨gT, 1, none⟩ = some (.int .i64 0) := (blk_cell ig.out 1).trans rfl; have hfz46_0 := blk_frozen ig.out 0; have hfz46_1 := blk_frozen ig.out 1; have pf := cells_4 en.out) | ((with_reducible refine gate_callee (f := 62) rfl ?_); refine goesL_ (some 57) rfl rfl Try.func62 Z6 rfl #[.agg #[.string cm, .int .i64 ce, .int .i64 cq, .bool cg], .int .i64 4] rfl Z5 ?_; (with_reducible refine (cursor_Num.calls cm ce cq cg 4 co ck cu ch cG _ xb.out).mono ?_); rintro e tI ⟨rfl, hb⟩; refine ⟨_, rfl, ?_⟩; have aG := Aside0.mk (Kd.R_below (by (with_reducible repeat (first | apply Kd.R_alloc | apply Kd.R_drewN | apply Kd.R_drew)); exact (Kd.R_mono (Kd.R_mono (Kd.R_far (p := ⟨eY, 3, none⟩) (Kd.R_far (p := ⟨eY, 2, none⟩) (Kd.R_far (p := ⟨eY, 1, none⟩) (Kd.R_far (p := ⟨eY, 0, none⟩) (Kd.R_far (p := ⟨gT, 0, none⟩) (Kd.R_types (Kd.R_mono HO_103021.out (fun k_ hk => (⟨hk, hk.2⟩ : _ ∧ k_ ≠ gT))) en.out Z32) (fun _ hk => hk.1.2) (.string cj)) (fun _ hk => hk.2) (.string cm)) (fun _ hk => hk.2) (.int .i64 ce)) (fun _ hk => hk.2) (.int .i64 cq)) (fun _ hk => hk.2) (.bool cg)) (fun _ h_ => h_.1)) (fun _ h_ => h_.1))) hb); have aH := Aside0.mk (blk_below (g := aa) (o := .cells #[.int .i64 0, .int .i64 0, .int .i64 0, .string ⟨#[]⟩, .int .i64 0, .int .i64 0, .string ⟨#[]⟩, .int .i64 0, .int .i64 0, .string ⟨#[]⟩, .int .i64 0, .string ⟨#[]⟩, .int .i64 0, .int .i64 0, .int .i64 0, .int .i64 0, .int .i64 0, .int .i64 0, .int .i64 0, .string ⟨#[]⟩, .string ⟨#[]⟩, .slice none 0 0, .int .i64 0, .string ⟨#[]⟩, .slice none 0 0] 25 (0, 0)) Z82 hb); have aI := Aside0.mk (blk_below (g := aU) (o := .cells #[.int .i64 5, .int .i64 0, .int .i64 0, .string ⟨#[]⟩, .int .i64 0, .int .i64 0, .string ⟨#[]⟩, .int .i64 0, .int .i64 0, .string ⟨#[]⟩, .int .i64 0, .string ⟨#[]⟩, .int .i64 0, .int .i64 0, .int .i64 0, .int .i64 (wrap64 ((bt a0 1) / 128)), .int .i64 0, .int .i64 0, .int .i64 0, .string ⟨#[]⟩, .string ⟨#[]⟩, u103021, .int .i64 0, .string ⟨#[]⟩, .slice none 0 0] 25 (0, 0)) Z81 hb); have aZ := Aside0.mk (blk_below (g := eY) (o := .cells #[.string cm, .int .i64 ce, .int .i64 cq, .bool cg] 60 (0, 0)) Z106 hb); have bH := Aside0.mk (blk_below (g := gT) (o := .cells #[.string cj, .int .i64 0] 46 (0, 0)) (by (with_reducible repeat (first | refine blk_drewN ?_ _ | refine blk_drew ?_ | refine blk_alloc ?_ _)); refine blk_far ?_ gK.out _; (with_reducible repeat (first | refine blk_drewN ?_ _ | refine blk_drew ?_ | refine blk_alloc ?_ _)); refine blk_far ?_ gK.out _; (with_reducible repeat (first | refine blk_drewN ?_ _ | refine blk_drew ?_ | refine blk_alloc ?_ _)); refine blk_far ?_ gK.out _; (with_reducible repeat (first | refine blk_drewN ?_ _ | refine blk_drew ?_ | refine blk_alloc ?_ _)); refine blk_far ?_ gK.out _; (with_reducible repeat (first | refine blk_drewN ?_ _ | refine blk_drew ?_ | refine blk_alloc ?_ _)); refine blk_put (cs := #[.string ⟨#[]⟩, .int .i64 0]) ?_ 0 _ rfl; (with_reducible repeat (first | refine blk_drewN ?_ _ | refine blk_drew ?_ | refine blk_alloc ?_ _)); exact ig.out) hb); have cx := Aside0.mk (below_step Z61 hb); replace HO_103021 := aG; replace ab := aH; replace aX := aI; replace en := aZ; replace ig := bH; replace HB := cx; clear aG aH aI aZ bH cx; (try clear hb); (try clear hb2); (try clear hk); (try clear hi); have hcz49_0 : tI.cell? ⟨gT, 0, none⟩ = some (.string cj) := (blk_cell ig.out 0).trans rfl; have hcz49_1 : tI.cell? ⟨gT, 1, none⟩ = some (.int .i64 0) := (blk_cell ig.out 1).trans rfl; have hfz49_0 := blk_frozen ig.out 0; have hfz49_1 := blk_frozen ig.out 1; have hcz50 := cells_4 en.out; have hnb51 := cc.out; have hnc51 := bo.out; have hcz52 := cells_25 aX.out) | ((with_reducible refine gate_builtin (b := .append) (xs := #[.tmp 62, .tmp 64]) rfl ?_); at_builtin; refine Kd.R_append k46 (w0 := w) w.heap.size rfl (.tmp 62) (.tmp 64) 22 46 (.agg #[(.string ⟨#[]⟩), (.int .i64 0)]) 24 rfl Try.underlying22 info46 rfl Z32 Z55 u103021 dc (⟨cj, co⟩ : S46) [.string cj, .int .i64 co] (fun k_ => k_ ≠ gT) (fun _ => False) rfl (by first | (go_simp; done) | (go_simp; rfl)) ?aP (fun _ hk => hk.elim) ?aF ?aO ?aB ?aS ?aL ?_; (case aP => exact k46_mkM _ _ _ (⟨cj, co⟩ : S46)); (case aB => exact Z61); (case aF => exact (fun k_ hk => Kd.freshB (g := gT) (o := .cells #[.string cj, .int .i64 co] 46 (0, 0)) Z79 k_ hk)); (case aO => exact (by (with_reducible repeat (first | apply Kd.R_alloc | apply Kd.R_drewN | apply Kd.R_drew)); exact Kd.R_mono (Kd.R_far (p := ⟨eY, 3, none⟩) (Kd.R_far (p := ⟨eY, 2, none⟩) (Kd.R_far (p := ⟨eY, 1, none⟩) (Kd.R_far (p := ⟨eY, 0, none⟩) (Kd.R_far (p := ⟨gT, 1, none⟩) (Kd.R_types (Kd.R_mono HO_103021.out (fun k_ hk => (⟨hk, hk.2⟩ : _ ∧ k_ ≠ gT))) en.out Z32) (fun _ hk => hk.1.2) (.int .i64 co)) (fun _ hk => hk.2) (.string ck)) (fun _ hk => hk.2) (.int .i64 cu)) (fun _ hk => hk.2) (.int .i64 ch)) (fun _ hk => hk.2) (.bool cG)) (fun _ hk => hk.1.1.2))); (case aS => exact (below_size Z61)); (case aL => have := LMc37.out; omega); intro v125 wz ho hb hg hat; rw [← Ny124.out] at ho; have aG := Aside0.mk (blk_grown (g := aa) (o := .cells #[.int .i64 0, .int .i64 0, .int .i64 0, .string ⟨#[]⟩, .int .i64 0, .int .i64 0, .string ⟨#[]⟩, .int .i64 0, .int .i64 0, .string ⟨#[]⟩, .int .i64 0, .string ⟨#[]⟩, .int .i64 0, .int .i64 0, .int .i64 0, .int .i64 0, .int .i64 0, .int .i64 0, .int .i64 0, .string ⟨#[]⟩, .string ⟨#[]⟩, .slice none 0 0, .int .i64 0, .string ⟨#[]⟩, .slice none 0 0] 25 (0, 0)) Z82 hg (Kd.R_ne HO_103021.out ab.out Z32)); have aH := Aside0.mk (blk_grown (g := aU) (o := .cells #[.int .i64 5, .int .i64 0, .int .i64 0, .string ⟨#[]⟩, .int .i64 0, .int .i64 0, .string ⟨#[]⟩, .int .i64 0, .int .i64 0, .string ⟨#[]⟩, .int .i64 0, .string ⟨#[]⟩, .int .i64 0, .int .i64 0, .int .i64 0, .int .i64 (wrap64 ((bt a0 1) / 128)), .int .i64 0, .int .i64 0, .int .i64 0, .string ⟨#[]⟩, .string ⟨#[]⟩, u103021, .int .i64 0, .string ⟨#[]⟩, .slice none 0 0] 25 (0, 0)) Z81 hg (Kd.R_ne HO_103021.out aX.out Z32)); have aI := Aside0.mk (blk_grown (g := eY) (o := .cells #[.string ck, .int .i64 cu, .int .i64 ch, .bool cG] 60 (0, 0)) Z106 hg (Kd.R_ne HO_103021.out en.out Z32)); have aZ := Aside0.mk (blk_grown (g := gT) (o := .cells #[.string cj, .int .i64 co] 46 (0, 0)) Z79 hg (Kd.R_away HO_103021.out (fun _ hk => hk.2))); have bH := Aside0.mk (hb); have cx := Aside0.mk (ho); clear HO_103021; replace ab := aG; replace aX := aH; replace en := aI; replace ig := aZ; replace HB := bH; have qH := cx; clear aG aH aI aZ bH cx; clear ho hb hg hat; obtain ⟨tJ, tK, eo54⟩ := Kd.R_slice qH.out; subst eo54; have tL := cells_25 aX.out))
           go_roundg k1
           case measure => have := HK1.out; omega
           case rel => exact ⟨(wrap64 (jB + 1)), (pT), (ck), (cu), (ch), (cG), (.slice tJ pT.length tK), Z14, H', ⟨Z112⟩, ⟨by (with_reducible repeat (first | apply Kd.R_alloc | apply Kd.R_drewN | apply Kd.R_drew)); exact Kd.R_mono (Kd.R_far (p := ⟨aU, 21, none⟩) (Kd.R_types qH.out aX.out Z32) (fun _ hk => hk.2) (.slice tJ pT.length tK)) (fun _ hk => trivial)⟩, ⟨Z86⟩, ⟨by (with_reducible repeat (first | refine blk_drewN ?_ _ | refine blk_drew ?_ | refine blk_alloc ?_ _)); refine blk_put (cs := #[.int .i64 5, .int .i64 0, .int .i64 0, .string ⟨#[]⟩, .int .i64 0, .int .i64 0, .string ⟨#[]⟩, .int .i64 0, .int .i64 0, .string ⟨#[]⟩, .int .i64 0, .string ⟨#[]⟩, .int .i64 0, .int .i64 0, .int .i64 0, .int .i64 (wrap64 ((bt a0 1) / 128)), .int .i64 0, .int .i64 0, .int .i64 0, .string ⟨#[]⟩, .string ⟨#[]⟩, u103021, .int .i64 0, .string ⟨#[]⟩, .slice none 0 0]) ?_ 21 _ rfl; (with_reducible repeat (first | refine blk_drewN ?_ _ | refine blk_drew ?_ | refine blk_alloc ?_ _)); exact aX.out⟩, ⟨Z114⟩, ⟨Z61⟩⟩
          ·rw [if_neg pS] at H
           exact absurd H Z73
         ·rw [if_neg jf] at H
          have ks : decide (jB < (wrap64 (bt a0 3))) = false := decide_eq_false jf
          clear jf
          by_cases vl : gu = true
          ·subst vl
           have H1 : (some (0, 0, 0, (⟨#[]⟩ : ByteArray), 0, 0, (⟨#[]⟩ : ByteArray), 0, 0, (⟨#[]⟩ : ByteArray), 0, (⟨#[]⟩ : ByteArray), 0, 0, 0, 0, 0, 0, 0, (⟨#[]⟩ : ByteArray), (⟨#[]⟩ : ByteArray), ([] : List (S46)), 0, (⟨#[]⟩ : ByteArray), ([] : List (S48)), (a0.size : Int), 2)) = some (r1, r2, r3, r4, r5, r6, r7, r8, r9, r10, r11, r12, r13, r14, r15, r16, r17, r18, r19, r20, r21, r22, r23, r24, r25, r26, r27) := by rw [if_pos rfl] at H; exact H
           clear H
           have H := H1
           clear H1
           simp only [Option.some.injEq, Prod.mk.injEq] at H
           obtain ⟨rfl, rfl, rfl, rfl, rfl, rfl, rfl, rfl, rfl, rfl, rfl, rfl, rfl, rfl, rfl, rfl, rfl, rfl, rfl, rfl, rfl, rfl, rfl, rfl, rfl, rfl, rfl⟩ := H
           have hnb57 := aW.out
           have hnc57 := eZ.out
           have tM := io.out
           have tN := fa.out
           have tO := cells_4 en.out
           have sR := bo.out
           have sT := cc.out
           have sU := cells_25 ab.out
           go_wp2_with (first | ((with_reducible refine gate_dst (N := 37) rfl ?_); refine Pre.build_event 37 25 [(0, Go.Operand.const (Go.Value.int Go.IntKind.i64 5)), (15, Go.Operand.tmp 36)] rfl rfl rfl (rerr_Get.bd37 _ _) ?_) | ((with_reducible refine Pre.gate_load 25 rfl ?_); (try (refine gate_guard Z13 ?_; dsimp only)); refine Pre.load_event rfl rfl rfl Z13 Z17 Try.underlying25 rfl Z6 ?_) | ((with_reducible refine Pre.gate_store 25 rfl ?_); refine Pre.store_abs (cur := #[.int .i64 0, .int .i64 0, .int .i64 0, .string ⟨#[]⟩, .int .i64 0, .int .i64 0, .string ⟨#[]⟩, .int .i64 0, .int .i64 0, .string ⟨#[]⟩, .int .i64 0, .string ⟨#[]⟩, .int .i64 0, .int .i64 0, .int .i64 0, .int .i64 0, .int .i64 0, .int .i64 0, .int .i64 0, .string ⟨#[]⟩, .string ⟨#[]⟩, .slice none 0 0, .int .i64 0, .string ⟨#[]⟩, .slice none 0 0]) (e := 25) rfl rfl rfl Z13 Z13 Z1 Z6 Z13 Z13 ?_; intro se hbS_ sS_; have aG : Aside0 (Kd.R k46 46 se w.heap.size (fun _ => True) u103021 dc) := ⟨Kd.R_mono (Pre.R_sets sS_ (Kd.R_types HO_103021.out ab.out Z32) (fun _ hk => hk.2)) (fun _ hk => trivial)⟩; have aH : Aside0 (se.heap[aa]? = some (.cells #[.int .i64 0, .int .i64 0, .int .i64 0, .string ⟨#[]⟩, .int .i64 0, .int .i64 0, .string ⟨#[]⟩, .int .i64 0, .int .i64 0, .string ⟨#[]⟩, .int .i64 0, .string ⟨#[]⟩, .int .i64 0, .int .i64 0, .int .i64 0, .int .i64 0, .int .i64 0, .int .i64 0, .int .i64 0, .string ⟨#[]⟩, .string ⟨#[]⟩, .slice none 0 0, .int .i64 0, .string ⟨#[]⟩, .slice none 0 0] 25 (0, 0))) := ⟨hbS_⟩; have aI : Aside0 (se.heap[aU]? = some (.cells #[.int .i64 5, .int .i64 0, .int .i64 0, .string ⟨#[]⟩, .int .i64 0, .int .i64 0, .string ⟨#[]⟩, .int .i64 0, .int .i64 0, .string ⟨#[]⟩, .int .i64 0, .string ⟨#[]⟩, .int .i64 0, .int .i64 0, .int .i64 0, .int .i64 (wrap64 ((bt a0 1) / 128)), .int .i64 0, .int .i64 0, .int .i64 0, .string ⟨#[]⟩, .string ⟨#[]⟩, u103021, .int .i64 0, .string ⟨#[]⟩, .slice none 0 0] 25 (0, 0))) := ⟨sS_.blk Z26 cc.out⟩; have aZ : Aside0 (se.heap[eY]? = some (.cells #[.string ee, .int .i64 ct, .int .i64 ef, .bool true] 60 (0, 0))) := ⟨sS_.blk Z80 aW.out⟩; have bH : Aside0 (Below w.heap.size w se) := ⟨sS_.below Z29 bs.out⟩; clear hbS_ sS_; replace HO_103021 := aG; replace ab := aH; replace aX := aI; replace en := aZ; replace HB := bH; clear aG aH aI aZ bH))
           refine bodyPost_ret (results_ctt rfl _ _ aa 25 #[.int .i64 0, .int .i64 0, .int .i64 0, .string ⟨#[]⟩, .int .i64 0, .int .i64 0, .string ⟨#[]⟩, .int .i64 0, .int .i64 0, .string ⟨#[]⟩, .int .i64 0, .string ⟨#[]⟩, .int .i64 0, .int .i64 0, .int .i64 0, .int .i64 0, .int .i64 0, .int .i64 0, .int .i64 0, .string ⟨#[]⟩, .string ⟨#[]⟩, .slice none 0 0, .int .i64 0, .string ⟨#[]⟩, .slice none 0 0] (0, 0) _ rfl Z1 Try.underlying25 rfl Z6) rfl ?_
           exact ⟨_, _, Z9, Z12, Z27, Z29⟩
          ·replace vl := Bool.eq_false_iff.mpr vl
           subst vl
           have H1 : (if 0 ≤ ct then (if ct ≤ (a0.size : Int) then ((ext_Get.f k1 (a0.extract (ct : Int).toNat a0.size)).bind fun jX => (if jX.2.2 = 0 then (some (5, 0, 0, (⟨#[]⟩ : ByteArray), 0, 0, (⟨#[]⟩ : ByteArray), 0, 0, (⟨#[]⟩ : ByteArray), 0, (⟨#[]⟩ : ByteArray), 0, 0, 0, (wrap64 ((bt a0 1) / 128)), 0, 0, 0, (⟨#[]⟩ : ByteArray), (⟨#[]⟩ : ByteArray), dc, 0, (⟨#[]⟩ : ByteArray), jX.1, 0, 0)) else (some (0, 0, 0, (⟨#[]⟩ : ByteArray), 0, 0, (⟨#[]⟩ : ByteArray), 0, 0, (⟨#[]⟩ : ByteArray), 0, (⟨#[]⟩ : ByteArray), 0, 0, 0, 0, 0, 0, 0, (⟨#[]⟩ : ByteArray), (⟨#[]⟩ : ByteArray), ([] : List (S46)), 0, (⟨#[]⟩ : ByteArray), ([] : List (S48)), wrap64 (ct + jX.2.1), jX.2.2)))) else (none)) else (none)) = some (r1, r2, r3, r4, r5, r6, r7, r8, r9, r10, r11, r12, r13, r14, r15, r16, r17, r18, r19, r20, r21, r22, r23, r24, r25, r26, r27) := by rw [if_neg (show ¬ (false = true) by decide)] at H; exact H
           clear H
           have H := H1
           clear H1
           by_cases nH : 0 ≤ ct
           ·rw [if_pos nH] at H
            have qI := eq_true nH
            have qJ : decide (0 ≤ ct) = true := decide_eq_true nH
            clear nH
            by_cases tP : ct ≤ (a0.size : Int)
            ·rw [if_pos tP] at H
             have c64b0 := eq_true tP
             have c64b1 : decide (ct ≤ (a0.size : Int)) = true := decide_eq_true tP
             clear tP
             replace H := Option.bind_eq_some_iff.mp H
             obtain ⟨⟨cr, cz, jx⟩, tQ, H⟩ := H
             replace H : (if jx = 0 then (some (5, 0, 0, (⟨#[]⟩ : ByteArray), 0, 0, (⟨#[]⟩ : ByteArray), 0, 0, (⟨#[]⟩ : ByteArray), 0, (⟨#[]⟩ : ByteArray), 0, 0, 0, (wrap64 ((bt a0 1) / 128)), 0, 0, 0, (⟨#[]⟩ : ByteArray), (⟨#[]⟩ : ByteArray), dc, 0, (⟨#[]⟩ : ByteArray), cr, 0, 0)) else (some (0, 0, 0, (⟨#[]⟩ : ByteArray), 0, 0, (⟨#[]⟩ : ByteArray), 0, 0, (⟨#[]⟩ : ByteArray), 0, (⟨#[]⟩ : ByteArray), 0, 0, 0, 0, 0, 0, 0, (⟨#[]⟩ : ByteArray), (⟨#[]⟩ : ByteArray), ([] : List (S46)), 0, (⟨#[]⟩ : ByteArray), ([] : List (S48)), wrap64 (ct + cz), jx))) = some (r1, r2, r3, r4, r5, r6, r7, r8, r9, r10, r11, r12, r13, r14, r15, r16, r17, r18, r19, r20, r21, r22, r23, r24, r25, r26, r27) := H
             have wD := Aside0.mk tQ
             clear tQ
             by_cases rn : jx = 0
             ·rw [if_pos rn] at H
              have tR : (jx == 0) = true := beq_iff_eq.mpr rn
              have tS : (jx != 0) = false := bne_eq_false_iff_eq.mpr rn
              clear rn
              simp only [Option.some.injEq, Prod.mk.injEq] at H
              obtain ⟨rfl, rfl, rfl, rfl, rfl, rfl, rfl, rfl, rfl, rfl, rfl, rfl, rfl, rfl, rfl, rfl, rfl, rfl, rfl, rfl, rfl, rfl, rfl, rfl, rfl, rfl, rfl⟩ := H
              have tT := aW.out
              have tU := eZ.out
              have hnb68 := io.out
              have hnc68 := fa.out
              have hcz69 := cells_4 en.out
              go_wp2_with (first | ((with_reducible refine gate_dst (N := 37) rfl ?_); refine Pre.build_event 37 25 [(0, Go.Operand.const (Go.Value.int Go.IntKind.i64 5)), (15, Go.Operand.tmp 36)] rfl rfl rfl (rerr_Get.bd37 _ _) ?_) | ((with_reducible refine Pre.gate_load 25 rfl ?_); (try (refine gate_guard Z13 ?_; dsimp only)); refine Pre.load_event rfl rfl rfl Z13 Z17 Try.underlying25 rfl Z6 ?_) | ((with_reducible refine gate_callee (f := 59) rfl ?_); refine goesL_ (some 78) rfl rfl Try.func59 Z6 rfl #[.string (a0.extract (ct : Int).toNat a0.size)] rfl Z5 ?_; (with_reducible refine (ext_Get.calls k1 (a0.extract (ct : Int).toNat a0.size) cr cz jx _ wD.out).mono ?_); rintro e w70 ⟨tV, rfl, ho0, hb⟩; refine ⟨_, rfl, ?_⟩; have aG := Aside0.mk (Kd.R_below Z69 hb); have aH := Aside0.mk (Kd.R_lower ho0 (below_size Z29)); have aI := Aside0.mk (blk_below (g := aa) Z1 hb); have aZ := Aside0.mk (blk_below (g := aU) Z26 hb); have bH := Aside0.mk (blk_below (g := eY) (o := .cells #[.string ee, .int .i64 ct, .int .i64 ef, .bool false] 60 (0, 0)) Z80 hb); have cx := Aside0.mk (below_step Z29 hb); replace HO_103021 := aG; have jc := aH; replace ab := aI; replace aX := aZ; replace en := bH; replace HB := cx; clear aG aH aI aZ bH cx; (try clear hb); (try clear hb2); (try clear hk); (try clear hi); (try clear ho0); obtain ⟨nI, nJ, eo71⟩ := Kd.R_slice jc.out; subst eo71; have hnb72 := cc.out; have hnc72 := bo.out; have om := cells_25 aX.out; have qf := cells_25 ab.out; obtain ⟨pg, ph, eo75⟩ := Kd.R_slice HO_103021.out; subst eo75) | ((with_reducible refine Pre.gate_store 25 rfl ?_); refine Pre.store_abs (cur := #[.int .i64 0, .int .i64 0, .int .i64 0, .string ⟨#[]⟩, .int .i64 0, .int .i64 0, .string ⟨#[]⟩, .int .i64 0, .int .i64 0, .string ⟨#[]⟩, .int .i64 0, .string ⟨#[]⟩, .int .i64 0, .int .i64 0, .int .i64 0, .int .i64 0, .int .i64 0, .int .i64 0, .int .i64 0, .string ⟨#[]⟩, .string ⟨#[]⟩, .slice none 0 0, .int .i64 0, .string ⟨#[]⟩, .slice none 0 0]) (e := 25) rfl rfl rfl Z13 Z13 Z86 Z6 Z13 Z13 ?_; intro qg hbS_ sS_; have aG : Aside0 (Kd.R k46 46 qg w.heap.size (fun _ => True) (.slice pg dc.length ph) dc) := ⟨Kd.R_mono (Pre.R_sets sS_ (Kd.R_far (p := ⟨aU, 24, none⟩) (Kd.R_types (Kd.R_types HO_103021.out aX.out Z32) ab.out Z32) (fun _ hk => hk.1.2) (.slice nI cr.length nJ)) (fun _ hk => hk.2)) (fun _ hk => trivial)⟩; have aH : Aside0 (Kd.R k48 48 qg w.heap.size (fun _ => True) (.slice nI cr.length nJ) cr) := ⟨Kd.R_mono (Pre.R_sets sS_ (Kd.R_far (p := ⟨aU, 24, none⟩) (Kd.R_types (Kd.R_types jc.out aX.out Z32) ab.out Z32) (fun _ hk => hk.1.2) (.slice nI cr.length nJ)) (fun _ hk => hk.2)) (fun _ hk => trivial)⟩; have aI : Aside0 (qg.heap[aa]? = some (.cells #[.int .i64 5, .int .i64 0, .int .i64 0, .string ⟨#[]⟩, .int .i64 0, .int .i64 0, .string ⟨#[]⟩, .int .i64 0, .int .i64 0, .string ⟨#[]⟩, .int .i64 0, .string ⟨#[]⟩, .int .i64 0, .int .i64 0, .int .i64 0, .int .i64 (wrap64 ((bt a0 1) / 128)), .int .i64 0, .int .i64 0, .int .i64 0, .string ⟨#[]⟩, .string ⟨#[]⟩, .slice pg dc.length ph, .int .i64 0, .string ⟨#[]⟩, .slice nI cr.length nJ] 25 (0, 0))) := ⟨hbS_⟩; have aZ : Aside0 (qg.heap[aU]? = some (.cells #[.int .i64 5, .int .i64 0, .int .i64 0, .string ⟨#[]⟩, .int .i64 0, .int .i64 0, .string ⟨#[]⟩, .int .i64 0, .int .i64 0, .string ⟨#[]⟩, .int .i64 0, .string ⟨#[]⟩, .int .i64 0, .int .i64 0, .int .i64 0, .int .i64 (wrap64 ((bt a0 1) / 128)), .int .i64 0, .int .i64 0, .int .i64 0, .string ⟨#[]⟩, .string ⟨#[]⟩, .slice pg dc.length ph, .int .i64 0, .string ⟨#[]⟩, .slice nI cr.length nJ] 25 (0, 0))) := ⟨sS_.blk (by (with_reducible repeat (first | refine blk_drewN ?_ _ | refine blk_drew ?_ | refine blk_alloc ?_ _)); refine blk_put (cs := #[.int .i64 5, .int .i64 0, .int .i64 0, .string ⟨#[]⟩, .int .i64 0, .int .i64 0, .string ⟨#[]⟩, .int .i64 0, .int .i64 0, .string ⟨#[]⟩, .int .i64 0, .string ⟨#[]⟩, .int .i64 0, .int .i64 0, .int .i64 0, .int .i64 (wrap64 ((bt a0 1) / 128)), .int .i64 0, .int .i64 0, .int .i64 0, .string ⟨#[]⟩, .string ⟨#[]⟩, .slice pg dc.length ph, .int .i64 0, .string ⟨#[]⟩, .slice none 0 0]) ?_ 24 _ rfl; (with_reducible repeat (first | refine blk_drewN ?_ _ | refine blk_drew ?_ | refine blk_alloc ?_ _)); exact aX.out) cc.out⟩; have bH : Aside0 (qg.heap[eY]? = some (.cells #[.string ee, .int .i64 ct, .int .i64 ef, .bool false] 60 (0, 0))) := ⟨sS_.blk Z114 aW.out⟩; have cx : Aside0 (Below w.heap.size w qg) := ⟨sS_.below Z29 bs.out⟩; clear hbS_ sS_; replace HO_103021 := aG; replace jc := aH; replace ab := aI; replace aX := aZ; replace en := bH; replace HB := cx; clear aG aH aI aZ bH cx))
              refine bodyPost_ret (results_ctt rfl _ _ aa 25 #[.int .i64 5, .int .i64 0, .int .i64 0, .string ⟨#[]⟩, .int .i64 0, .int .i64 0, .string ⟨#[]⟩, .int .i64 0, .int .i64 0, .string ⟨#[]⟩, .int .i64 0, .string ⟨#[]⟩, .int .i64 0, .int .i64 0, .int .i64 0, .int .i64 (wrap64 ((bt a0 1) / 128)), .int .i64 0, .int .i64 0, .int .i64 0, .string ⟨#[]⟩, .string ⟨#[]⟩, .slice pg dc.length ph, .int .i64 0, .string ⟨#[]⟩, .slice nI cr.length nJ] (0, 0) _ rfl Z1 Try.underlying25 rfl Z6) rfl ?_
              exact ⟨_, _, Z9, Z69, by (with_reducible repeat (first | apply Kd.R_alloc | apply Kd.R_drewN | apply Kd.R_drew)); exact jc.out, Z29⟩
             ·rw [if_neg rn] at H
              have tR : (jx == 0) = false := beq_eq_false_iff_ne.mpr rn
              have tS : (jx != 0) = true := bne_iff_ne.mpr rn
              simp only [Option.some.injEq, Prod.mk.injEq] at H
              obtain ⟨rfl, rfl, rfl, rfl, rfl, rfl, rfl, rfl, rfl, rfl, rfl, rfl, rfl, rfl, rfl, rfl, rfl, rfl, rfl, rfl, rfl, rfl, rfl, rfl, rfl, rfl, rfl⟩ := H
              have hnb77 := aW.out
              have hnc77 := eZ.out
              have hnb78 := io.out
              have hnc78 := fa.out
              have hcz79 := cells_4 en.out
              try go_wp2_with (first | ((with_reducible refine gate_dst (N := 37) rfl ?_); refine Pre.build_event 37 25 [(0, Go.Operand.const (Go.Value.int Go.IntKind.i64 5)), (15, Go.Operand.tmp 36)] rfl rfl rfl (rerr_Get.bd37 _ _) ?_) | ((with_reducible refine Pre.gate_load 25 rfl ?_); (try (refine gate_guard Z13 ?_; dsimp only)); refine Pre.load_event rfl rfl rfl Z13 Z17 Try.underlying25 rfl Z6 ?_) | ((with_reducible refine gate_callee (f := 59) rfl ?_); refine goesL_ (some 78) rfl rfl Try.func59 Z6 rfl #[.string (a0.extract (ct : Int).toNat a0.size)] rfl Z5 ?_; (with_reducible refine (ext_Get.calls k1 (a0.extract (ct : Int).toNat a0.size) cr cz jx _ wD.out).mono ?_); rintro e vh ⟨tV, rfl, ho0, hb⟩; refine ⟨_, rfl, ?_⟩; have aG := Aside0.mk (Kd.R_below Z69 hb); have aH := Aside0.mk (Kd.R_lower ho0 (below_size Z29)); have aI := Aside0.mk (blk_below (g := aa) Z1 hb); have aZ := Aside0.mk (blk_below (g := aU) Z26 hb); have bH := Aside0.mk (blk_below (g := eY) (o := .cells #[.string ee, .int .i64 ct, .int .i64 ef, .bool false] 60 (0, 0)) Z80 hb); have cx := Aside0.mk (below_step Z29 hb); replace HO_103021 := aG; have jc := aH; replace ab := aI; replace aX := aZ; replace en := bH; replace HB := cx; clear aG aH aI aZ bH cx; (try clear hb); (try clear hb2); (try clear hk); (try clear hi); (try clear ho0)))
              have aG := Aside0.mk (Kd.R_drew HO_103021.out)
              have aH := Aside0.mk (Kd.R_drew jc.out)
              have aI := Aside0.mk (blk_drew ab.out)
              have aZ := Aside0.mk (blk_drew aX.out)
              have bH := Aside0.mk (blk_drew en.out)
              have cx := Aside0.mk (below_drew1 HB.out)
              clear HO_103021
              clear jc
              clear ab
              clear aX
              clear en
              clear HB
              have HO_103021 := aG
              have jc := aH
              have ab := aI
              have aX := aZ
              have en := bH
              have HB := cx
              clear aG aH aI aZ bH cx
              refine start_ (n := 9) (S := fun w' => w'.cell? ⟨eY, 0, none⟩ = some (.string ee) ∧ w'.cell? ⟨eY, 1, none⟩ = some (.int .i64 ct) ∧ w'.cell? ⟨eY, 2, none⟩ = some (.int .i64 ef) ∧ w'.cell? ⟨eY, 3, none⟩ = some (.bool false)) (ds := []) #[false, false, false, false, false, false, false, false, false] Z6 rfl rfl ⟨(blk_cell en.out 0).trans rfl, (blk_cell en.out 1).trans rfl, (blk_cell en.out 2).trans rfl, (blk_cell en.out 3).trans rfl⟩ (fun hHeld => ?_); refine with_tabW rerr_Get.tab20 rerr_Get.bits20 (fun HT_ HW_ => ?_)
              generalize vh.drew = vi at HO_103021 jc ab aX en HB hHeld ⊢
              refine pure_ (i := 0) (N := some 84) (v := ?_) (a' := ?_) #[true, false, false, false, false, false, false, false, false] rfl rfl (any_of HT_.out Z6) (fun _ _ _ h => h) (Or.inl ⟨Z13, ?_⟩) ?_ ?_
              rotate_left
              ·intro w'
               go_simp
               with_reducible rfl
              rotate_left
              ·simp only [Act.put, List.setIfInBounds_toArray, List.set_cons_zero, List.set_cons_succ, i64_w, i32_w]
               rfl
              refine pure_ (i := 1) (N := some 85) (v := ?_) (a' := ?_) #[true, true, false, false, false, false, false, false, false] rfl rfl (any_of HT_.out Z6) (fun _ _ _ h => h) (Or.inl ⟨Z13, ?_⟩) ?_ ?_
              rotate_left
              ·intro w'
               go_simp
               with_reducible rfl
              rotate_left
              ·simp only [Act.put, List.setIfInBounds_toArray, List.set_cons_zero, List.set_cons_succ, i64_w, i32_w]
               rfl
              refine pure_ (i := 3) (N := some 87) (v := ?_) (a' := ?_) #[true, true, false, true, false, false, false, false, false] rfl rfl (any_of HT_.out Z6) (fun _ _ _ h => h) (Or.inl ⟨Z13, ?_⟩) ?_ ?_
              rotate_left
              ·intro w'
               go_simp
               with_reducible rfl
              rotate_left
              ·simp only [Act.put, List.setIfInBounds_toArray, List.set_cons_zero, List.set_cons_succ, i64_w, i32_w]
               rfl
              refine pure_ (i := 5) (N := some 89) (v := ?_) (a' := ?_) #[true, true, false, true, false, true, false, false, false] rfl rfl (any_of HT_.out Z6) (fun _ _ _ h => h) (Or.inl ⟨Z13, ?_⟩) ?_ ?_
              rotate_left
              ·intro w'
               go_simp
               with_reducible rfl
              rotate_left
              ·simp only [Act.put, List.setIfInBounds_toArray, List.set_cons_zero, List.set_cons_succ, i64_w, i32_w]
               rfl
              refine take_ (i := 2) (N := some 86) (v := ?_) (a' := ?_) #[true, true, true, true, false, true, false, false, false] rfl rfl (take_ofW HT_.out HW_.out Z6) (fun _ _ _ h => h) (Or.inl ⟨Z13, ?_⟩) hHeld ?_ ?_
              rotate_left
              ·rintro w' ⟨s0, s1, s2, s3⟩
               first | (refine Eq.trans (Pre.load_run (ty := 25) rfl Z13 s0 Try.underlying25 rfl Z6) ?_; with_reducible rfl) | (refine Eq.trans (Pre.load_run (ty := 25) rfl Z13 s1 Try.underlying25 rfl Z6) ?_; with_reducible rfl) | (refine Eq.trans (Pre.load_run (ty := 25) rfl Z13 s2 Try.underlying25 rfl Z6) ?_; with_reducible rfl) | (refine Eq.trans (Pre.load_run (ty := 25) rfl Z13 s3 Try.underlying25 rfl Z6) ?_; with_reducible rfl) | (go_simp; with_reducible rfl)
              rotate_left
              ·simp only [Act.put, List.setIfInBounds_toArray, List.set_cons_zero, List.set_cons_succ, i64_w, i32_w]
               rfl
              refine pure_ (i := 4) (N := some 88) (v := ?_) (a' := ?_) #[true, true, true, true, true, true, false, false, false] rfl rfl (any_of HT_.out Z6) (fun _ _ _ h => h) (Or.inl ⟨Z13, ?_⟩) ?_ ?_
              rotate_left
              ·intro w'
               go_simp
               with_reducible rfl
              rotate_left
              ·simp only [Act.put, List.setIfInBounds_toArray, List.set_cons_zero, List.set_cons_succ, i64_w, i32_w]
               rfl
              refine one_ (i := 6) (N := none) #[true, true, true, true, true, true, true, false, false] rfl rfl (one_of HT_.out Z6) Z32 (fun K hK => ?_)
              refine skip_ (w1 := ?_) Z13 rfl ?_ ?_
              rotate_left
              ·refine Eq.trans (Pre.store_run rfl Z13 Z13 ab.out Z6 Z13 Z13) ?_
               rfl
              refine hK.out _ _ ⟨((cell_far (p := ⟨aa, _, none⟩) aW.out _).trans (((cell_far (p := ⟨aa, _, none⟩) aW.out _).trans (((cell_far (p := ⟨aa, _, none⟩) aW.out _).trans (((cell_far (p := ⟨aa, _, none⟩) aW.out _).trans (((cell_far (p := ⟨aa, _, none⟩) aW.out _).trans (((cell_far (p := ⟨aa, _, none⟩) aW.out _).trans (((cell_far (p := ⟨aa, _, none⟩) aW.out _).trans (((cell_far (p := ⟨aa, _, none⟩) aW.out _).trans (((cell_far (p := ⟨aa, _, none⟩) aW.out _).trans (((cell_far (p := ⟨aa, _, none⟩) aW.out _).trans (((cell_far (p := ⟨aa, _, none⟩) aW.out _).trans (((cell_far (p := ⟨aa, _, none⟩) aW.out _).trans (((cell_far (p := ⟨aa, _, none⟩) aW.out _).trans (((cell_far (p := ⟨aa, _, none⟩) aW.out _).trans (((cell_far (p := ⟨aa, _, none⟩) aW.out _).trans (((cell_far (p := ⟨aa, _, none⟩) aW.out _).trans (((cell_far (p := ⟨aa, _, none⟩) aW.out _).trans (((cell_far (p := ⟨aa, _, none⟩) aW.out _).trans (((cell_far (p := ⟨aa, _, none⟩) aW.out _).trans (((cell_far (p := ⟨aa, _, none⟩) aW.out _).trans (((cell_far (p := ⟨aa, _, none⟩) aW.out _).trans (((cell_far (p := ⟨aa, _, none⟩) aW.out _).trans (((cell_far (p := ⟨aa, _, none⟩) aW.out _).trans (((cell_far (p := ⟨aa, _, none⟩) aW.out _).trans (((cell_far (p := ⟨aa, _, none⟩) aW.out _).trans (hHeld.1)))))))))))))))))))))))))))))))))))))))))))))))))), ((cell_far (p := ⟨aa, _, none⟩) aW.out _).trans (((cell_far (p := ⟨aa, _, none⟩) aW.out _).trans (((cell_far (p := ⟨aa, _, none⟩) aW.out _).trans (((cell_far (p := ⟨aa, _, none⟩) aW.out _).trans (((cell_far (p := ⟨aa, _, none⟩) aW.out _).trans (((cell_far (p := ⟨aa, _, none⟩) aW.out _).trans (((cell_far (p := ⟨aa, _, none⟩) aW.out _).trans (((cell_far (p := ⟨aa, _, none⟩) aW.out _).trans (((cell_far (p := ⟨aa, _, none⟩) aW.out _).trans (((cell_far (p := ⟨aa, _, none⟩) aW.out _).trans (((cell_far (p := ⟨aa, _, none⟩) aW.out _).trans (((cell_far (p := ⟨aa, _, none⟩) aW.out _).trans (((cell_far (p := ⟨aa, _, none⟩) aW.out _).trans (((cell_far (p := ⟨aa, _, none⟩) aW.out _).trans (((cell_far (p := ⟨aa, _, none⟩) aW.out _).trans (((cell_far (p := ⟨aa, _, none⟩) aW.out _).trans (((cell_far (p := ⟨aa, _, none⟩) aW.out _).trans (((cell_far (p := ⟨aa, _, none⟩) aW.out _).trans (((cell_far (p := ⟨aa, _, none⟩) aW.out _).trans (((cell_far (p := ⟨aa, _, none⟩) aW.out _).trans (((cell_far (p := ⟨aa, _, none⟩) aW.out _).trans (((cell_far (p := ⟨aa, _, none⟩) aW.out _).trans (((cell_far (p := ⟨aa, _, none⟩) aW.out _).trans (((cell_far (p := ⟨aa, _, none⟩) aW.out _).trans (((cell_far (p := ⟨aa, _, none⟩) aW.out _).trans (hHeld.2.1)))))))))))))))))))))))))))))))))))))))))))))))))), ((cell_far (p := ⟨aa, _, none⟩) aW.out _).trans (((cell_far (p := ⟨aa, _, none⟩) aW.out _).trans (((cell_far (p := ⟨aa, _, none⟩) aW.out _).trans (((cell_far (p := ⟨aa, _, none⟩) aW.out _).trans (((cell_far (p := ⟨aa, _, none⟩) aW.out _).trans (((cell_far (p := ⟨aa, _, none⟩) aW.out _).trans (((cell_far (p := ⟨aa, _, none⟩) aW.out _).trans (((cell_far (p := ⟨aa, _, none⟩) aW.out _).trans (((cell_far (p := ⟨aa, _, none⟩) aW.out _).trans (((cell_far (p := ⟨aa, _, none⟩) aW.out _).trans (((cell_far (p := ⟨aa, _, none⟩) aW.out _).trans (((cell_far (p := ⟨aa, _, none⟩) aW.out _).trans (((cell_far (p := ⟨aa, _, none⟩) aW.out _).trans (((cell_far (p := ⟨aa, _, none⟩) aW.out _).trans (((cell_far (p := ⟨aa, _, none⟩) aW.out _).trans (((cell_far (p := ⟨aa, _, none⟩) aW.out _).trans (((cell_far (p := ⟨aa, _, none⟩) aW.out _).trans (((cell_far (p := ⟨aa, _, none⟩) aW.out _).trans (((cell_far (p := ⟨aa, _, none⟩) aW.out _).trans (((cell_far (p := ⟨aa, _, none⟩) aW.out _).trans (((cell_far (p := ⟨aa, _, none⟩) aW.out _).trans (((cell_far (p := ⟨aa, _, none⟩) aW.out _).trans (((cell_far (p := ⟨aa, _, none⟩) aW.out _).trans (((cell_far (p := ⟨aa, _, none⟩) aW.out _).trans (((cell_far (p := ⟨aa, _, none⟩) aW.out _).trans (hHeld.2.2.1)))))))))))))))))))))))))))))))))))))))))))))))))), ((cell_far (p := ⟨aa, _, none⟩) aW.out _).trans (((cell_far (p := ⟨aa, _, none⟩) aW.out _).trans (((cell_far (p := ⟨aa, _, none⟩) aW.out _).trans (((cell_far (p := ⟨aa, _, none⟩) aW.out _).trans (((cell_far (p := ⟨aa, _, none⟩) aW.out _).trans (((cell_far (p := ⟨aa, _, none⟩) aW.out _).trans (((cell_far (p := ⟨aa, _, none⟩) aW.out _).trans (((cell_far (p := ⟨aa, _, none⟩) aW.out _).trans (((cell_far (p := ⟨aa, _, none⟩) aW.out _).trans (((cell_far (p := ⟨aa, _, none⟩) aW.out _).trans (((cell_far (p := ⟨aa, _, none⟩) aW.out _).trans (((cell_far (p := ⟨aa, _, none⟩) aW.out _).trans (((cell_far (p := ⟨aa, _, none⟩) aW.out _).trans (((cell_far (p := ⟨aa, _, none⟩) aW.out _).trans (((cell_far (p := ⟨aa, _, none⟩) aW.out _).trans (((cell_far (p := ⟨aa, _, none⟩) aW.out _).trans (((cell_far (p := ⟨aa, _, none⟩) aW.out _).trans (((cell_far (p := ⟨aa, _, none⟩) aW.out _).trans (((cell_far (p := ⟨aa, _, none⟩) aW.out _).trans (((cell_far (p := ⟨aa, _, none⟩) aW.out _).trans (((cell_far (p := ⟨aa, _, none⟩) aW.out _).trans (((cell_far (p := ⟨aa, _, none⟩) aW.out _).trans (((cell_far (p := ⟨aa, _, none⟩) aW.out _).trans (((cell_far (p := ⟨aa, _, none⟩) aW.out _).trans (((cell_far (p := ⟨aa, _, none⟩) aW.out _).trans (hHeld.2.2.2))))))))))))))))))))))))))))))))))))))))))))))))))⟩ (fun hHeld => ?_)
              clear hK K
              refine pure_ (i := 7) (N := some 3) (v := ?_) (a' := ?_) #[true, true, true, true, true, true, true, true, false] rfl rfl (any_of HT_.out Z6) (fun _ _ _ h => h) (Or.inl ⟨Z13, ?_⟩) ?_ ?_
              rotate_left
              ·intro w'
               go_simp
               with_reducible rfl
              rotate_left
              ·simp only [Act.put, List.setIfInBounds_toArray, List.set_cons_zero, List.set_cons_succ, i64_w, i32_w]
               rfl
              refine pure_ (i := 8) (N := some 4) (v := ?_) (a' := ?_) #[true, true, true, true, true, true, true, true, true] rfl rfl (any_of HT_.out Z6) (fun _ _ _ h => h) (Or.inl ⟨Z13, ?_⟩) ?_ ?_
              rotate_left
              ·intro w'
               go_simp
               with_reducible rfl
              rotate_left
              ·simp only [Act.put, List.setIfInBounds_toArray, List.set_cons_zero, List.set_cons_succ, i64_w, i32_w]
               rfl
              refine done_ (done_of HT_.out Z6) ?_
              refine Pre.abs_end (g := aa) (t := 25) (cs := #[.int .i64 0, .int .i64 0, .int .i64 0, .string ⟨#[]⟩, .int .i64 0, .int .i64 0, .string ⟨#[]⟩, .int .i64 0, .int .i64 0, .string ⟨#[]⟩, .int .i64 0, .string ⟨#[]⟩, .int .i64 0, .int .i64 0, .int .i64 0, .int .i64 0, .int .i64 0, .int .i64 0, .int .i64 0, .string ⟨#[]⟩, .string ⟨#[]⟩, .slice none 0 0, .int .i64 0, .string ⟨#[]⟩, .slice none 0 0]) (cells := #[.int .i64 0, .int .i64 0, .int .i64 0, .string ⟨#[]⟩, .int .i64 0, .int .i64 0, .string ⟨#[]⟩, .int .i64 0, .int .i64 0, .string ⟨#[]⟩, .int .i64 0, .string ⟨#[]⟩, .int .i64 0, .int .i64 0, .int .i64 0, .int .i64 0, .int .i64 0, .int .i64 0, .int .i64 0, .string ⟨#[]⟩, .string ⟨#[]⟩, .slice none 0 0, .int .i64 0, .string ⟨#[]⟩, .slice none 0 0]) Z1 Z13 ?_
              intro mQ hbS_ sS_
              replace hbS_ := Aside0.mk hbS_
              replace sS_ : Aside0 (Pre.Sets aa vi mQ) := ⟨⟨sS_.os, sS_.tape, sS_.output, sS_.size, sS_.block⟩⟩
              have aG : Aside0 (Kd.R k46 46 mQ w.heap.size (fun _ => True) u103021 dc) := ⟨Kd.R_mono (Pre.R_sets sS_.out (Kd.R_types HO_103021.out ab.out Z32) (fun _ hk => hk.2)) (fun _ hk => trivial)⟩
              have aH : Aside0 (Kd.R k48 48 mQ w.heap.size (fun _ => True) tV cr) := ⟨Kd.R_mono (Pre.R_sets sS_.out (Kd.R_types jc.out ab.out Z32) (fun _ hk => hk.2)) (fun _ hk => trivial)⟩
              have aI : Aside0 (mQ.heap[aa]? = some (.cells #[.int .i64 0, .int .i64 0, .int .i64 0, .string ⟨#[]⟩, .int .i64 0, .int .i64 0, .string ⟨#[]⟩, .int .i64 0, .int .i64 0, .string ⟨#[]⟩, .int .i64 0, .string ⟨#[]⟩, .int .i64 0, .int .i64 0, .int .i64 0, .int .i64 0, .int .i64 0, .int .i64 0, .int .i64 0, .string ⟨#[]⟩, .string ⟨#[]⟩, .slice none 0 0, .int .i64 0, .string ⟨#[]⟩, .slice none 0 0] 25 (0, 0))) := ⟨hbS_.out⟩
              have aZ : Aside0 (mQ.heap[aU]? = some (.cells #[.int .i64 5, .int .i64 0, .int .i64 0, .string ⟨#[]⟩, .int .i64 0, .int .i64 0, .string ⟨#[]⟩, .int .i64 0, .int .i64 0, .string ⟨#[]⟩, .int .i64 0, .string ⟨#[]⟩, .int .i64 0, .int .i64 0, .int .i64 0, .int .i64 (wrap64 ((bt a0 1) / 128)), .int .i64 0, .int .i64 0, .int .i64 0, .string ⟨#[]⟩, .string ⟨#[]⟩, u103021, .int .i64 0, .string ⟨#[]⟩, .slice none 0 0] 25 (0, 0))) := ⟨sS_.out.blk Z26 cc.out⟩
              have bH : Aside0 (mQ.heap[eY]? = some (.cells #[.string ee, .int .i64 ct, .int .i64 ef, .bool false] 60 (0, 0))) := ⟨sS_.out.blk Z80 aW.out⟩
              have cx : Aside0 (Below w.heap.size w mQ) := ⟨sS_.out.below Z29 bs.out⟩
              clear hbS_ sS_
              (try clear HO_103021)
              (try clear jc)
              (try clear ab)
              (try clear aX)
              (try clear en)
              (try clear HB)
              have HO_103021 := aG
              have jc := aH
              have ab := aI
              have aX := aZ
              have en := bH
              have HB := cx
              clear aG aH aI aZ bH cx
              try go_wp2_with (first | ((with_reducible refine gate_dst (N := 37) rfl ?_); refine Pre.build_event 37 25 [(0, Go.Operand.const (Go.Value.int Go.IntKind.i64 5)), (15, Go.Operand.tmp 36)] rfl rfl rfl (rerr_Get.bd37 _ _) ?_) | ((with_reducible refine Pre.gate_load 25 rfl ?_); (try (refine gate_guard Z13 ?_; dsimp only)); refine Pre.load_event rfl rfl rfl Z13 Z17 Try.underlying25 rfl Z6 ?_))
              refine bodyPost_ret (results_ctt rfl _ _ aa 25 #[.int .i64 0, .int .i64 0, .int .i64 0, .string ⟨#[]⟩, .int .i64 0, .int .i64 0, .string ⟨#[]⟩, .int .i64 0, .int .i64 0, .string ⟨#[]⟩, .int .i64 0, .string ⟨#[]⟩, .int .i64 0, .int .i64 0, .int .i64 0, .int .i64 0, .int .i64 0, .int .i64 0, .int .i64 0, .string ⟨#[]⟩, .string ⟨#[]⟩, .slice none 0 0, .int .i64 0, .string ⟨#[]⟩, .slice none 0 0] (0, 0) _ rfl Z1 Try.underlying25 rfl Z6) rfl ?_
              exact ⟨_, _, Z9, Z12, Z27, Z29⟩
            ·rw [if_neg tP] at H
             exact absurd H Z73
           ·rw [if_neg nH] at H
            exact absurd H Z73
     ·rw [if_neg cU] at H
      exact absurd H Z73
    ·rw [if_neg cX] at H
     have ff : ((Go.bits .or .u8 (Go.bits .and .u8 (bt a0 1) 127) (bt a0 2)) == 0) = false := beq_eq_false_iff_ne.mpr cX
     have gG : ((Go.bits .or .u8 (Go.bits .and .u8 (bt a0 1) 127) (bt a0 2)) != 0) = true := bne_iff_ne.mpr cX
     simp only [Option.some.injEq, Prod.mk.injEq] at H
     obtain ⟨rfl, rfl, rfl, rfl, rfl, rfl, rfl, rfl, rfl, rfl, rfl, rfl, rfl, rfl, rfl, rfl, rfl, rfl, rfl, rfl, rfl, rfl, rfl, rfl, rfl, rfl, rfl⟩ := H
     go_enter Try.func30, Try.ntmps30
     try go_wp2_with (first | ((with_reducible refine gate_dst (N := 37) rfl ?_); refine Pre.build_event 37 25 [(0, Go.Operand.const (Go.Value.int Go.IntKind.i64 5)), (15, Go.Operand.tmp 36)] rfl rfl rfl (rerr_Get.bd37 _ _) ?_) | ((with_reducible refine Pre.gate_load 25 rfl ?_); (try (refine gate_guard Z13 ?_; dsimp only)); refine Pre.load_event rfl rfl rfl Z13 Z17 Try.underlying25 rfl Z6 ?_) | ((with_reducible refine gate_dst (N := 2) rfl ?_); refine box_event ?hg (N := 2) ?hd (cs := #[.int .i64 0, .int .i64 0, .int .i64 0, .string ⟨#[]⟩, .int .i64 0, .int .i64 0, .string ⟨#[]⟩, .int .i64 0, .int .i64 0, .string ⟨#[]⟩, .int .i64 0, .string ⟨#[]⟩, .int .i64 0, .int .i64 0, .int .i64 0, .int .i64 0, .int .i64 0, .int .i64 0, .int .i64 0, .string ⟨#[]⟩, .string ⟨#[]⟩, .slice none 0 0, .int .i64 0, .string ⟨#[]⟩, .slice none 0 0]) (t := 25) ?hr ?_; (case hd => rfl); (case hg => rfl); (case hr => first | (go_simp; done) | (go_simp; rfl)); intro aa hg vG hbox hb; have aG := Aside0.mk (below_step Z3 hb); have aH := Aside0.mk (hbox); have aI := Aside0.mk ((by rw [hg]; exact (below_size Z3) : w.heap.size ≤ aa)); have aZ := Aside0.mk ((by rw [hg]; exact (below_size Z3) : w.heap.size ≤ aa)); replace HB := aG; have ab := aH; have cl := aI; have bs := aZ; clear aG aH aI aZ; clear hb hbox hg))
     have aG := Aside0.mk (blk_drew ab.out)
     have aH := Aside0.mk (below_drew1 HB.out)
     clear ab
     clear HB
     have ab := aG
     have HB := aH
     clear aG aH
     have p7 : 0 ≤ (1 : Int) := Z55
     have q7 : 1 < a0.size := (by have : (1 : Int) < (a0.size : Int) := of_decide_eq_true Z10; omega)
     have hx7 : ∀ h : 1 < a0.size, ((a0[1]'h).toNat : Int) = bt a0 1 := bt_at a0 1
     clear p7
     have qi7 : (1 < (a0.size : Int)) = True := eq_true (of_decide_eq_true Z10)
     replace q7 := eq_true q7
     have p9 : 0 ≤ (2 : Int) := Z55
     have q9 : 2 < a0.size := (by have : (2 : Int) < (a0.size : Int) := of_decide_eq_true Z10; omega)
     have hx9 : ∀ h : 2 < a0.size, ((a0[2]'h).toNat : Int) = bt a0 2 := bt_at a0 2
     clear p9
     have qi9 : (2 < (a0.size : Int)) = True := eq_true (of_decide_eq_true Z10)
     replace q9 := eq_true q9
     refine start_ (n := 8) (S := fun w' => True) (ds := []) #[false, false, false, false, false, false, false, false] Z6 rfl rfl trivial (fun hHeld => ?_); refine with_tabW rerr_Get.tab3 rerr_Get.bits3 (fun HT_ HW_ => ?_)
     generalize vG.drew = w109 at ab HB hHeld ⊢
     refine pure_ (i := 0) (N := some 20) (v := ?_) (a' := ?_) #[true, false, false, false, false, false, false, false] rfl rfl (any_of HT_.out Z6) (fun _ _ _ h => h) (Or.inl ⟨Z13, ?_⟩) ?_ ?_
     rotate_left
     ·intro w'
      go_simp
      with_reducible rfl
     rotate_left
     ·simp only [Act.put, List.setIfInBounds_toArray, List.set_cons_zero, List.set_cons_succ, i64_w, i32_w]
      rfl
     refine pure_ (i := 3) (N := some 23) (v := ?_) (a' := ?_) #[true, false, false, true, false, false, false, false] rfl rfl (any_of HT_.out Z6) (fun _ _ _ h => h) (Or.inl ⟨Z13, ?_⟩) ?_ ?_
     rotate_left
     ·intro w'
      go_simp
      with_reducible rfl
     rotate_left
     ·simp only [Act.put, List.setIfInBounds_toArray, List.set_cons_zero, List.set_cons_succ, i64_w, i32_w]
      rfl
     refine take_ (i := 1) (N := some 21) (v := ?_) (a' := ?_) #[true, true, false, true, false, false, false, false] rfl rfl (take_ofW HT_.out HW_.out Z6) (fun _ _ _ h => h) (Or.inl ⟨Z13, ?_⟩) hHeld ?_ ?_
     rotate_left
     ·rintro w' s0
      first | (refine Eq.trans (Pre.load_run (ty := 25) rfl Z13 s0 Try.underlying25 rfl Z6) ?_; with_reducible rfl) | (go_simp; with_reducible rfl)
     rotate_left
     ·simp only [Act.put, List.setIfInBounds_toArray, List.set_cons_zero, List.set_cons_succ, i64_w, i32_w]
      rfl
     refine pure_ (i := 2) (N := some 22) (v := ?_) (a' := ?_) #[true, true, true, true, false, false, false, false] rfl rfl (any_of HT_.out Z6) (fun _ _ _ h => h) (Or.inl ⟨Z13, ?_⟩) ?_ ?_
     rotate_left
     ·intro w'
      go_simp
      with_reducible rfl
     rotate_left
     ·simp only [Act.put, List.setIfInBounds_toArray, List.set_cons_zero, List.set_cons_succ, i64_w, i32_w]
      rfl
     refine take_ (i := 4) (N := some 24) (v := ?_) (a' := ?_) #[true, true, true, true, true, false, false, false] rfl rfl (take_ofW HT_.out HW_.out Z6) (fun _ _ _ h => h) (Or.inl ⟨Z13, ?_⟩) hHeld ?_ ?_
     rotate_left
     ·rintro w' s0
      first | (refine Eq.trans (Pre.load_run (ty := 25) rfl Z13 s0 Try.underlying25 rfl Z6) ?_; with_reducible rfl) | (go_simp; with_reducible rfl)
     rotate_left
     ·simp only [Act.put, List.setIfInBounds_toArray, List.set_cons_zero, List.set_cons_succ, i64_w, i32_w]
      rfl
     refine pure_ (i := 5) (N := some 25) (v := ?_) (a' := ?_) #[true, true, true, true, true, true, false, false] rfl rfl (any_of HT_.out Z6) (fun _ _ _ h => h) (Or.inl ⟨Z13, ?_⟩) ?_ ?_
     rotate_left
     ·intro w'
      go_simp
      with_reducible rfl
     rotate_left
     ·simp only [Act.put, List.setIfInBounds_toArray, List.set_cons_zero, List.set_cons_succ, i64_w, i32_w]
      rfl
     refine pure_ (i := 6) (N := some 26) (v := ?_) (a' := ?_) #[true, true, true, true, true, true, true, false] rfl rfl (any_of HT_.out Z6) (fun _ _ _ h => h) (Or.inl ⟨Z13, ?_⟩) ?_ ?_
     rotate_left
     ·intro w'
      go_simp
      with_reducible rfl
     rotate_left
     ·simp only [Act.put, List.setIfInBounds_toArray, List.set_cons_zero, List.set_cons_succ, i64_w, i32_w]
      rfl
     refine pure_ (i := 7) (N := some 19) (v := ?_) (a' := ?_) #[true, true, true, true, true, true, true, true] rfl rfl (any_of HT_.out Z6) (fun _ _ _ h => h) (Or.inl ⟨Z13, ?_⟩) ?_ ?_
     rotate_left
     ·intro w'
      go_simp
      with_reducible rfl
     rotate_left
     ·simp only [Act.put, List.setIfInBounds_toArray, List.set_cons_zero, List.set_cons_succ, i64_w, i32_w]
      rfl
     refine done_ (done_of HT_.out Z6) ?_
     have hcz110 := cells_25 ab.out
     try go_wp2_with (first | ((with_reducible refine gate_dst (N := 37) rfl ?_); refine Pre.build_event 37 25 [(0, Go.Operand.const (Go.Value.int Go.IntKind.i64 5)), (15, Go.Operand.tmp 36)] rfl rfl rfl (rerr_Get.bd37 _ _) ?_) | ((with_reducible refine Pre.gate_load 25 rfl ?_); (try (refine gate_guard Z13 ?_; dsimp only)); refine Pre.load_event rfl rfl rfl Z13 Z17 Try.underlying25 rfl Z6 ?_) | ((with_reducible refine Pre.gate_store 25 rfl ?_); refine Pre.store_abs (cur := #[.int .i64 0, .int .i64 0, .int .i64 0, .string ⟨#[]⟩, .int .i64 0, .int .i64 0, .string ⟨#[]⟩, .int .i64 0, .int .i64 0, .string ⟨#[]⟩, .int .i64 0, .string ⟨#[]⟩, .int .i64 0, .int .i64 0, .int .i64 0, .int .i64 0, .int .i64 0, .int .i64 0, .int .i64 0, .string ⟨#[]⟩, .string ⟨#[]⟩, .slice none 0 0, .int .i64 0, .string ⟨#[]⟩, .slice none 0 0]) (e := 25) rfl rfl rfl Z13 Z13 Z1 Z6 Z13 Z13 ?_; intro tW hbS_ sS_; have aG : Aside0 (tW.heap[aa]? = some (.cells #[.int .i64 0, .int .i64 0, .int .i64 0, .string ⟨#[]⟩, .int .i64 0, .int .i64 0, .string ⟨#[]⟩, .int .i64 0, .int .i64 0, .string ⟨#[]⟩, .int .i64 0, .string ⟨#[]⟩, .int .i64 0, .int .i64 0, .int .i64 0, .int .i64 0, .int .i64 0, .int .i64 0, .int .i64 0, .string ⟨#[]⟩, .string ⟨#[]⟩, .slice none 0 0, .int .i64 0, .string ⟨#[]⟩, .slice none 0 0] 25 (0, 0))) := ⟨hbS_⟩; have aH : Aside0 (Below w.heap.size w tW) := ⟨sS_.below Z0 bs.out⟩; clear hbS_ sS_; replace ab := aG; replace HB := aH; clear aG aH))
     refine bodyPost_ret (results_ctt rfl _ _ aa 25 #[.int .i64 0, .int .i64 0, .int .i64 0, .string ⟨#[]⟩, .int .i64 0, .int .i64 0, .string ⟨#[]⟩, .int .i64 0, .int .i64 0, .string ⟨#[]⟩, .int .i64 0, .string ⟨#[]⟩, .int .i64 0, .int .i64 0, .int .i64 0, .int .i64 0, .int .i64 0, .int .i64 0, .int .i64 0, .string ⟨#[]⟩, .string ⟨#[]⟩, .slice none 0 0, .int .i64 0, .string ⟨#[]⟩, .slice none 0 0] (0, 0) _ rfl Z1 Try.underlying25 rfl Z6) rfl ?_
     exact ⟨_, _, Z9, Z12, Z27, Z0⟩
   ·rw [if_neg c8] at H
    exact absurd H Z73
  ·rw [if_neg c6] at H
   exact absurd H Z73

end Go.Proofs.Ytccjakjjaemmkaa.PR
