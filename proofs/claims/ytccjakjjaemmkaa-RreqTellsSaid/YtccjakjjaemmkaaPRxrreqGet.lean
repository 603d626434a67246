-- Written by mp.py, a program of this work (wip/tools), out of the translation; Lean checks it.
import Derived.Test.YtccjakjjaemmkaaPRxZ
import Derived.Test.YtccjakjjaemmkaaPRxcursor
import Derived.Test.YtccjakjjaemmkaaPRxext
import Derived.Test.YtccjakjjaemmkaaAbs
namespace Go.Proofs.Ytccjakjjaemmkaa.PR
open Go.RowKit Go.Proofs.YtccjakjjaemmkaaW.PrintWords Go.Proofs.YtccjakjjaemmkaaW.PrintLast Go.Proofs.YtccjakjjaemmkaaW.PrintMore
attribute [local go_sem] max2_int min2_int max_two min_two max_three min_three max_four min_four   -- for this text's walks alone
set_option linter.unusedVariables false
set_option linter.unusedSimpArgs false

/-! ### rreq_Get: function 22 -/
def rreq_Get.f (k : Nat) (a0 : ByteArray) : Option (Int × Int × Int × ByteArray × Int × Int × ByteArray × Int × Int × ByteArray × Int × ByteArray × Int × Int × Int × Int × Int × Int × Int × ByteArray × ByteArray × (List (S46)) × Int × ByteArray × (List (S48)) × Int × Int) := if (a0.size : Int) < 24 then (some (0, 0, 0, (⟨#[]⟩ : ByteArray), 0, 0, (⟨#[]⟩ : ByteArray), 0, 0, (⟨#[]⟩ : ByteArray), 0, (⟨#[]⟩ : ByteArray), 0, 0, 0, 0, 0, 0, 0, (⟨#[]⟩ : ByteArray), (⟨#[]⟩ : ByteArray), ([] : List (S46)), 0, (⟨#[]⟩ : ByteArray), ([] : List (S48)), (a0.size : Int), 2)) else (if 1 < (a0.size : Int) then (if 2 < (a0.size : Int) then (if (Go.bits .or .u8 (Go.bits .and .u8 (bt a0 1) 7) (bt a0 2)) = 0 then (if 24 ≤ (a0.size : Int) then ((ext_Get.f k (a0.extract 24 a0.size)).bind fun bh => (if bh.2.2 = 0 then (if 3 < (a0.size : Int) then ((cursor_New.f a0).bind fun fC => ((cursor_Text.f fC.1 fC.2.1 fC.2.2.1 fC.2.2.2 4).bind fun hv => ((cursor_Num.f hv.2.1 hv.2.2.1 hv.2.2.2.1 hv.2.2.2.2 4).bind fun cH => ((cursor_Text.f cH.2.1 cH.2.2.1 cH.2.2.2.1 cH.2.2.2.2 4).bind fun el => ((cursor_Num.f el.2.1 el.2.2.1 el.2.2.2.1 el.2.2.2.2 4).bind fun dF => ((cursor_Text.f dF.2.1 dF.2.2.1 dF.2.2.2.1 dF.2.2.2.2 4).bind fun cf => ((cursor_Num.f cf.2.1 cf.2.2.1 cf.2.2.2.1 cf.2.2.2.2 4).bind fun hO => (some (3, 0, 0, (⟨#[]⟩ : ByteArray), 0, 0, (⟨#[]⟩ : ByteArray), 0, 0, (⟨#[]⟩ : ByteArray), 0, (⟨#[]⟩ : ByteArray), dF.1, hO.1, 0, wrap64 ((bt a0 1) / 8), wrap64 (bt a0 3), cH.1, 0, el.1, cf.1, ([] : List (S46)), 0, (⟨#[]⟩ : ByteArray), bh.1, 0, 0))))))))) else (none)) else (some (0, 0, 0, (⟨#[]⟩ : ByteArray), 0, 0, (⟨#[]⟩ : ByteArray), 0, 0, (⟨#[]⟩ : ByteArray), 0, (⟨#[]⟩ : ByteArray), 0, 0, 0, 0, 0, 0, 0, (⟨#[]⟩ : ByteArray), (⟨#[]⟩ : ByteArray), ([] : List (S46)), 0, (⟨#[]⟩ : ByteArray), ([] : List (S48)), wrap64 (bh.2.1 + 24), bh.2.2)))) else (none)) else (some (0, 0, 0, (⟨#[]⟩ : ByteArray), 0, 0, (⟨#[]⟩ : ByteArray), 0, 0, (⟨#[]⟩ : ByteArray), 0, (⟨#[]⟩ : ByteArray), 0, 0, 0, 0, 0, 0, 0, (⟨#[]⟩ : ByteArray), (⟨#[]⟩ : ByteArray), ([] : List (S46)), 0, (⟨#[]⟩ : ByteArray), ([] : List (S48)), 1, 5))) else (none)) else (none))
theorem rreq_Get.mono : ∀ a0 k, LeO (rreq_Get.f k a0) (rreq_Get.f (k + 1) a0) := by
 intro a0 k
 unfold rreq_Get.f
 repeat' first
   | (with_reducible exact ext_Get.mono _ _)
   | (with_reducible exact LeO.refl _)
   | (with_reducible exact LeO.none _)
   | (with_reducible refine LeO.ite ?_ ?_)
   | (with_reducible refine LeO.bind ?_ (fun _ => ?_))
   | exact ext_Get.mono _ _
   | exact LeO.none _
   | refine LeO.ite ?_ ?_
   | refine LeO.bind ?_ (fun _ => ?_)
def rreq_Get.T8 : Bool × List (List Nat × List Nat) := (true, [([], []), ([0], [0]), ([1], [1]), ([2], [2]), ([], []), ([4], [4]), ([5], [5]), ([], []), ([3, 6, 7], [3, 6, 7]), ([], []), ([9, 8, 0, 1, 2, 3, 4, 5, 6, 7, 8, 9], [8, 9])])
def rreq_Get.B8 : List Nat := [0, 1, 3, 7, 0, 16, 48, 0, 255, 0, 1023]
theorem rreq_Get.tab8 : rtab .any (opsOf Try.f22 8) = rreq_Get.T8 := by kernel_rfl
theorem rreq_Get.bits8 : waitsOk rreq_Get.T8.2 rreq_Get.B8 = true := by kernel_rfl
set_option maxRecDepth 100000 in
theorem rreq_Get.bd46 (v0 : Int) (kd : Int) (kx : Int) (hL : Option Addr) (n24 fz : Nat) : Try.prog.built 25 [(0, .int .i64 v0), (15, .int .i64 kd), (16, .int .i64 kx), (24, .slice hL n24 fz)] = some #[.int .i64 v0, .int .i64 0, .int .i64 0, .string ⟨#[]⟩, .int .i64 0, .int .i64 0, .string ⟨#[]⟩, .int .i64 0, .int .i64 0, .string ⟨#[]⟩, .int .i64 0, .string ⟨#[]⟩, .int .i64 0, .int .i64 0, .int .i64 0, .int .i64 kd, .int .i64 kx, .int .i64 0, .int .i64 0, .string ⟨#[]⟩, .string ⟨#[]⟩, .slice none 0 0, .int .i64 0, .string ⟨#[]⟩, .slice hL n24 fz] := by kernel_rfl
set_option maxHeartbeats 8000000 in
set_option maxRecDepth 100000 in
theorem rreq_Get.calls (k : Nat) (a0 : ByteArray) (r1 : Int) (r2 : Int) (r3 : Int) (r4 : ByteArray) (r5 : Int) (r6 : Int) (r7 : ByteArray) (r8 : Int) (r9 : Int) (r10 : ByteArray) (r11 : Int) (r12 : ByteArray) (r13 : Int) (r14 : Int) (r15 : Int) (r16 : Int) (r17 : Int) (r18 : Int) (r19 : Int) (r20 : ByteArray) (r21 : ByteArray) (r22 : List (S46)) (r23 : Int) (r24 : ByteArray) (r25 : List (S48)) (r26 : Int) (r27 : Int) (w : World) (h : rreq_Get.f k a0 = some (r1, r2, r3, r4, r5, r6, r7, r8, r9, r10, r11, r12, r13, r14, r15, r16, r17, r18, r19, r20, r21, r22, r23, r24, r25, r26, r27)) :
  Calls Try.prog 22 #[.string a0] w fun e w' => ∃ v21_ v24_ : Value, e = .returned (.tuple #[.agg #[.int .i64 r1, .int .i64 r2, .int .i64 r3, .string r4, .int .i64 r5, .int .i64 r6, .string r7, .int .i64 r8, .int .i64 r9, .string r10, .int .i64 r11, .string r12, .int .i64 r13, .int .i64 r14, .int .i64 r15, .int .i64 r16, .int .i64 r17, .int .i64 r18, .int .i64 r19, .string r20, .string r21, v21_, .int .i64 r23, .string r24, v24_], .int .i64 r26, .int .i64 r27]) ∧ Kd.R k46 46 w' w.heap.size (fun _ => True) v21_ r22 ∧ Kd.R k48 48 w' w.heap.size (fun _ => True) v24_ r25 ∧ Below w.heap.size w w' := by
 have gB := Try.underlying25
 have kZ := Try.underlying60
 have HB := Aside0.mk (Below.refl w.heap.size w)
 have H : (if (a0.size : Int) < 24 then (some (0, 0, 0, (⟨#[]⟩ : ByteArray), 0, 0, (⟨#[]⟩ : ByteArray), 0, 0, (⟨#[]⟩ : ByteArray), 0, (⟨#[]⟩ : ByteArray), 0, 0, 0, 0, 0, 0, 0, (⟨#[]⟩ : ByteArray), (⟨#[]⟩ : ByteArray), ([] : List (S46)), 0, (⟨#[]⟩ : ByteArray), ([] : List (S48)), (a0.size : Int), 2)) else (if 1 < (a0.size : Int) then (if 2 < (a0.size : Int) then (if (Go.bits .or .u8 (Go.bits .and .u8 (bt a0 1) 7) (bt a0 2)) = 0 then (if 24 ≤ (a0.size : Int) then ((ext_Get.f k (a0.extract 24 a0.size)).bind fun bh => (if bh.2.2 = 0 then (if 3 < (a0.size : Int) then ((cursor_New.f a0).bind fun fC => ((cursor_Text.f fC.1 fC.2.1 fC.2.2.1 fC.2.2.2 4).bind fun hv => ((cursor_Num.f hv.2.1 hv.2.2.1 hv.2.2.2.1 hv.2.2.2.2 4).bind fun cH => ((cursor_Text.f cH.2.1 cH.2.2.1 cH.2.2.2.1 cH.2.2.2.2 4).bind fun el => ((cursor_Num.f el.2.1 el.2.2.1 el.2.2.2.1 el.2.2.2.2 4).bind fun dF => ((cursor_Text.f dF.2.1 dF.2.2.1 dF.2.2.2.1 dF.2.2.2.2 4).bind fun cf => ((cursor_Num.f cf.2.1 cf.2.2.1 cf.2.2.2.1 cf.2.2.2.2 4).bind fun hO => (some (3, 0, 0, (⟨#[]⟩ : ByteArray), 0, 0, (⟨#[]⟩ : ByteArray), 0, 0, (⟨#[]⟩ : ByteArray), 0, (⟨#[]⟩ : ByteArray), dF.1, hO.1, 0, wrap64 ((bt a0 1) / 8), wrap64 (bt a0 3), cH.1, 0, el.1, cf.1, ([] : List (S46)), 0, (⟨#[]⟩ : ByteArray), bh.1, 0, 0))))))))) else (none)) else (some (0, 0, 0, (⟨#[]⟩ : ByteArray), 0, 0, (⟨#[]⟩ : ByteArray), 0, 0, (⟨#[]⟩ : ByteArray), 0, (⟨#[]⟩ : ByteArray), 0, 0, 0, 0, 0, 0, 0, (⟨#[]⟩ : ByteArray), (⟨#[]⟩ : ByteArray), ([] : List (S46)), 0, (⟨#[]⟩ : ByteArray), ([] : List (S48)), wrap64 (bh.2.1 + 24), bh.2.2)))) else (none)) else (some (0, 0, 0, (⟨#[]⟩ : ByteArray), 0, 0, (⟨#[]⟩ : ByteArray), 0, 0, (⟨#[]⟩ : ByteArray), 0, (⟨#[]⟩ : ByteArray), 0, 0, 0, 0, 0, 0, 0, (⟨#[]⟩ : ByteArray), (⟨#[]⟩ : ByteArray), ([] : List (S46)), 0, (⟨#[]⟩ : ByteArray), ([] : List (S48)), 1, 5))) else (none)) else (none))) = some (r1, r2, r3, r4, r5, r6, r7, r8, r9, r10, r11, r12, r13, r14, r15, r16, r17, r18, r19, r20, r21, r22, r23, r24, r25, r26, r27) := h
 clear h
 by_cases c2 : (a0.size : Int) < 24
 ·rw [if_pos c2] at H
  have iq : decide ((a0.size : Int) < 24) = true := decide_eq_true c2
  have jE : decide (a0.size < 24) = true := decide_eq_true Z55
  clear c2
  simp only [Option.some.injEq, Prod.mk.injEq] at H
  obtain ⟨rfl, rfl, rfl, rfl, rfl, rfl, rfl, rfl, rfl, rfl, rfl, rfl, rfl, rfl, rfl, rfl, rfl, rfl, rfl, rfl, rfl, rfl, rfl, rfl, rfl, rfl, rfl⟩ := H
  go_enter Try.func22, Try.ntmps22
  go_wp2_with (first | ((with_reducible refine gate_dst (N := 46) rfl ?_); refine Pre.build_event 46 25 [(0, Go.Operand.const (Go.Value.int Go.IntKind.i64 3)), (15, Go.Operand.tmp 41), (16, Go.Operand.tmp 44), (24, Go.Operand.tmp 45)] rfl rfl rfl (rreq_Get.bd46 _ _ _ _ _ _) ?_) | ((with_reducible refine Pre.gate_load 25 rfl ?_); (try (refine gate_guard Z13 ?_; dsimp only)); refine Pre.load_event rfl rfl rfl Z13 Z23 Try.underlying25 rfl Z6 ?_) | ((with_reducible refine gate_dst (N := 2) rfl ?_); refine box_event ?hg (N := 2) ?hd (cs := #[.int .i64 0, .int .i64 0, .int .i64 0, .string ⟨#[]⟩, .int .i64 0, .int .i64 0, .string ⟨#[]⟩, .int .i64 0, .int .i64 0, .string ⟨#[]⟩, .int .i64 0, .string ⟨#[]⟩, .int .i64 0, .int .i64 0, .int .i64 0, .int .i64 0, .int .i64 0, .int .i64 0, .int .i64 0, .string ⟨#[]⟩, .string ⟨#[]⟩, .slice none 0 0, .int .i64 0, .string ⟨#[]⟩, .slice none 0 0]) (t := 25) ?hr ?_; (case hd => rfl); (case hg => rfl); (case hr => first | (go_simp; done) | (go_simp; rfl)); intro aa hg w3 hbox hb; have aG := Aside0.mk (below_step Z3 hb); have aH := Aside0.mk (hbox); have aI := Aside0.mk ((by rw [hg]; exact (below_size Z3) : w.heap.size ≤ aa)); have aZ := Aside0.mk ((by rw [hg]; exact (below_size Z3) : w.heap.size ≤ aa)); replace HB := aG; have ab := aH; have cl := aI; have bs := aZ; clear aG aH aI aZ; clear hb hbox hg; have lK := cells_25 ab.out) | ((with_reducible refine Pre.gate_store 25 rfl ?_); refine Pre.store_abs (cur := #[.int .i64 0, .int .i64 0, .int .i64 0, .string ⟨#[]⟩, .int .i64 0, .int .i64 0, .string ⟨#[]⟩, .int .i64 0, .int .i64 0, .string ⟨#[]⟩, .int .i64 0, .string ⟨#[]⟩, .int .i64 0, .int .i64 0, .int .i64 0, .int .i64 0, .int .i64 0, .int .i64 0, .int .i64 0, .string ⟨#[]⟩, .string ⟨#[]⟩, .slice none 0 0, .int .i64 0, .string ⟨#[]⟩, .slice none 0 0]) (e := 25) rfl rfl rfl Z13 Z13 Z1 Z6 Z13 Z13 ?_; intro w5 hbS_ sS_; have aG : Aside0 (w5.heap[aa]? = some (.cells #[.int .i64 0, .int .i64 0, .int .i64 0, .string ⟨#[]⟩, .int .i64 0, .int .i64 0, .string ⟨#[]⟩, .int .i64 0, .int .i64 0, .string ⟨#[]⟩, .int .i64 0, .string ⟨#[]⟩, .int .i64 0, .int .i64 0, .int .i64 0, .int .i64 0, .int .i64 0, .int .i64 0, .int .i64 0, .string ⟨#[]⟩, .string ⟨#[]⟩, .slice none 0 0, .int .i64 0, .string ⟨#[]⟩, .slice none 0 0] 25 (0, 0))) := ⟨hbS_⟩; have aH : Aside0 (Below w.heap.size w w5) := ⟨sS_.below Z0 bs.out⟩; clear hbS_ sS_; replace ab := aG; replace HB := aH; clear aG aH))
  refine bodyPost_ret (results_ctt rfl _ _ aa 25 #[.int .i64 0, .int .i64 0, .int .i64 0, .string ⟨#[]⟩, .int .i64 0, .int .i64 0, .string ⟨#[]⟩, .int .i64 0, .int .i64 0, .string ⟨#[]⟩, .int .i64 0, .string ⟨#[]⟩, .int .i64 0, .int .i64 0, .int .i64 0, .int .i64 0, .int .i64 0, .int .i64 0, .int .i64 0, .string ⟨#[]⟩, .string ⟨#[]⟩, .slice none 0 0, .int .i64 0, .string ⟨#[]⟩, .slice none 0 0] (0, 0) _ rfl Z1 Try.underlying25 rfl Z6) rfl ?_
  exact ⟨_, _, Z9, Z12, Z27, Z0⟩
 ·rw [if_neg c2] at H
  have iq : decide ((a0.size : Int) < 24) = false := decide_eq_false c2
  have jE : decide (a0.size < 24) = false := decide_eq_false Z55
  clear c2
  by_cases c6 : 1 < (a0.size : Int)
  ·rw [if_pos c6] at H
   have gZ : decide (1 < (a0.size : Int)) = true := decide_eq_true c6
   have ii : decide (1 < a0.size) = true := decide_eq_true Z55
   clear c6
   by_cases c8 : 2 < (a0.size : Int)
   ·rw [if_pos c8] at H
    have iG : decide (2 < (a0.size : Int)) = true := decide_eq_true c8
    have kt : decide (2 < a0.size) = true := decide_eq_true Z55
    clear c8
    by_cases cX : (Go.bits .or .u8 (Go.bits .and .u8 (bt a0 1) 7) (bt a0 2)) = 0
    ·rw [if_pos cX] at H
     have ff : ((Go.bits .or .u8 (Go.bits .and .u8 (bt a0 1) 7) (bt a0 2)) == 0) = true := beq_iff_eq.mpr cX
     have gG : ((Go.bits .or .u8 (Go.bits .and .u8 (bt a0 1) 7) (bt a0 2)) != 0) = false := bne_eq_false_iff_eq.mpr cX
     clear cX
     by_cases cU : 24 ≤ (a0.size : Int)
     ·rw [if_pos cU] at H
      have fE := eq_true cU
      have hu : decide (24 ≤ (a0.size : Int)) = true := decide_eq_true cU
      clear cU
      replace H := Option.bind_eq_some_iff.mp H
      obtain ⟨⟨ba, bf, bc⟩, hN, H⟩ := H
      replace H : (if bc = 0 then (if 3 < (a0.size : Int) then ((cursor_New.f a0).bind fun fC => ((cursor_Text.f fC.1 fC.2.1 fC.2.2.1 fC.2.2.2 4).bind fun hv => ((cursor_Num.f hv.2.1 hv.2.2.1 hv.2.2.2.1 hv.2.2.2.2 4).bind fun cH => ((cursor_Text.f cH.2.1 cH.2.2.1 cH.2.2.2.1 cH.2.2.2.2 4).bind fun el => ((cursor_Num.f el.2.1 el.2.2.1 el.2.2.2.1 el.2.2.2.2 4).bind fun dF => ((cursor_Text.f dF.2.1 dF.2.2.1 dF.2.2.2.1 dF.2.2.2.2 4).bind fun cf => ((cursor_Num.f cf.2.1 cf.2.2.1 cf.2.2.2.1 cf.2.2.2.2 4).bind fun hO => (some (3, 0, 0, (⟨#[]⟩ : ByteArray), 0, 0, (⟨#[]⟩ : ByteArray), 0, 0, (⟨#[]⟩ : ByteArray), 0, (⟨#[]⟩ : ByteArray), dF.1, hO.1, 0, wrap64 ((bt a0 1) / 8), wrap64 (bt a0 3), cH.1, 0, el.1, cf.1, ([] : List (S46)), 0, (⟨#[]⟩ : ByteArray), ba, 0, 0))))))))) else (none)) else (some (0, 0, 0, (⟨#[]⟩ : ByteArray), 0, 0, (⟨#[]⟩ : ByteArray), 0, 0, (⟨#[]⟩ : ByteArray), 0, (⟨#[]⟩ : ByteArray), 0, 0, 0, 0, 0, 0, 0, (⟨#[]⟩ : ByteArray), (⟨#[]⟩ : ByteArray), ([] : List (S46)), 0, (⟨#[]⟩ : ByteArray), ([] : List (S48)), wrap64 (bf + 24), bc))) = some (r1, r2, r3, r4, r5, r6, r7, r8, r9, r10, r11, r12, r13, r14, r15, r16, r17, r18, r19, r20, r21, r22, r23, r24, r25, r26, r27) := H
      have ln := Aside0.mk hN
      clear hN
      by_cases dB : bc = 0
      ·rw [if_pos dB] at H
       have gF : (bc == 0) = true := beq_iff_eq.mpr dB
       have ie : (bc != 0) = false := bne_eq_false_iff_eq.mpr dB
       clear dB
       by_cases fd : 3 < (a0.size : Int)
       ·rw [if_pos fd] at H
        have ix : decide (3 < (a0.size : Int)) = true := decide_eq_true fd
        have iZ : decide (3 < a0.size) = true := decide_eq_true Z55
        clear fd
        replace H := Option.bind_eq_some_iff.mp H
        obtain ⟨⟨aQ, aV, bi, cy⟩, lZ, H⟩ := H
        replace H : ((cursor_Text.f aQ aV bi cy 4).bind fun hv => ((cursor_Num.f hv.2.1 hv.2.2.1 hv.2.2.2.1 hv.2.2.2.2 4).bind fun cH => ((cursor_Text.f cH.2.1 cH.2.2.1 cH.2.2.2.1 cH.2.2.2.2 4).bind fun el => ((cursor_Num.f el.2.1 el.2.2.1 el.2.2.2.1 el.2.2.2.2 4).bind fun dF => ((cursor_Text.f dF.2.1 dF.2.2.1 dF.2.2.2.1 dF.2.2.2.2 4).bind fun cf => ((cursor_Num.f cf.2.1 cf.2.2.1 cf.2.2.2.1 cf.2.2.2.2 4).bind fun hO => (some (3, 0, 0, (⟨#[]⟩ : ByteArray), 0, 0, (⟨#[]⟩ : ByteArray), 0, 0, (⟨#[]⟩ : ByteArray), 0, (⟨#[]⟩ : ByteArray), dF.1, hO.1, 0, wrap64 ((bt a0 1) / 8), wrap64 (bt a0 3), cH.1, 0, el.1, cf.1, ([] : List (S46)), 0, (⟨#[]⟩ : ByteArray), ba, 0, 0)))))))) = some (r1, r2, r3, r4, r5, r6, r7, r8, r9, r10, r11, r12, r13, r14, r15, r16, r17, r18, r19, r20, r21, r22, r23, r24, r25, r26, r27) := H
        have sb := Aside0.mk lZ
        clear lZ
        replace H := Option.bind_eq_some_iff.mp H
        obtain ⟨⟨cF, cD, cj, cm, ce⟩, jP, H⟩ := H
        replace H : ((cursor_Num.f cD cj cm ce 4).bind fun cH => ((cursor_Text.f cH.2.1 cH.2.2.1 cH.2.2.2.1 cH.2.2.2.2 4).bind fun el => ((cursor_Num.f el.2.1 el.2.2.1 el.2.2.2.1 el.2.2.2.2 4).bind fun dF => ((cursor_Text.f dF.2.1 dF.2.2.1 dF.2.2.2.1 dF.2.2.2.2 4).bind fun cf => ((cursor_Num.f cf.2.1 cf.2.2.1 cf.2.2.2.1 cf.2.2.2.2 4).bind fun hO => (some (3, 0, 0, (⟨#[]⟩ : ByteArray), 0, 0, (⟨#[]⟩ : ByteArray), 0, 0, (⟨#[]⟩ : ByteArray), 0, (⟨#[]⟩ : ByteArray), dF.1, hO.1, 0, wrap64 ((bt a0 1) / 8), wrap64 (bt a0 3), cH.1, 0, el.1, cf.1, ([] : List (S46)), 0, (⟨#[]⟩ : ByteArray), ba, 0, 0))))))) = some (r1, r2, r3, r4, r5, r6, r7, r8, r9, r10, r11, r12, r13, r14, r15, r16, r17, r18, r19, r20, r21, r22, r23, r24, r25, r26, r27) := H
        have ma := Aside0.mk jP
        clear jP
        replace H := Option.bind_eq_some_iff.mp H
        obtain ⟨⟨cg, co, ck, cu, ch⟩, oi, H⟩ := H
        replace H : ((cursor_Text.f co ck cu ch 4).bind fun el => ((cursor_Num.f el.2.1 el.2.2.1 el.2.2.2.1 el.2.2.2.2 4).bind fun dF => ((cursor_Text.f dF.2.1 dF.2.2.1 dF.2.2.2.1 dF.2.2.2.2 4).bind fun cf => ((cursor_Num.f cf.2.1 cf.2.2.1 cf.2.2.2.1 cf.2.2.2.2 4).bind fun hO => (some (3, 0, 0, (⟨#[]⟩ : ByteArray), 0, 0, (⟨#[]⟩ : ByteArray), 0, 0, (⟨#[]⟩ : ByteArray), 0, (⟨#[]⟩ : ByteArray), dF.1, hO.1, 0, wrap64 ((bt a0 1) / 8), wrap64 (bt a0 3), cg, 0, el.1, cf.1, ([] : List (S46)), 0, (⟨#[]⟩ : ByteArray), ba, 0, 0)))))) = some (r1, r2, r3, r4, r5, r6, r7, r8, r9, r10, r11, r12, r13, r14, r15, r16, r17, r18, r19, r20, r21, r22, r23, r24, r25, r26, r27) := H
        have vt := Aside0.mk oi
        clear oi
        replace H := Option.bind_eq_some_iff.mp H
        obtain ⟨⟨cG, ik, eH, cN, cr⟩, kH, H⟩ := H
        replace H : ((cursor_Num.f ik eH cN cr 4).bind fun dF => ((cursor_Text.f dF.2.1 dF.2.2.1 dF.2.2.2.1 dF.2.2.2.2 4).bind fun cf => ((cursor_Num.f cf.2.1 cf.2.2.1 cf.2.2.2.1 cf.2.2.2.2 4).bind fun hO => (some (3, 0, 0, (⟨#[]⟩ : ByteArray), 0, 0, (⟨#[]⟩ : ByteArray), 0, 0, (⟨#[]⟩ : ByteArray), 0, (⟨#[]⟩ : ByteArray), dF.1, hO.1, 0, wrap64 ((bt a0 1) / 8), wrap64 (bt a0 3), cg, 0, cG, cf.1, ([] : List (S46)), 0, (⟨#[]⟩ : ByteArray), ba, 0, 0))))) = some (r1, r2, r3, r4, r5, r6, r7, r8, r9, r10, r11, r12, r13, r14, r15, r16, r17, r18, r19, r20, r21, r22, r23, r24, r25, r26, r27) := H
        have gN := Aside0.mk kH
        clear kH
        replace H := Option.bind_eq_some_iff.mp H
        obtain ⟨⟨cz, jx, gV, cE, fh⟩, oj, H⟩ := H
        replace H : ((cursor_Text.f jx gV cE fh 4).bind fun cf => ((cursor_Num.f cf.2.1 cf.2.2.1 cf.2.2.2.1 cf.2.2.2.2 4).bind fun hO => (some (3, 0, 0, (⟨#[]⟩ : ByteArray), 0, 0, (⟨#[]⟩ : ByteArray), 0, 0, (⟨#[]⟩ : ByteArray), 0, (⟨#[]⟩ : ByteArray), cz, hO.1, 0, wrap64 ((bt a0 1) / 8), wrap64 (bt a0 3), cg, 0, cG, cf.1, ([] : List (S46)), 0, (⟨#[]⟩ : ByteArray), ba, 0, 0)))) = some (r1, r2, r3, r4, r5, r6, r7, r8, r9, r10, r11, r12, r13, r14, r15, r16, r17, r18, r19, r20, r21, r22, r23, r24, r25, r26, r27) := H
        have iF := Aside0.mk oj
        clear oj
        replace H := Option.bind_eq_some_iff.mp H
        obtain ⟨⟨cA, gq, dt, dE, eJ⟩, ol, H⟩ := H
        replace H : ((cursor_Num.f gq dt dE eJ 4).bind fun hO => (some (3, 0, 0, (⟨#[]⟩ : ByteArray), 0, 0, (⟨#[]⟩ : ByteArray), 0, 0, (⟨#[]⟩ : ByteArray), 0, (⟨#[]⟩ : ByteArray), cz, hO.1, 0, wrap64 ((bt a0 1) / 8), wrap64 (bt a0 3), cg, 0, cG, cA, ([] : List (S46)), 0, (⟨#[]⟩ : ByteArray), ba, 0, 0))) = some (r1, r2, r3, r4, r5, r6, r7, r8, r9, r10, r11, r12, r13, r14, r15, r16, r17, r18, r19, r20, r21, r22, r23, r24, r25, r26, r27) := H
        have sc := Aside0.mk ol
        clear ol
        replace H := Option.bind_eq_some_iff.mp H
        obtain ⟨⟨il, gC, gp, dg, dh⟩, iI, H⟩ := H
        replace H : (some (3, 0, 0, (⟨#[]⟩ : ByteArray), 0, 0, (⟨#[]⟩ : ByteArray), 0, 0, (⟨#[]⟩ : ByteArray), 0, (⟨#[]⟩ : ByteArray), cz, il, 0, wrap64 ((bt a0 1) / 8), wrap64 (bt a0 3), cg, 0, cG, cA, ([] : List (S46)), 0, (⟨#[]⟩ : ByteArray), ba, 0, 0)) = some (r1, r2, r3, r4, r5, r6, r7, r8, r9, r10, r11, r12, r13, r14, r15, r16, r17, r18, r19, r20, r21, r22, r23, r24, r25, r26, r27) := H
        have lT := Aside0.mk iI
        clear iI
        simp only [Option.some.injEq, Prod.mk.injEq] at H
        obtain ⟨rfl, rfl, rfl, rfl, rfl, rfl, rfl, rfl, rfl, rfl, rfl, rfl, rfl, rfl, rfl, rfl, rfl, rfl, rfl, rfl, rfl, rfl, rfl, rfl, rfl, rfl, rfl⟩ := H
        go_enter Try.func22, Try.ntmps22
        try go_wp2_with (first | ((with_reducible refine gate_dst (N := 46) rfl ?_); refine Pre.build_event 46 25 [(0, Go.Operand.const (Go.Value.int Go.IntKind.i64 3)), (15, Go.Operand.tmp 41), (16, Go.Operand.tmp 44), (24, Go.Operand.tmp 45)] rfl rfl rfl (rreq_Get.bd46 _ _ _ _ _ _) ?_) | ((with_reducible refine Pre.gate_load 25 rfl ?_); (try (refine gate_guard Z13 ?_; dsimp only)); refine Pre.load_event rfl rfl rfl Z13 Z23 Try.underlying25 rfl Z6 ?_) | ((with_reducible refine gate_dst (N := 2) rfl ?_); refine box_event ?hg (N := 2) ?hd (cs := #[.int .i64 0, .int .i64 0, .int .i64 0, .string ⟨#[]⟩, .int .i64 0, .int .i64 0, .string ⟨#[]⟩, .int .i64 0, .int .i64 0, .string ⟨#[]⟩, .int .i64 0, .string ⟨#[]⟩, .int .i64 0, .int .i64 0, .int .i64 0, .int .i64 0, .int .i64 0, .int .i64 0, .int .i64 0, .string ⟨#[]⟩, .string ⟨#[]⟩, .slice none 0 0, .int .i64 0, .string ⟨#[]⟩, .slice none 0 0]) (t := 25) ?hr ?_; (case hd => rfl); (case hg => rfl); (case hr => first | (go_simp; done) | (go_simp; rfl)); intro aa hg ed hbox hb; have aG := Aside0.mk (below_step Z3 hb); have aH := Aside0.mk (hbox); have aI := Aside0.mk ((by rw [hg]; exact (below_size Z3) : w.heap.size ≤ aa)); have aZ := Aside0.mk ((by rw [hg]; exact (below_size Z3) : w.heap.size ≤ aa)); replace HB := aG; have ab := aH; have cl := aI; have bs := aZ; clear aG aH aI aZ; clear hb hbox hg))
        have aG := Aside0.mk (blk_drew ab.out)
        have aH := Aside0.mk (below_drew1 HB.out)
        clear ab
        clear HB
        have ab := aG
        have HB := aH
        clear aG aH
        have p7 : 0 ≤ (1 : Int) := Z55
        have q7 : 1 < a0.size := (by have : (1 : Int) < (a0.size : Int) := of_decide_eq_true Z10; omega)
        have hx7 : ∀ h : 1 < a0.size, ((a0[1]'h).toNat : Int) = bt a0 1 := bt_at a0 1
        clear p7
        have qi7 : (1 < (a0.size : Int)) = True := eq_true (of_decide_eq_true Z10)
        replace q7 := eq_true q7
        have p9 : 0 ≤ (2 : Int) := Z55
        have q9 : 2 < a0.size := (by have : (2 : Int) < (a0.size : Int) := of_decide_eq_true Z10; omega)
        have hx9 : ∀ h : 2 < a0.size, ((a0[2]'h).toNat : Int) = bt a0 2 := bt_at a0 2
        clear p9
        have qi9 : (2 < (a0.size : Int)) = True := eq_true (of_decide_eq_true Z10)
        replace q9 := eq_true q9
        refine start_ (n := 7) (S := fun w' => True) (ds := []) #[false, false, false, false, false, false, false] Z6 rfl rfl trivial (fun hHeld => ?_)
        generalize ed.drew = gO at ab HB hHeld ⊢
        refine pure_ (i := 0) (N := some 17) (v := ?_) (a' := ?_) #[true, false, false, false, false, false, false] rfl rfl Z6 (fun _ _ _ h => h) (Or.inl ⟨Z13, ?_⟩) ?_ ?_
        rotate_left
        ·intro w'
         go_simp
         with_reducible rfl
        rotate_left
        ·simp only [Act.put, List.setIfInBounds_toArray, List.set_cons_zero, List.set_cons_succ, i64_w, i32_w]
         rfl
        refine pure_ (i := 3) (N := some 20) (v := ?_) (a' := ?_) #[true, false, false, true, false, false, false] rfl rfl Z6 (fun _ _ _ h => h) (Or.inl ⟨Z13, ?_⟩) ?_ ?_
        rotate_left
        ·intro w'
         go_simp
         with_reducible rfl
        rotate_left
        ·simp only [Act.put, List.setIfInBounds_toArray, List.set_cons_zero, List.set_cons_succ, i64_w, i32_w]
         rfl
        refine take_ (i := 1) (N := some 18) (v := ?_) (a' := ?_) #[true, true, false, true, false, false, false] rfl rfl Z6 (fun _ _ _ h => h) (Or.inl ⟨Z13, ?_⟩) hHeld ?_ ?_
        rotate_left
        ·intro w' _
         go_simp
         with_reducible rfl
        rotate_left
        ·simp only [Act.put, List.setIfInBounds_toArray, List.set_cons_zero, List.set_cons_succ, i64_w, i32_w]
         rfl
        refine pure_ (i := 2) (N := some 19) (v := ?_) (a' := ?_) #[true, true, true, true, false, false, false] rfl rfl Z6 (fun _ _ _ h => h) (Or.inl ⟨Z13, ?_⟩) ?_ ?_
        rotate_left
        ·intro w'
         go_simp
         with_reducible rfl
        rotate_left
        ·simp only [Act.put, List.setIfInBounds_toArray, List.set_cons_zero, List.set_cons_succ, i64_w, i32_w]
         rfl
        refine take_ (i := 4) (N := some 21) (v := ?_) (a' := ?_) #[true, true, true, true, true, false, false] rfl rfl Z6 (fun _ _ _ h => h) (Or.inl ⟨Z13, ?_⟩) hHeld ?_ ?_
        rotate_left
        ·intro w' _
         go_simp
         with_reducible rfl
        rotate_left
        ·simp only [Act.put, List.setIfInBounds_toArray, List.set_cons_zero, List.set_cons_succ, i64_w, i32_w]
         rfl
        refine pure_ (i := 5) (N := some 22) (v := ?_) (a' := ?_) #[true, true, true, true, true, true, false] rfl rfl Z6 (fun _ _ _ h => h) (Or.inl ⟨Z13, ?_⟩) ?_ ?_
        rotate_left
        ·intro w'
         go_simp
         with_reducible rfl
        rotate_left
        ·simp only [Act.put, List.setIfInBounds_toArray, List.set_cons_zero, List.set_cons_succ, i64_w, i32_w]
         rfl
        refine pure_ (i := 6) (N := some 23) (v := ?_) (a' := ?_) #[true, true, true, true, true, true, true] rfl rfl Z6 (fun _ _ _ h => h) (Or.inl ⟨Z13, ?_⟩) ?_ ?_
        rotate_left
        ·intro w'
         go_simp
         with_reducible rfl
        rotate_left
        ·simp only [Act.put, List.setIfInBounds_toArray, List.set_cons_zero, List.set_cons_succ, i64_w, i32_w]
         rfl
        refine done_ Z6 ?_
        try go_wp2_with (first | ((with_reducible refine gate_dst (N := 46) rfl ?_); refine Pre.build_event 46 25 [(0, Go.Operand.const (Go.Value.int Go.IntKind.i64 3)), (15, Go.Operand.tmp 41), (16, Go.Operand.tmp 44), (24, Go.Operand.tmp 45)] rfl rfl rfl (rreq_Get.bd46 _ _ _ _ _ _) ?_) | ((with_reducible refine Pre.gate_load 25 rfl ?_); (try (refine gate_guard Z13 ?_; dsimp only)); refine Pre.load_event rfl rfl rfl Z13 Z23 Try.underlying25 rfl Z6 ?_) | ((with_reducible refine gate_callee (f := 59) rfl ?_); refine goesL_ (some 28) rfl rfl Try.func59 Z6 rfl #[.string (a0.extract 24 a0.size)] rfl Z5 ?_; (with_reducible refine (ext_Get.calls k (a0.extract 24 a0.size) ba bf bc _ ln.out).mono ?_); rintro e gD ⟨jM, rfl, ho0, hb⟩; refine ⟨_, rfl, ?_⟩; have aG := Aside0.mk (Kd.R_lower ho0 (below_size Z0)); have aH := Aside0.mk (blk_below (g := aa) Z1 hb); have aI := Aside0.mk (below_step Z0 hb); have cn := aG; replace ab := aH; replace HB := aI; clear aG aH aI; (try clear hb); (try clear hb2); (try clear hk); (try clear hi); (try clear ho0)))
        have aG := Aside0.mk (Kd.R_drew cn.out)
        have aH := Aside0.mk (blk_drew ab.out)
        have aI := Aside0.mk (below_drew1 HB.out)
        clear cn
        clear ab
        clear HB
        have cn := aG
        have ab := aH
        have HB := aI
        clear aG aH aI
        have p14 : 0 ≤ (1 : Int) := Z55
        have q14 : 1 < a0.size := (by have : (1 : Int) < (a0.size : Int) := of_decide_eq_true Z10; omega)
        have hx14 : ∀ h : 1 < a0.size, ((a0[1]'h).toNat : Int) = bt a0 1 := bt_at a0 1
        clear p14
        have qi14 : (1 < (a0.size : Int)) = True := eq_true (of_decide_eq_true Z10)
        replace q14 := eq_true q14
        have p16 : 0 ≤ (3 : Int) := Z55
        have q16 : 3 < a0.size := (by have : (3 : Int) < (a0.size : Int) := of_decide_eq_true Z10; omega)
        have hx16 : ∀ h : 3 < a0.size, ((a0[3]'h).toNat : Int) = bt a0 3 := bt_at a0 3
        clear p16
        have qi16 : (3 < (a0.size : Int)) = True := eq_true (of_decide_eq_true Z10)
        replace q16 := eq_true q16
        obtain ⟨hZ, ia, eo28⟩ := Kd.R_slice cn.out
        (first | subst eo28 | (injection eo28 with f1_ f2_ f3_; have f4_ := f1_.symm; have f5_ := f3_.symm; clear f1_ f2_ f3_; subst f4_; subst f5_))
        refine start_ (n := 11) (S := fun w' => True) (ds := []) #[false, false, false, false, false, false, false, false, false, false, false] Z6 rfl rfl trivial (fun hHeld => ?_); refine with_tabW rreq_Get.tab8 rreq_Get.bits8 (fun HT_ HW_ => ?_)
        generalize gD.drew = iy at cn ab HB hHeld ⊢
        refine pure_ (i := 0) (N := some 38) (v := ?_) (a' := ?_) #[true, false, false, false, false, false, false, false, false, false, false] rfl rfl (any_of HT_.out Z6) (fun _ _ _ h => h) (Or.inl ⟨Z13, ?_⟩) ?_ ?_
        rotate_left
        ·intro w'
         go_simp
         with_reducible rfl
        rotate_left
        ·simp only [Act.put, List.setIfInBounds_toArray, List.set_cons_zero, List.set_cons_succ, i64_w, i32_w]
         rfl
        refine pure_ (i := 4) (N := some 42) (v := ?_) (a' := ?_) #[true, false, false, false, true, false, false, false, false, false, false] rfl rfl (any_of HT_.out Z6) (fun _ _ _ h => h) (Or.inl ⟨Z13, ?_⟩) ?_ ?_
        rotate_left
        ·intro w'
         go_simp
         with_reducible rfl
        rotate_left
        ·simp only [Act.put, List.setIfInBounds_toArray, List.set_cons_zero, List.set_cons_succ, i64_w, i32_w]
         rfl
        refine pure_ (i := 7) (N := some 45) (v := ?_) (a' := ?_) #[true, false, false, false, true, false, false, true, false, false, false] rfl rfl (any_of HT_.out Z6) (fun _ _ _ h => h) (Or.inl ⟨Z13, ?_⟩) ?_ ?_
        rotate_left
        ·intro w'
         go_simp
         with_reducible rfl
        rotate_left
        ·simp only [Act.put, List.setIfInBounds_toArray, List.set_cons_zero, List.set_cons_succ, i64_w, i32_w]
         rfl
        refine take_ (i := 1) (N := some 39) (v := ?_) (a' := ?_) #[true, true, false, false, true, false, false, true, false, false, false] rfl rfl (take_ofW HT_.out HW_.out Z6) (fun _ _ _ h => h) (Or.inl ⟨Z13, ?_⟩) hHeld ?_ ?_
        rotate_left
        ·intro w' _
         go_simp
         with_reducible rfl
        rotate_left
        ·simp only [Act.put, List.setIfInBounds_toArray, List.set_cons_zero, List.set_cons_succ, i64_w, i32_w]
         rfl
        refine pure_ (i := 2) (N := some 40) (v := ?_) (a' := ?_) #[true, true, true, false, true, false, false, true, false, false, false] rfl rfl (any_of HT_.out Z6) (fun _ _ _ h => h) (Or.inl ⟨Z13, ?_⟩) ?_ ?_
        rotate_left
        ·intro w'
         go_simp
         with_reducible rfl
        rotate_left
        ·simp only [Act.put, List.setIfInBounds_toArray, List.set_cons_zero, List.set_cons_succ, i64_w, i32_w]
         rfl
        refine pure_ (i := 3) (N := some 41) (v := ?_) (a' := ?_) #[true, true, true, true, true, false, false, true, false, false, false] rfl rfl (any_of HT_.out Z6) (fun _ _ _ h => h) (Or.inl ⟨Z13, ?_⟩) ?_ ?_
        rotate_left
        ·intro w'
         go_simp
         with_reducible rfl
        rotate_left
        ·simp only [Act.put, List.setIfInBounds_toArray, List.set_cons_zero, List.set_cons_succ, i64_w, i32_w]
         rfl
        refine take_ (i := 5) (N := some 43) (v := ?_) (a' := ?_) #[true, true, true, true, true, true, false, true, false, false, false] rfl rfl (take_ofW HT_.out HW_.out Z6) (fun _ _ _ h => h) (Or.inl ⟨Z13, ?_⟩) hHeld ?_ ?_
        rotate_left
        ·intro w' _
         go_simp
         with_reducible rfl
        rotate_left
        ·simp only [Act.put, List.setIfInBounds_toArray, List.set_cons_zero, List.set_cons_succ, i64_w, i32_w]
         rfl
        refine pure_ (i := 6) (N := some 44) (v := ?_) (a' := ?_) #[true, true, true, true, true, true, true, true, false, false, false] rfl rfl (any_of HT_.out Z6) (fun _ _ _ h => h) (Or.inl ⟨Z13, ?_⟩) ?_ ?_
        rotate_left
        ·intro w'
         go_simp
         with_reducible rfl
        rotate_left
        ·simp only [Act.put, List.setIfInBounds_toArray, List.set_cons_zero, List.set_cons_succ, i64_w, i32_w]
         rfl
        refine pure_ (i := 8) (N := some 46) (v := ?_) (a' := ?_) #[true, true, true, true, true, true, true, true, true, false, false] rfl rfl (any_of HT_.out Z6) (fun _ _ _ h => h) (Or.inl ⟨Z13, ?_⟩) ?_ ?_
        rotate_left
        ·intro w'
         refine Eq.trans (Pre.build_run 25 [(0, Go.Operand.const (Go.Value.int Go.IntKind.i64 3)), (15, Go.Operand.tmp 41), (16, Go.Operand.tmp 44), (24, Go.Operand.tmp 45)] rfl (rreq_Get.bd46 _ _ _ _ _ _)) ?_
         with_reducible rfl
        rotate_left
        ·simp only [Act.put, List.setIfInBounds_toArray, List.set_cons_zero, List.set_cons_succ, i64_w, i32_w]
         rfl
        refine one_ (i := 9) (N := some 8) #[true, true, true, true, true, true, true, true, true, true, false] rfl rfl (one_of HT_.out Z6) Z32 (fun K hK => ?_)
        refine box_step ?hg (N := 8) ?hd (cs := #[.int .i64 0, .int .i64 0, .int .i64 0, .string ⟨#[]⟩, .int .i64 0, .int .i64 0, .string ⟨#[]⟩, .int .i64 0, .int .i64 0, .string ⟨#[]⟩, .int .i64 0, .string ⟨#[]⟩, .int .i64 0, .int .i64 0, .int .i64 0, .int .i64 0, .int .i64 0, .int .i64 0, .int .i64 0, .string ⟨#[]⟩, .string ⟨#[]⟩, .slice none 0 0, .int .i64 0, .string ⟨#[]⟩, .slice none 0 0]) (t := 25) ?hr ?_; (case hd => rfl); (case hg => rfl); (case hr => first | (go_simp; done) | (go_simp; rfl))
        intro cd hg hX hbox hb
        have aG := Aside0.mk (Kd.R_below Z77 hb)
        have aH := Aside0.mk (blk_below (g := aa) Z1 hb)
        have aI := Aside0.mk (below_step Z0 hb)
        have aZ := Aside0.mk (hbox)
        have bH := Aside0.mk ((by rw [hg]; exact (below_size Z0) : w.heap.size ≤ cd))
        have cx := Aside0.mk ((by rw [hg]; exact (below_size Z0) : w.heap.size ≤ cd))
        have du := Aside0.mk ((by rw [hg]; exact Nat.ne_of_lt (blk_lt (g := aa) Z1) : aa ≠ cd))
        have gE := Aside0.mk ((by rw [hg]; exact Nat.ne_of_gt (blk_lt (g := aa) Z1) : cd ≠ aa))
        clear cn
        clear ab
        clear HB
        have cn := aG
        have ab := aH
        have HB := aI
        have bX := aZ
        have ng := bH
        have jz := cx
        have hh := du
        have jq := gE
        clear aG aH aI aZ bH cx du gE
        clear hb hbox hg
        refine hK.out _ _ trivial (fun hHeld => ?_)
        clear hK K
        refine norm_ (a' := ?_) ?_ ?_
        rotate_left
        ·show Act.put _ (some 8) _ = _
         simp only [Act.put, List.setIfInBounds_toArray, List.set_cons_zero, List.set_cons_succ, i64_w, i32_w]
         rfl
        refine one_ (i := 10) (N := none) #[true, true, true, true, true, true, true, true, true, true, true] rfl rfl (one_of HT_.out Z6) Z32 (fun K hK => ?_)
        refine skip_ (w1 := ?_) Z13 rfl ?_ ?_
        rotate_left
        ·refine Eq.trans (Pre.store_run rfl Z13 Z13 bX.out Z6 Z13 Z13) ?_
         rfl
        refine hK.out _ _ trivial (fun hHeld => ?_)
        clear hK K
        refine done_ (done_of HT_.out Z6) ?_
        refine Pre.abs_end (g := cd) (t := 25) (cs := #[.int .i64 0, .int .i64 0, .int .i64 0, .string ⟨#[]⟩, .int .i64 0, .int .i64 0, .string ⟨#[]⟩, .int .i64 0, .int .i64 0, .string ⟨#[]⟩, .int .i64 0, .string ⟨#[]⟩, .int .i64 0, .int .i64 0, .int .i64 0, .int .i64 0, .int .i64 0, .int .i64 0, .int .i64 0, .string ⟨#[]⟩, .string ⟨#[]⟩, .slice none 0 0, .int .i64 0, .string ⟨#[]⟩, .slice none 0 0]) (cells := #[.int .i64 3, .int .i64 0, .int .i64 0, .string ⟨#[]⟩, .int .i64 0, .int .i64 0, .string ⟨#[]⟩, .int .i64 0, .int .i64 0, .string ⟨#[]⟩, .int .i64 0, .string ⟨#[]⟩, .int .i64 0, .int .i64 0, .int .i64 0, .int .i64 (wrap64 ((bt a0 1) / 8)), .int .i64 (wrap64 (bt a0 3)), .int .i64 0, .int .i64 0, .string ⟨#[]⟩, .string ⟨#[]⟩, .slice none 0 0, .int .i64 0, .string ⟨#[]⟩, .slice hZ ba.length ia]) Z46 Z13 ?_
        intro sd hbS_ sS_
        replace hbS_ := Aside0.mk hbS_
        replace sS_ : Aside0 (Pre.Sets cd hX sd) := ⟨⟨sS_.os, sS_.tape, sS_.output, sS_.size, sS_.block⟩⟩
        have aG : Aside0 (Kd.R k48 48 sd w.heap.size (fun _ => True) (.slice hZ ba.length ia) ba) := ⟨Kd.R_mono (Pre.R_sets sS_.out (Kd.R_types cn.out bX.out Z32) (fun _ hk => hk.2)) (fun _ hk => trivial)⟩
        have aH : Aside0 (sd.heap[aa]? = some (.cells #[.int .i64 0, .int .i64 0, .int .i64 0, .string ⟨#[]⟩, .int .i64 0, .int .i64 0, .string ⟨#[]⟩, .int .i64 0, .int .i64 0, .string ⟨#[]⟩, .int .i64 0, .string ⟨#[]⟩, .int .i64 0, .int .i64 0, .int .i64 0, .int .i64 0, .int .i64 0, .int .i64 0, .int .i64 0, .string ⟨#[]⟩, .string ⟨#[]⟩, .slice none 0 0, .int .i64 0, .string ⟨#[]⟩, .slice none 0 0] 25 (0, 0))) := ⟨sS_.out.blk Z1 hh.out⟩
        have aI : Aside0 (sd.heap[cd]? = some (.cells #[.int .i64 3, .int .i64 0, .int .i64 0, .string ⟨#[]⟩, .int .i64 0, .int .i64 0, .string ⟨#[]⟩, .int .i64 0, .int .i64 0, .string ⟨#[]⟩, .int .i64 0, .string ⟨#[]⟩, .int .i64 0, .int .i64 0, .int .i64 0, .int .i64 (wrap64 ((bt a0 1) / 8)), .int .i64 (wrap64 (bt a0 3)), .int .i64 0, .int .i64 0, .string ⟨#[]⟩, .string ⟨#[]⟩, .slice none 0 0, .int .i64 0, .string ⟨#[]⟩, .slice hZ ba.length ia] 25 (0, 0))) := ⟨hbS_.out⟩
        have aZ : Aside0 (Below w.heap.size w sd) := ⟨sS_.out.below Z38 jz.out⟩
        clear hbS_ sS_
        (try clear cn)
        (try clear ab)
        (try clear bX)
        (try clear HB)
        have cn := aG
        have ab := aH
        have bX := aI
        have HB := aZ
        clear aG aH aI aZ
        try go_wp2_with (first | ((with_reducible refine gate_dst (N := 46) rfl ?_); refine Pre.build_event 46 25 [(0, Go.Operand.const (Go.Value.int Go.IntKind.i64 3)), (15, Go.Operand.tmp 41), (16, Go.Operand.tmp 44), (24, Go.Operand.tmp 45)] rfl rfl rfl (rreq_Get.bd46 _ _ _ _ _ _) ?_) | ((with_reducible refine Pre.gate_load 25 rfl ?_); (try (refine gate_guard Z13 ?_; dsimp only)); refine Pre.load_event rfl rfl rfl Z13 Z23 Try.underlying25 rfl Z6 ?_) | ((with_reducible refine gate_callee (f := 61) rfl ?_); refine goesL_ (some 49) rfl rfl Try.func61 Z6 rfl #[.string a0] rfl Z5 ?_; (with_reducible refine (cursor_New.calls a0 aQ aV bi cy _ sb.out).mono ?_); rintro e pH ⟨rfl, hb⟩; refine ⟨_, rfl, ?_⟩; have aG := Aside0.mk (Kd.R_below Z77 hb); have aH := Aside0.mk (blk_below (g := aa) Z1 hb); have aI := Aside0.mk (blk_below (g := cd) Z46 hb); have aZ := Aside0.mk (below_step Z38 hb); replace cn := aG; replace ab := aH; replace bX := aI; replace HB := aZ; clear aG aH aI aZ; (try clear hb); (try clear hb2); (try clear hk); (try clear hi)) | ((with_reducible refine gate_callee (f := 60) rfl ?_); refine goesL_ (some 50) rfl rfl Try.func60 Z6 rfl #[.agg #[.string aQ, .int .i64 aV, .int .i64 bi, .bool cy], .int .i64 4] rfl Z5 ?_; (with_reducible refine (cursor_Text.calls aQ aV bi cy 4 cF cD cj cm ce _ ma.out).mono ?_); rintro e vg ⟨rfl, hb⟩; refine ⟨_, rfl, ?_⟩; have aG := Aside0.mk (Kd.R_below Z77 hb); have aH := Aside0.mk (blk_below (g := aa) Z1 hb); have aI := Aside0.mk (blk_below (g := cd) Z46 hb); have aZ := Aside0.mk (below_step Z38 hb); replace cn := aG; replace ab := aH; replace bX := aI; replace HB := aZ; clear aG aH aI aZ; (try clear hb); (try clear hb2); (try clear hk); (try clear hi)) | ((with_reducible refine gate_dst (N := 10) rfl ?_); refine box_event ?hg (N := 10) ?hd (cs := #[.string ⟨#[]⟩, .int .i64 0, .int .i64 0, .bool false]) (t := 60) ?hr ?_; (case hd => rfl); (case hg => rfl); (case hr => first | (go_simp; done) | (go_simp; rfl)); intro eW hg w58 hbox hb; have aG := Aside0.mk (Kd.R_below Z77 hb); have aH := Aside0.mk (blk_below (g := aa) Z1 hb); have aI := Aside0.mk (blk_below (g := cd) Z46 hb); have aZ := Aside0.mk (below_step Z38 hb); have bH := Aside0.mk (hbox); have cx := Aside0.mk ((by rw [hg]; exact (below_size Z38) : w.heap.size ≤ eW)); have du := Aside0.mk ((by rw [hg]; exact (below_size Z38) : w.heap.size ≤ eW)); have gE := Aside0.mk ((by rw [hg]; exact Nat.ne_of_lt (blk_lt (g := aa) Z1) : aa ≠ eW)); have hC := Aside0.mk ((by rw [hg]; exact Nat.ne_of_gt (blk_lt (g := aa) Z1) : eW ≠ aa)); have jL := Aside0.mk ((by rw [hg]; exact Nat.ne_of_lt (blk_lt (g := cd) Z46) : cd ≠ eW)); have iL := Aside0.mk ((by rw [hg]; exact Nat.ne_of_gt (blk_lt (g := cd) Z46) : eW ≠ cd)); replace cn := aG; replace ab := aH; replace bX := aI; replace HB := aZ; have ha := bH; have GW117 := cx; have sQ := du; have gJ := gE; have lr := hC; have cV := jL; have ki := iL; clear aG aH aI aZ bH cx du gE hC jL iL; clear hb hbox hg; have hnb59 := lr.out; have hnc59 := gJ.out; have sR := ki.out; have sT := cV.out; have sU := cells_4 ha.out) | ((with_reducible refine gate_callee (f := 62) rfl ?_); refine goesL_ (some 55) rfl rfl Try.func62 Z6 rfl #[.agg #[.string cD, .int .i64 cj, .int .i64 cm, .bool ce], .int .i64 4] rfl Z5 ?_; (with_reducible refine (cursor_Num.calls cD cj cm ce 4 cg co ck cu ch _ vt.out).mono ?_); rintro e se ⟨rfl, hb⟩; refine ⟨_, rfl, ?_⟩; have aG := Aside0.mk (Kd.R_below (by (with_reducible repeat (first | apply Kd.R_alloc | apply Kd.R_drewN | apply Kd.R_drew)); exact (Kd.R_mono (Kd.R_far (p := ⟨eW, 3, none⟩) (Kd.R_far (p := ⟨eW, 2, none⟩) (Kd.R_far (p := ⟨eW, 1, none⟩) (Kd.R_far (p := ⟨eW, 0, none⟩) (Kd.R_types cn.out ha.out Z32) (fun _ hk => hk.2) (.string cD)) (fun _ hk => hk.2) (.int .i64 cj)) (fun _ hk => hk.2) (.int .i64 cm)) (fun _ hk => hk.2) (.bool ce)) (fun _ h_ => h_.1))) hb); have aH := Aside0.mk (blk_below (g := aa) (o := .cells #[.int .i64 0, .int .i64 0, .int .i64 0, .string ⟨#[]⟩, .int .i64 0, .int .i64 0, .string ⟨#[]⟩, .int .i64 0, .int .i64 0, .string ⟨#[]⟩, .int .i64 0, .string ⟨#[]⟩, .int .i64 0, .int .i64 0, .int .i64 0, .int .i64 0, .int .i64 0, .int .i64 0, .int .i64 0, .string ⟨#[]⟩, .string ⟨#[]⟩, .slice none 0 0, .int .i64 0, .string ⟨#[]⟩, .slice none 0 0] 25 (0, 0)) (by (with_reducible repeat (first | refine blk_drewN ?_ _ | refine blk_drew ?_ | refine blk_alloc ?_ _)); refine blk_far ?_ gJ.out _; (with_reducible repeat (first | refine blk_drewN ?_ _ | refine blk_drew ?_ | refine blk_alloc ?_ _)); refine blk_far ?_ gJ.out _; (with_reducible repeat (first | refine blk_drewN ?_ _ | refine blk_drew ?_ | refine blk_alloc ?_ _)); refine blk_far ?_ gJ.out _; (with_reducible repeat (first | refine blk_drewN ?_ _ | refine blk_drew ?_ | refine blk_alloc ?_ _)); refine blk_far ?_ gJ.out _; (with_reducible repeat (first | refine blk_drewN ?_ _ | refine blk_drew ?_ | refine blk_alloc ?_ _)); exact ab.out) hb); have aI := Aside0.mk (blk_below (g := cd) (o := .cells #[.int .i64 3, .int .i64 0, .int .i64 0, .string ⟨#[]⟩, .int .i64 0, .int .i64 0, .string ⟨#[]⟩, .int .i64 0, .int .i64 0, .string ⟨#[]⟩, .int .i64 0, .string ⟨#[]⟩, .int .i64 0, .int .i64 0, .int .i64 0, .int .i64 (wrap64 ((bt a0 1) / 8)), .int .i64 (wrap64 (bt a0 3)), .int .i64 0, .int .i64 0, .string ⟨#[]⟩, .string ⟨#[]⟩, .slice none 0 0, .int .i64 0, .string ⟨#[]⟩, .slice hZ ba.length ia] 25 (0, 0)) (by (with_reducible repeat (first | refine blk_drewN ?_ _ | refine blk_drew ?_ | refine blk_alloc ?_ _)); refine blk_far ?_ cV.out _; (with_reducible repeat (first | refine blk_drewN ?_ _ | refine blk_drew ?_ | refine blk_alloc ?_ _)); refine blk_far ?_ cV.out _; (with_reducible repeat (first | refine blk_drewN ?_ _ | refine blk_drew ?_ | refine blk_alloc ?_ _)); refine blk_far ?_ cV.out _; (with_reducible repeat (first | refine blk_drewN ?_ _ | refine blk_drew ?_ | refine blk_alloc ?_ _)); refine blk_far ?_ cV.out _; (with_reducible repeat (first | refine blk_drewN ?_ _ | refine blk_drew ?_ | refine blk_alloc ?_ _)); exact bX.out) hb); have aZ := Aside0.mk (blk_below (g := eW) (o := .cells #[.string cD, .int .i64 cj, .int .i64 cm, .bool ce] 60 (0, 0)) (by (with_reducible repeat (first | refine blk_drewN ?_ _ | refine blk_drew ?_ | refine blk_alloc ?_ _)); apply blk_puts4; (with_reducible repeat (first | refine blk_drewN ?_ _ | refine blk_drew ?_ | refine blk_alloc ?_ _)); exact ha.out) hb); have bH := Aside0.mk (below_step Z54 hb); replace cn := aG; replace ab := aH; replace bX := aI; replace ha := aZ; replace HB := bH; clear aG aH aI aZ bH; (try clear hb); (try clear hb2); (try clear hk); (try clear hi); have hnb63 := jq.out; have hnc63 := hh.out; have hcz64 := cells_25 bX.out; have hcz65 := cells_4 ha.out) | ((with_reducible refine gate_callee (f := 60) rfl ?_); refine goesL_ (some 61) rfl rfl Try.func60 Z6 rfl #[.agg #[.string co, .int .i64 ck, .int .i64 cu, .bool ch], .int .i64 4] rfl Z5 ?_; (with_reducible refine (cursor_Text.calls co ck cu ch 4 cG ik eH cN cr _ gN.out).mono ?_); rintro e wu ⟨rfl, hb⟩; refine ⟨_, rfl, ?_⟩; have aG := Aside0.mk (Kd.R_below (by (with_reducible repeat (first | apply Kd.R_alloc | apply Kd.R_drewN | apply Kd.R_drew)); exact (Kd.R_mono (Kd.R_mono (Kd.R_far (p := ⟨eW, 3, none⟩) (Kd.R_far (p := ⟨eW, 2, none⟩) (Kd.R_far (p := ⟨eW, 1, none⟩) (Kd.R_far (p := ⟨eW, 0, none⟩) (Kd.R_far (p := ⟨cd, 17, none⟩) (Kd.R_types (Kd.R_types cn.out bX.out Z32) ha.out Z32) (fun _ hk => hk.1.2) (.int .i64 cg)) (fun _ hk => hk.2) (.string co)) (fun _ hk => hk.2) (.int .i64 ck)) (fun _ hk => hk.2) (.int .i64 cu)) (fun _ hk => hk.2) (.bool ch)) (fun _ h_ => h_.1)) (fun _ h_ => h_.1))) hb); have aH := Aside0.mk (blk_below (g := aa) (o := .cells #[.int .i64 0, .int .i64 0, .int .i64 0, .string ⟨#[]⟩, .int .i64 0, .int .i64 0, .string ⟨#[]⟩, .int .i64 0, .int .i64 0, .string ⟨#[]⟩, .int .i64 0, .string ⟨#[]⟩, .int .i64 0, .int .i64 0, .int .i64 0, .int .i64 0, .int .i64 0, .int .i64 0, .int .i64 0, .string ⟨#[]⟩, .string ⟨#[]⟩, .slice none 0 0, .int .i64 0, .string ⟨#[]⟩, .slice none 0 0] 25 (0, 0)) Z33 hb); have aI := Aside0.mk (blk_below (g := cd) (o := .cells #[.int .i64 3, .int .i64 0, .int .i64 0, .string ⟨#[]⟩, .int .i64 0, .int .i64 0, .string ⟨#[]⟩, .int .i64 0, .int .i64 0, .string ⟨#[]⟩, .int .i64 0, .string ⟨#[]⟩, .int .i64 0, .int .i64 0, .int .i64 0, .int .i64 (wrap64 ((bt a0 1) / 8)), .int .i64 (wrap64 (bt a0 3)), .int .i64 cg, .int .i64 0, .string ⟨#[]⟩, .string ⟨#[]⟩, .slice none 0 0, .int .i64 0, .string ⟨#[]⟩, .slice hZ ba.length ia] 25 (0, 0)) (by (with_reducible repeat (first | refine blk_drewN ?_ _ | refine blk_drew ?_ | refine blk_alloc ?_ _)); refine blk_far ?_ cV.out _; (with_reducible repeat (first | refine blk_drewN ?_ _ | refine blk_drew ?_ | refine blk_alloc ?_ _)); refine blk_far ?_ cV.out _; (with_reducible repeat (first | refine blk_drewN ?_ _ | refine blk_drew ?_ | refine blk_alloc ?_ _)); refine blk_far ?_ cV.out _; (with_reducible repeat (first | refine blk_drewN ?_ _ | refine blk_drew ?_ | refine blk_alloc ?_ _)); refine blk_far ?_ cV.out _; (with_reducible repeat (first | refine blk_drewN ?_ _ | refine blk_drew ?_ | refine blk_alloc ?_ _)); refine blk_put (cs := #[.int .i64 3, .int .i64 0, .int .i64 0, .string ⟨#[]⟩, .int .i64 0, .int .i64 0, .string ⟨#[]⟩, .int .i64 0, .int .i64 0, .string ⟨#[]⟩, .int .i64 0, .string ⟨#[]⟩, .int .i64 0, .int .i64 0, .int .i64 0, .int .i64 (wrap64 ((bt a0 1) / 8)), .int .i64 (wrap64 (bt a0 3)), .int .i64 0, .int .i64 0, .string ⟨#[]⟩, .string ⟨#[]⟩, .slice none 0 0, .int .i64 0, .string ⟨#[]⟩, .slice hZ ba.length ia]) ?_ 17 _ rfl; (with_reducible repeat (first | refine blk_drewN ?_ _ | refine blk_drew ?_ | refine blk_alloc ?_ _)); exact bX.out) hb); have aZ := Aside0.mk (blk_below (g := eW) (o := .cells #[.string co, .int .i64 ck, .int .i64 cu, .bool ch] 60 (0, 0)) Z57 hb); have bH := Aside0.mk (below_step Z54 hb); replace cn := aG; replace ab := aH; replace bX := aI; replace ha := aZ; replace HB := bH; clear aG aH aI aZ bH; (try clear hb); (try clear hb2); (try clear hk); (try clear hi); have hcz67 := cells_25 bX.out; have sV := cells_4 ha.out) | ((with_reducible refine gate_callee (f := 62) rfl ?_); refine goesL_ (some 67) rfl rfl Try.func62 Z6 rfl #[.agg #[.string ik, .int .i64 eH, .int .i64 cN, .bool cr], .int .i64 4] rfl Z5 ?_; (with_reducible refine (cursor_Num.calls ik eH cN cr 4 cz jx gV cE fh _ iF.out).mono ?_); rintro e nS ⟨rfl, hb⟩; refine ⟨_, rfl, ?_⟩; have aG := Aside0.mk (Kd.R_below (by (with_reducible repeat (first | apply Kd.R_alloc | apply Kd.R_drewN | apply Kd.R_drew)); exact (Kd.R_mono (Kd.R_mono (Kd.R_far (p := ⟨eW, 3, none⟩) (Kd.R_far (p := ⟨eW, 2, none⟩) (Kd.R_far (p := ⟨eW, 1, none⟩) (Kd.R_far (p := ⟨eW, 0, none⟩) (Kd.R_far (p := ⟨cd, 19, none⟩) (Kd.R_types (Kd.R_types cn.out bX.out Z32) ha.out Z32) (fun _ hk => hk.1.2) (.string cG)) (fun _ hk => hk.2) (.string ik)) (fun _ hk => hk.2) (.int .i64 eH)) (fun _ hk => hk.2) (.int .i64 cN)) (fun _ hk => hk.2) (.bool cr)) (fun _ h_ => h_.1)) (fun _ h_ => h_.1))) hb); have aH := Aside0.mk (blk_below (g := aa) (o := .cells #[.int .i64 0, .int .i64 0, .int .i64 0, .string ⟨#[]⟩, .int .i64 0, .int .i64 0, .string ⟨#[]⟩, .int .i64 0, .int .i64 0, .string ⟨#[]⟩, .int .i64 0, .string ⟨#[]⟩, .int .i64 0, .int .i64 0, .int .i64 0, .int .i64 0, .int .i64 0, .int .i64 0, .int .i64 0, .string ⟨#[]⟩, .string ⟨#[]⟩, .slice none 0 0, .int .i64 0, .string ⟨#[]⟩, .slice none 0 0] 25 (0, 0)) Z33 hb); have aI := Aside0.mk (blk_below (g := cd) (o := .cells #[.int .i64 3, .int .i64 0, .int .i64 0, .string ⟨#[]⟩, .int .i64 0, .int .i64 0, .string ⟨#[]⟩, .int .i64 0, .int .i64 0, .string ⟨#[]⟩, .int .i64 0, .string ⟨#[]⟩, .int .i64 0, .int .i64 0, .int .i64 0, .int .i64 (wrap64 ((bt a0 1) / 8)), .int .i64 (wrap64 (bt a0 3)), .int .i64 cg, .int .i64 0, .string cG, .string ⟨#[]⟩, .slice none 0 0, .int .i64 0, .string ⟨#[]⟩, .slice hZ ba.length ia] 25 (0, 0)) (by (with_reducible repeat (first | refine blk_drewN ?_ _ | refine blk_drew ?_ | refine blk_alloc ?_ _)); refine blk_far ?_ cV.out _; (with_reducible repeat (first | refine blk_drewN ?_ _ | refine blk_drew ?_ | refine blk_alloc ?_ _)); refine blk_far ?_ cV.out _; (with_reducible repeat (first | refine blk_drewN ?_ _ | refine blk_drew ?_ | refine blk_alloc ?_ _)); refine blk_far ?_ cV.out _; (with_reducible repeat (first | refine blk_drewN ?_ _ | refine blk_drew ?_ | refine blk_alloc ?_ _)); refine blk_far ?_ cV.out _; (with_reducible repeat (first | refine blk_drewN ?_ _ | refine blk_drew ?_ | refine blk_alloc ?_ _)); refine blk_put (cs := #[.int .i64 3, .int .i64 0, .int .i64 0, .string ⟨#[]⟩, .int .i64 0, .int .i64 0, .string ⟨#[]⟩, .int .i64 0, .int .i64 0, .string ⟨#[]⟩, .int .i64 0, .string ⟨#[]⟩, .int .i64 0, .int .i64 0, .int .i64 0, .int .i64 (wrap64 ((bt a0 1) / 8)), .int .i64 (wrap64 (bt a0 3)), .int .i64 cg, .int .i64 0, .string ⟨#[]⟩, .string ⟨#[]⟩, .slice none 0 0, .int .i64 0, .string ⟨#[]⟩, .slice hZ ba.length ia]) ?_ 19 _ rfl; (with_reducible repeat (first | refine blk_drewN ?_ _ | refine blk_drew ?_ | refine blk_alloc ?_ _)); exact bX.out) hb); have aZ := Aside0.mk (blk_below (g := eW) (o := .cells #[.string ik, .int .i64 eH, .int .i64 cN, .bool cr] 60 (0, 0)) Z57 hb); have bH := Aside0.mk (below_step Z54 hb); replace cn := aG; replace ab := aH; replace bX := aI; replace ha := aZ; replace HB := bH; clear aG aH aI aZ bH; (try clear hb); (try clear hb2); (try clear hk); (try clear hi); have qs := cells_25 bX.out; have su := cells_4 ha.out) | ((with_reducible refine gate_callee (f := 60) rfl ?_); refine goesL_ (some 73) rfl rfl Try.func60 Z6 rfl #[.agg #[.string jx, .int .i64 gV, .int .i64 cE, .bool fh], .int .i64 4] rfl Z5 ?_; (with_reducible refine (cursor_Text.calls jx gV cE fh 4 cA gq dt dE eJ _ sc.out).mono ?_); rintro e vq ⟨rfl, hb⟩; refine ⟨_, rfl, ?_⟩; have aG := Aside0.mk (Kd.R_below (by (with_reducible repeat (first | apply Kd.R_alloc | apply Kd.R_drewN | apply Kd.R_drew)); exact (Kd.R_mono (Kd.R_mono (Kd.R_far (p := ⟨eW, 3, none⟩) (Kd.R_far (p := ⟨eW, 2, none⟩) (Kd.R_far (p := ⟨eW, 1, none⟩) (Kd.R_far (p := ⟨eW, 0, none⟩) (Kd.R_far (p := ⟨cd, 12, none⟩) (Kd.R_types (Kd.R_types cn.out bX.out Z32) ha.out Z32) (fun _ hk => hk.1.2) (.int .i64 cz)) (fun _ hk => hk.2) (.string jx)) (fun _ hk => hk.2) (.int .i64 gV)) (fun _ hk => hk.2) (.int .i64 cE)) (fun _ hk => hk.2) (.bool fh)) (fun _ h_ => h_.1)) (fun _ h_ => h_.1))) hb); have aH := Aside0.mk (blk_below (g := aa) (o := .cells #[.int .i64 0, .int .i64 0, .int .i64 0, .string ⟨#[]⟩, .int .i64 0, .int .i64 0, .string ⟨#[]⟩, .int .i64 0, .int .i64 0, .string ⟨#[]⟩, .int .i64 0, .string ⟨#[]⟩, .int .i64 0, .int .i64 0, .int .i64 0, .int .i64 0, .int .i64 0, .int .i64 0, .int .i64 0, .string ⟨#[]⟩, .string ⟨#[]⟩, .slice none 0 0, .int .i64 0, .string ⟨#[]⟩, .slice none 0 0] 25 (0, 0)) Z33 hb); have aI := Aside0.mk (blk_below (g := cd) (o := .cells #[.int .i64 3, .int .i64 0, .int .i64 0, .string ⟨#[]⟩, .int .i64 0, .int .i64 0, .string ⟨#[]⟩, .int .i64 0, .int .i64 0, .string ⟨#[]⟩, .int .i64 0, .string ⟨#[]⟩, .int .i64 cz, .int .i64 0, .int .i64 0, .int .i64 (wrap64 ((bt a0 1) / 8)), .int .i64 (wrap64 (bt a0 3)), .int .i64 cg, .int .i64 0, .string cG, .string ⟨#[]⟩, .slice none 0 0, .int .i64 0, .string ⟨#[]⟩, .slice hZ ba.length ia] 25 (0, 0)) (by (with_reducible repeat (first | refine blk_drewN ?_ _ | refine blk_drew ?_ | refine blk_alloc ?_ _)); refine blk_far ?_ cV.out _; (with_reducible repeat (first | refine blk_drewN ?_ _ | refine blk_drew ?_ | refine blk_alloc ?_ _)); refine blk_far ?_ cV.out _; (with_reducible repeat (first | refine blk_drewN ?_ _ | refine blk_drew ?_ | refine blk_alloc ?_ _)); refine blk_far ?_ cV.out _; (with_reducible repeat (first | refine blk_drewN ?_ _ | refine blk_drew ?_ | refine blk_alloc ?_ _)); refine blk_far ?_ cV.out _; (with_reducible repeat (first | refine blk_drewN ?_ _ | refine blk_drew ?_ | refine blk_alloc ?_ _)); refine blk_put (cs := #[.int .i64 3, .int .i64 0, .int .i64 0, .string ⟨#[]⟩, .int .i64 0, .int .i64 0, .string ⟨#[]⟩, .int .i64 0, .int .i64 0, .string ⟨#[]⟩, .int .i64 0, .string ⟨#[]⟩, .int .i64 0, .int .i64 0, .int .i64 0, .int .i64 (wrap64 ((bt a0 1) / 8)), .int .i64 (wrap64 (bt a0 3)), .int .i64 cg, .int .i64 0, .string cG, .string ⟨#[]⟩, .slice none 0 0, .int .i64 0, .string ⟨#[]⟩, .slice hZ ba.length ia]) ?_ 12 _ rfl; (with_reducible repeat (first | refine blk_drewN ?_ _ | refine blk_drew ?_ | refine blk_alloc ?_ _)); exact bX.out) hb); have aZ := Aside0.mk (blk_below (g := eW) (o := .cells #[.string jx, .int .i64 gV, .int .i64 cE, .bool fh] 60 (0, 0)) Z57 hb); have bH := Aside0.mk (below_step Z54 hb); replace cn := aG; replace ab := aH; replace bX := aI; replace ha := aZ; replace HB := bH; clear aG aH aI aZ bH; (try clear hb); (try clear hb2); (try clear hk); (try clear hi); have om := cells_25 bX.out; have qf := cells_4 ha.out) | ((with_reducible refine gate_callee (f := 62) rfl ?_); refine goesL_ (some 79) rfl rfl Try.func62 Z6 rfl #[.agg #[.string gq, .int .i64 dt, .int .i64 dE, .bool eJ], .int .i64 4] rfl Z5 ?_; (with_reducible refine (cursor_Num.calls gq dt dE eJ 4 il gC gp dg dh _ lT.out).mono ?_); rintro e w75 ⟨rfl, hb⟩; refine ⟨_, rfl, ?_⟩; have aG := Aside0.mk (Kd.R_below (by (with_reducible repeat (first | apply Kd.R_alloc | apply Kd.R_drewN | apply Kd.R_drew)); exact (Kd.R_mono (Kd.R_mono (Kd.R_far (p := ⟨eW, 3, none⟩) (Kd.R_far (p := ⟨eW, 2, none⟩) (Kd.R_far (p := ⟨eW, 1, none⟩) (Kd.R_far (p := ⟨eW, 0, none⟩) (Kd.R_far (p := ⟨cd, 20, none⟩) (Kd.R_types (Kd.R_types cn.out bX.out Z32) ha.out Z32) (fun _ hk => hk.1.2) (.string cA)) (fun _ hk => hk.2) (.string gq)) (fun _ hk => hk.2) (.int .i64 dt)) (fun _ hk => hk.2) (.int .i64 dE)) (fun _ hk => hk.2) (.bool eJ)) (fun _ h_ => h_.1)) (fun _ h_ => h_.1))) hb); have aH := Aside0.mk (blk_below (g := aa) (o := .cells #[.int .i64 0, .int .i64 0, .int .i64 0, .string ⟨#[]⟩, .int .i64 0, .int .i64 0, .string ⟨#[]⟩, .int .i64 0, .int .i64 0, .string ⟨#[]⟩, .int .i64 0, .string ⟨#[]⟩, .int .i64 0, .int .i64 0, .int .i64 0, .int .i64 0, .int .i64 0, .int .i64 0, .int .i64 0, .string ⟨#[]⟩, .string ⟨#[]⟩, .slice none 0 0, .int .i64 0, .string ⟨#[]⟩, .slice none 0 0] 25 (0, 0)) Z33 hb); have aI := Aside0.mk (blk_below (g := cd) (o := .cells #[.int .i64 3, .int .i64 0, .int .i64 0, .string ⟨#[]⟩, .int .i64 0, .int .i64 0, .string ⟨#[]⟩, .int .i64 0, .int .i64 0, .string ⟨#[]⟩, .int .i64 0, .string ⟨#[]⟩, .int .i64 cz, .int .i64 0, .int .i64 0, .int .i64 (wrap64 ((bt a0 1) / 8)), .int .i64 (wrap64 (bt a0 3)), .int .i64 cg, .int .i64 0, .string cG, .string cA, .slice none 0 0, .int .i64 0, .string ⟨#[]⟩, .slice hZ ba.length ia] 25 (0, 0)) (by (with_reducible repeat (first | refine blk_drewN ?_ _ | refine blk_drew ?_ | refine blk_alloc ?_ _)); refine blk_far ?_ cV.out _; (with_reducible repeat (first | refine blk_drewN ?_ _ | refine blk_drew ?_ | refine blk_alloc ?_ _)); refine blk_far ?_ cV.out _; (with_reducible repeat (first | refine blk_drewN ?_ _ | refine blk_drew ?_ | refine blk_alloc ?_ _)); refine blk_far ?_ cV.out _; (with_reducible repeat (first | refine blk_drewN ?_ _ | refine blk_drew ?_ | refine blk_alloc ?_ _)); refine blk_far ?_ cV.out _; (with_reducible repeat (first | refine blk_drewN ?_ _ | refine blk_drew ?_ | refine blk_alloc ?_ _)); refine blk_put (cs := #[.int .i64 3, .int .i64 0, .int .i64 0, .string ⟨#[]⟩, .int .i64 0, .int .i64 0, .string ⟨#[]⟩, .int .i64 0, .int .i64 0, .string ⟨#[]⟩, .int .i64 0, .string ⟨#[]⟩, .int .i64 cz, .int .i64 0, .int .i64 0, .int .i64 (wrap64 ((bt a0 1) / 8)), .int .i64 (wrap64 (bt a0 3)), .int .i64 cg, .int .i64 0, .string cG, .string ⟨#[]⟩, .slice none 0 0, .int .i64 0, .string ⟨#[]⟩, .slice hZ ba.length ia]) ?_ 20 _ rfl; (with_reducible repeat (first | refine blk_drewN ?_ _ | refine blk_drew ?_ | refine blk_alloc ?_ _)); exact bX.out) hb); have aZ := Aside0.mk (blk_below (g := eW) (o := .cells #[.string gq, .int .i64 dt, .int .i64 dE, .bool eJ] 60 (0, 0)) Z57 hb); have bH := Aside0.mk (below_step Z54 hb); replace cn := aG; replace ab := aH; replace bX := aI; replace ha := aZ; replace HB := bH; clear aG aH aI aZ bH; (try clear hb); (try clear hb2); (try clear hk); (try clear hi); have hcz76 := cells_25 bX.out; have sw := cells_25 ab.out) | ((with_reducible refine Pre.gate_store 25 rfl ?_); refine Pre.store_abs (cur := #[.int .i64 0, .int .i64 0, .int .i64 0, .string ⟨#[]⟩, .int .i64 0, .int .i64 0, .string ⟨#[]⟩, .int .i64 0, .int .i64 0, .string ⟨#[]⟩, .int .i64 0, .string ⟨#[]⟩, .int .i64 0, .int .i64 0, .int .i64 0, .int .i64 0, .int .i64 0, .int .i64 0, .int .i64 0, .string ⟨#[]⟩, .string ⟨#[]⟩, .slice none 0 0, .int .i64 0, .string ⟨#[]⟩, .slice none 0 0]) (e := 25) rfl rfl rfl Z13 Z13 (by (with_reducible repeat (first | refine blk_drewN ?_ _ | refine blk_drew ?_ | refine blk_alloc ?_ _)); refine blk_far ?_ hh.out _; (with_reducible repeat (first | refine blk_drewN ?_ _ | refine blk_drew ?_ | refine blk_alloc ?_ _)); exact ab.out) Z6 Z13 Z13 ?_; intro sW hbS_ sS_; have aG : Aside0 (Kd.R k48 48 sW w.heap.size (fun _ => True) (.slice hZ ba.length ia) ba) := ⟨Kd.R_mono (Pre.R_sets sS_ (Kd.R_far (p := ⟨cd, 13, none⟩) (Kd.R_types (Kd.R_types cn.out bX.out Z32) ab.out Z32) (fun _ hk => hk.1.2) (.int .i64 il)) (fun _ hk => hk.2)) (fun _ hk => trivial)⟩; have aH : Aside0 (sW.heap[aa]? = some (.cells #[.int .i64 3, .int .i64 0, .int .i64 0, .string ⟨#[]⟩, .int .i64 0, .int .i64 0, .string ⟨#[]⟩, .int .i64 0, .int .i64 0, .string ⟨#[]⟩, .int .i64 0, .string ⟨#[]⟩, .int .i64 cz, .int .i64 il, .int .i64 0, .int .i64 (wrap64 ((bt a0 1) / 8)), .int .i64 (wrap64 (bt a0 3)), .int .i64 cg, .int .i64 0, .string cG, .string cA, .slice none 0 0, .int .i64 0, .string ⟨#[]⟩, .slice hZ ba.length ia] 25 (0, 0))) := ⟨hbS_⟩; have aI : Aside0 (sW.heap[cd]? = some (.cells #[.int .i64 3, .int .i64 0, .int .i64 0, .string ⟨#[]⟩, .int .i64 0, .int .i64 0, .string ⟨#[]⟩, .int .i64 0, .int .i64 0, .string ⟨#[]⟩, .int .i64 0, .string ⟨#[]⟩, .int .i64 cz, .int .i64 il, .int .i64 0, .int .i64 (wrap64 ((bt a0 1) / 8)), .int .i64 (wrap64 (bt a0 3)), .int .i64 cg, .int .i64 0, .string cG, .string cA, .slice none 0 0, .int .i64 0, .string ⟨#[]⟩, .slice hZ ba.length ia] 25 (0, 0))) := ⟨sS_.blk (by (with_reducible repeat (first | refine blk_drewN ?_ _ | refine blk_drew ?_ | refine blk_alloc ?_ _)); refine blk_put (cs := #[.int .i64 3, .int .i64 0, .int .i64 0, .string ⟨#[]⟩, .int .i64 0, .int .i64 0, .string ⟨#[]⟩, .int .i64 0, .int .i64 0, .string ⟨#[]⟩, .int .i64 0, .string ⟨#[]⟩, .int .i64 cz, .int .i64 0, .int .i64 0, .int .i64 (wrap64 ((bt a0 1) / 8)), .int .i64 (wrap64 (bt a0 3)), .int .i64 cg, .int .i64 0, .string cG, .string cA, .slice none 0 0, .int .i64 0, .string ⟨#[]⟩, .slice hZ ba.length ia]) ?_ 13 _ rfl; (with_reducible repeat (first | refine blk_drewN ?_ _ | refine blk_drew ?_ | refine blk_alloc ?_ _)); exact bX.out) jq.out⟩; have aZ : Aside0 (sW.heap[eW]? = some (.cells #[.string gq, .int .i64 dt, .int .i64 dE, .bool eJ] 60 (0, 0))) := ⟨sS_.blk (by (with_reducible repeat (first | refine blk_drewN ?_ _ | refine blk_drew ?_ | refine blk_alloc ?_ _)); refine blk_far ?_ ki.out _; (with_reducible repeat (first | refine blk_drewN ?_ _ | refine blk_drew ?_ | refine blk_alloc ?_ _)); exact ha.out) lr.out⟩; have bH : Aside0 (Below w.heap.size w sW) := ⟨sS_.below Z54 bs.out⟩; clear hbS_ sS_; replace cn := aG; replace ab := aH; replace bX := aI; replace ha := aZ; replace HB := bH; clear aG aH aI aZ bH))
        refine bodyPost_ret (results_ctt rfl _ _ aa 25 #[.int .i64 3, .int .i64 0, .int .i64 0, .string ⟨#[]⟩, .int .i64 0, .int .i64 0, .string ⟨#[]⟩, .int .i64 0, .int .i64 0, .string ⟨#[]⟩, .int .i64 0, .string ⟨#[]⟩, .int .i64 cz, .int .i64 il, .int .i64 0, .int .i64 (wrap64 ((bt a0 1) / 8)), .int .i64 (wrap64 (bt a0 3)), .int .i64 cg, .int .i64 0, .string cG, .string cA, .slice none 0 0, .int .i64 0, .string ⟨#[]⟩, .slice hZ ba.length ia] (0, 0) _ rfl Z1 Try.underlying25 rfl Z6) rfl ?_
        exact ⟨_, _, Z9, Z12, Z77, Z54⟩
       ·rw [if_neg fd] at H
        exact absurd H Z73
      ·rw [if_neg dB] at H
       have gF : (bc == 0) = false := beq_eq_false_iff_ne.mpr dB
       have ie : (bc != 0) = true := bne_iff_ne.mpr dB
       simp only [Option.some.injEq, Prod.mk.injEq] at H
       obtain ⟨rfl, rfl, rfl, rfl, rfl, rfl, rfl, rfl, rfl, rfl, rfl, rfl, rfl, rfl, rfl, rfl, rfl, rfl, rfl, rfl, rfl, rfl, rfl, rfl, rfl, rfl, rfl⟩ := H
       go_enter Try.func22, Try.ntmps22
       try go_wp2_with (first | ((with_reducible refine gate_dst (N := 46) rfl ?_); refine Pre.build_event 46 25 [(0, Go.Operand.const (Go.Value.int Go.IntKind.i64 3)), (15, Go.Operand.tmp 41), (16, Go.Operand.tmp 44), (24, Go.Operand.tmp 45)] rfl rfl rfl (rreq_Get.bd46 _ _ _ _ _ _) ?_) | ((with_reducible refine Pre.gate_load 25 rfl ?_); (try (refine gate_guard Z13 ?_; dsimp only)); refine Pre.load_event rfl rfl rfl Z13 Z23 Try.underlying25 rfl Z6 ?_) | ((with_reducible refine gate_dst (N := 2) rfl ?_); refine box_event ?hg (N := 2) ?hd (cs := #[.int .i64 0, .int .i64 0, .int .i64 0, .string ⟨#[]⟩, .int .i64 0, .int .i64 0, .string ⟨#[]⟩, .int .i64 0, .int .i64 0, .string ⟨#[]⟩, .int .i64 0, .string ⟨#[]⟩, .int .i64 0, .int .i64 0, .int .i64 0, .int .i64 0, .int .i64 0, .int .i64 0, .int .i64 0, .string ⟨#[]⟩, .string ⟨#[]⟩, .slice none 0 0, .int .i64 0, .string ⟨#[]⟩, .slice none 0 0]) (t := 25) ?hr ?_; (case hd => rfl); (case hg => rfl); (case hr => first | (go_simp; done) | (go_simp; rfl)); intro aa hg wv hbox hb; have aG := Aside0.mk (below_step Z3 hb); have aH := Aside0.mk (hbox); have aI := Aside0.mk ((by rw [hg]; exact (below_size Z3) : w.heap.size ≤ aa)); have aZ := Aside0.mk ((by rw [hg]; exact (below_size Z3) : w.heap.size ≤ aa)); replace HB := aG; have ab := aH; have cl := aI; have bs := aZ; clear aG aH aI aZ; clear hb hbox hg))
       have aG := Aside0.mk (blk_drew ab.out)
       have aH := Aside0.mk (below_drew1 HB.out)
       clear ab
       clear HB
       have ab := aG
       have HB := aH
       clear aG aH
       have p7 : 0 ≤ (1 : Int) := Z55
       have q7 : 1 < a0.size := (by have : (1 : Int) < (a0.size : Int) := of_decide_eq_true Z10; omega)
       have hx7 : ∀ h : 1 < a0.size, ((a0[1]'h).toNat : Int) = bt a0 1 := bt_at a0 1
       clear p7
       have qi7 : (1 < (a0.size : Int)) = True := eq_true (of_decide_eq_true Z10)
       replace q7 := eq_true q7
       have p9 : 0 ≤ (2 : Int) := Z55
       have q9 : 2 < a0.size := (by have : (2 : Int) < (a0.size : Int) := of_decide_eq_true Z10; omega)
       have hx9 : ∀ h : 2 < a0.size, ((a0[2]'h).toNat : Int) = bt a0 2 := bt_at a0 2
       clear p9
       have qi9 : (2 < (a0.size : Int)) = True := eq_true (of_decide_eq_true Z10)
       replace q9 := eq_true q9
       refine start_ (n := 7) (S := fun w' => True) (ds := []) #[false, false, false, false, false, false, false] Z6 rfl rfl trivial (fun hHeld => ?_)
       generalize wv.drew = vh at ab HB hHeld ⊢
       refine pure_ (i := 0) (N := some 17) (v := ?_) (a' := ?_) #[true, false, false, false, false, false, false] rfl rfl Z6 (fun _ _ _ h => h) (Or.inl ⟨Z13, ?_⟩) ?_ ?_
       rotate_left
       ·intro w'
        go_simp
        with_reducible rfl
       rotate_left
       ·simp only [Act.put, List.setIfInBounds_toArray, List.set_cons_zero, List.set_cons_succ, i64_w, i32_w]
        rfl
       refine pure_ (i := 3) (N := some 20) (v := ?_) (a' := ?_) #[true, false, false, true, false, false, false] rfl rfl Z6 (fun _ _ _ h => h) (Or.inl ⟨Z13, ?_⟩) ?_ ?_
       rotate_left
       ·intro w'
        go_simp
        with_reducible rfl
       rotate_left
       ·simp only [Act.put, List.setIfInBounds_toArray, List.set_cons_zero, List.set_cons_succ, i64_w, i32_w]
        rfl
       refine take_ (i := 1) (N := some 18) (v := ?_) (a' := ?_) #[true, true, false, true, false, false, false] rfl rfl Z6 (fun _ _ _ h => h) (Or.inl ⟨Z13, ?_⟩) hHeld ?_ ?_
       rotate_left
       ·intro w' _
        go_simp
        with_reducible rfl
       rotate_left
       ·simp only [Act.put, List.setIfInBounds_toArray, List.set_cons_zero, List.set_cons_succ, i64_w, i32_w]
        rfl
       refine pure_ (i := 2) (N := some 19) (v := ?_) (a' := ?_) #[true, true, true, true, false, false, false] rfl rfl Z6 (fun _ _ _ h => h) (Or.inl ⟨Z13, ?_⟩) ?_ ?_
       rotate_left
       ·intro w'
        go_simp
        with_reducible rfl
       rotate_left
       ·simp only [Act.put, List.setIfInBounds_toArray, List.set_cons_zero, List.set_cons_succ, i64_w, i32_w]
        rfl
       refine take_ (i := 4) (N := some 21) (v := ?_) (a' := ?_) #[true, true, true, true, true, false, false] rfl rfl Z6 (fun _ _ _ h => h) (Or.inl ⟨Z13, ?_⟩) hHeld ?_ ?_
       rotate_left
       ·intro w' _
        go_simp
        with_reducible rfl
       rotate_left
       ·simp only [Act.put, List.setIfInBounds_toArray, List.set_cons_zero, List.set_cons_succ, i64_w, i32_w]
        rfl
       refine pure_ (i := 5) (N := some 22) (v := ?_) (a' := ?_) #[true, true, true, true, true, true, false] rfl rfl Z6 (fun _ _ _ h => h) (Or.inl ⟨Z13, ?_⟩) ?_ ?_
       rotate_left
       ·intro w'
        go_simp
        with_reducible rfl
       rotate_left
       ·simp only [Act.put, List.setIfInBounds_toArray, List.set_cons_zero, List.set_cons_succ, i64_w, i32_w]
        rfl
       refine pure_ (i := 6) (N := some 23) (v := ?_) (a' := ?_) #[true, true, true, true, true, true, true] rfl rfl Z6 (fun _ _ _ h => h) (Or.inl ⟨Z13, ?_⟩) ?_ ?_
       rotate_left
       ·intro w'
        go_simp
        with_reducible rfl
       rotate_left
       ·simp only [Act.put, List.setIfInBounds_toArray, List.set_cons_zero, List.set_cons_succ, i64_w, i32_w]
        rfl
       refine done_ Z6 ?_
       try go_wp2_with (first | ((with_reducible refine gate_dst (N := 46) rfl ?_); refine Pre.build_event 46 25 [(0, Go.Operand.const (Go.Value.int Go.IntKind.i64 3)), (15, Go.Operand.tmp 41), (16, Go.Operand.tmp 44), (24, Go.Operand.tmp 45)] rfl rfl rfl (rreq_Get.bd46 _ _ _ _ _ _) ?_) | ((with_reducible refine Pre.gate_load 25 rfl ?_); (try (refine gate_guard Z13 ?_; dsimp only)); refine Pre.load_event rfl rfl rfl Z13 Z23 Try.underlying25 rfl Z6 ?_) | ((with_reducible refine gate_callee (f := 59) rfl ?_); refine goesL_ (some 28) rfl rfl Try.func59 Z6 rfl #[.string (a0.extract 24 a0.size)] rfl Z5 ?_; (with_reducible refine (ext_Get.calls k (a0.extract 24 a0.size) ba bf bc _ ln.out).mono ?_); rintro e vi ⟨jM, rfl, ho0, hb⟩; refine ⟨_, rfl, ?_⟩; have aG := Aside0.mk (Kd.R_lower ho0 (below_size Z0)); have aH := Aside0.mk (blk_below (g := aa) Z1 hb); have aI := Aside0.mk (below_step Z0 hb); have cn := aG; replace ab := aH; replace HB := aI; clear aG aH aI; (try clear hb); (try clear hb2); (try clear hk); (try clear hi); (try clear ho0); have hcz82 := cells_25 ab.out) | ((with_reducible refine Pre.gate_store 25 rfl ?_); refine Pre.store_abs (cur := #[.int .i64 0, .int .i64 0, .int .i64 0, .string ⟨#[]⟩, .int .i64 0, .int .i64 0, .string ⟨#[]⟩, .int .i64 0, .int .i64 0, .string ⟨#[]⟩, .int .i64 0, .string ⟨#[]⟩, .int .i64 0, .int .i64 0, .int .i64 0, .int .i64 0, .int .i64 0, .int .i64 0, .int .i64 0, .string ⟨#[]⟩, .string ⟨#[]⟩, .slice none 0 0, .int .i64 0, .string ⟨#[]⟩, .slice none 0 0]) (e := 25) rfl rfl rfl Z13 Z13 Z1 Z6 Z13 Z13 ?_; intro vj hbS_ sS_; have aG : Aside0 (Kd.R k48 48 vj w.heap.size (fun _ => True) jM ba) := ⟨Kd.R_mono (Pre.R_sets sS_ (Kd.R_types cn.out ab.out Z32) (fun _ hk => hk.2)) (fun _ hk => trivial)⟩; have aH : Aside0 (vj.heap[aa]? = some (.cells #[.int .i64 0, .int .i64 0, .int .i64 0, .string ⟨#[]⟩, .int .i64 0, .int .i64 0, .string ⟨#[]⟩, .int .i64 0, .int .i64 0, .string ⟨#[]⟩, .int .i64 0, .string ⟨#[]⟩, .int .i64 0, .int .i64 0, .int .i64 0, .int .i64 0, .int .i64 0, .int .i64 0, .int .i64 0, .string ⟨#[]⟩, .string ⟨#[]⟩, .slice none 0 0, .int .i64 0, .string ⟨#[]⟩, .slice none 0 0] 25 (0, 0))) := ⟨hbS_⟩; have aI : Aside0 (Below w.heap.size w vj) := ⟨sS_.below Z0 bs.out⟩; clear hbS_ sS_; replace cn := aG; replace ab := aH; replace HB := aI; clear aG aH aI))
       refine bodyPost_ret (results_ctt rfl _ _ aa 25 #[.int .i64 0, .int .i64 0, .int .i64 0, .string ⟨#[]⟩, .int .i64 0, .int .i64 0, .string ⟨#[]⟩, .int .i64 0, .int .i64 0, .string ⟨#[]⟩, .int .i64 0, .string ⟨#[]⟩, .int .i64 0, .int .i64 0, .int .i64 0, .int .i64 0, .int .i64 0, .int .i64 0, .int .i64 0, .string ⟨#[]⟩, .string ⟨#[]⟩, .slice none 0 0, .int .i64 0, .string ⟨#[]⟩, .slice none 0 0] (0, 0) _ rfl Z1 Try.underlying25 rfl Z6) rfl ?_
       exact ⟨_, _, Z9, Z12, Z27, Z0⟩
     ·rw [if_neg cU] at H
      exact absurd H Z73
    ·rw [if_neg cX] at H
     have ff : ((Go.bits .or .u8 (Go.bits .and .u8 (bt a0 1) 7) (bt a0 2)) == 0) = false := beq_eq_false_iff_ne.mpr cX
     have gG : ((Go.bits .or .u8 (Go.bits .and .u8 (bt a0 1) 7) (bt a0 2)) != 0) = true := bne_iff_ne.mpr cX
     simp only [Option.some.injEq, Prod.mk.injEq] at H
     obtain ⟨rfl, rfl, rfl, rfl, rfl, rfl, rfl, rfl, rfl, rfl, rfl, rfl, rfl, rfl, rfl, rfl, rfl, rfl, rfl, rfl, rfl, rfl, rfl, rfl, rfl, rfl, rfl⟩ := H
     go_enter Try.func22, Try.ntmps22
     try go_wp2_with (first | ((with_reducible refine gate_dst (N := 46) rfl ?_); refine Pre.build_event 46 25 [(0, Go.Operand.const (Go.Value.int Go.IntKind.i64 3)), (15, Go.Operand.tmp 41), (16, Go.Operand.tmp 44), (24, Go.Operand.tmp 45)] rfl rfl rfl (rreq_Get.bd46 _ _ _ _ _ _) ?_) | ((with_reducible refine Pre.gate_load 25 rfl ?_); (try (refine gate_guard Z13 ?_; dsimp only)); refine Pre.load_event rfl rfl rfl Z13 Z23 Try.underlying25 rfl Z6 ?_) | ((with_reducible refine gate_dst (N := 2) rfl ?_); refine box_event ?hg (N := 2) ?hd (cs := #[.int .i64 0, .int .i64 0, .int .i64 0, .string ⟨#[]⟩, .int .i64 0, .int .i64 0, .string ⟨#[]⟩, .int .i64 0, .int .i64 0, .string ⟨#[]⟩, .int .i64 0, .string ⟨#[]⟩, .int .i64 0, .int .i64 0, .int .i64 0, .int .i64 0, .int .i64 0, .int .i64 0, .int .i64 0, .string ⟨#[]⟩, .string ⟨#[]⟩, .slice none 0 0, .int .i64 0, .string ⟨#[]⟩, .slice none 0 0]) (t := 25) ?hr ?_; (case hd => rfl); (case hg => rfl); (case hr => first | (go_simp; done) | (go_simp; rfl)); intro aa hg sa hbox hb; have aG := Aside0.mk (below_step Z3 hb); have aH := Aside0.mk (hbox); have aI := Aside0.mk ((by rw [hg]; exact (below_size Z3) : w.heap.size ≤ aa)); have aZ := Aside0.mk ((by rw [hg]; exact (below_size Z3) : w.heap.size ≤ aa)); replace HB := aG; have ab := aH; have cl := aI; have bs := aZ; clear aG aH aI aZ; clear hb hbox hg))
     have aG := Aside0.mk (blk_drew ab.out)
     have aH := Aside0.mk (below_drew1 HB.out)
     clear ab
     clear HB
     have ab := aG
     have HB := aH
     clear aG aH
     have p7 : 0 ≤ (1 : Int) := Z55
     have q7 : 1 < a0.size := (by have : (1 : Int) < (a0.size : Int) := of_decide_eq_true Z10; omega)
     have hx7 : ∀ h : 1 < a0.size, ((a0[1]'h).toNat : Int) = bt a0 1 := bt_at a0 1
     clear p7
     have qi7 : (1 < (a0.size : Int)) = True := eq_true (of_decide_eq_true Z10)
     replace q7 := eq_true q7
     have p9 : 0 ≤ (2 : Int) := Z55
     have q9 : 2 < a0.size := (by have : (2 : Int) < (a0.size : Int) := of_decide_eq_true Z10; omega)
     have hx9 : ∀ h : 2 < a0.size, ((a0[2]'h).toNat : Int) = bt a0 2 := bt_at a0 2
     clear p9
     have qi9 : (2 < (a0.size : Int)) = True := eq_true (of_decide_eq_true Z10)
     replace q9 := eq_true q9
     refine start_ (n := 7) (S := fun w' => True) (ds := []) #[false, false, false, false, false, false, false] Z6 rfl rfl trivial (fun hHeld => ?_)
     generalize sa.drew = qX at ab HB hHeld ⊢
     refine pure_ (i := 0) (N := some 17) (v := ?_) (a' := ?_) #[true, false, false, false, false, false, false] rfl rfl Z6 (fun _ _ _ h => h) (Or.inl ⟨Z13, ?_⟩) ?_ ?_
     rotate_left
     ·intro w'
      go_simp
      with_reducible rfl
     rotate_left
     ·simp only [Act.put, List.setIfInBounds_toArray, List.set_cons_zero, List.set_cons_succ, i64_w, i32_w]
      rfl
     refine pure_ (i := 3) (N := some 20) (v := ?_) (a' := ?_) #[true, false, false, true, false, false, false] rfl rfl Z6 (fun _ _ _ h => h) (Or.inl ⟨Z13, ?_⟩) ?_ ?_
     rotate_left
     ·intro w'
      go_simp
      with_reducible rfl
     rotate_left
     ·simp only [Act.put, List.setIfInBounds_toArray, List.set_cons_zero, List.set_cons_succ, i64_w, i32_w]
      rfl
     refine take_ (i := 1) (N := some 18) (v := ?_) (a' := ?_) #[true, true, false, true, false, false, false] rfl rfl Z6 (fun _ _ _ h => h) (Or.inl ⟨Z13, ?_⟩) hHeld ?_ ?_
     rotate_left
     ·intro w' _
      go_simp
      with_reducible rfl
     rotate_left
     ·simp only [Act.put, List.setIfInBounds_toArray, List.set_cons_zero, List.set_cons_succ, i64_w, i32_w]
      rfl
     refine pure_ (i := 2) (N := some 19) (v := ?_) (a' := ?_) #[true, true, true, true, false, false, false] rfl rfl Z6 (fun _ _ _ h => h) (Or.inl ⟨Z13, ?_⟩) ?_ ?_
     rotate_left
     ·intro w'
      go_simp
      with_reducible rfl
     rotate_left
     ·simp only [Act.put, List.setIfInBounds_toArray, List.set_cons_zero, List.set_cons_succ, i64_w, i32_w]
      rfl
     refine take_ (i := 4) (N := some 21) (v := ?_) (a' := ?_) #[true, true, true, true, true, false, false] rfl rfl Z6 (fun _ _ _ h => h) (Or.inl ⟨Z13, ?_⟩) hHeld ?_ ?_
     rotate_left
     ·intro w' _
      go_simp
      with_reducible rfl
     rotate_left
     ·simp only [Act.put, List.setIfInBounds_toArray, List.set_cons_zero, List.set_cons_succ, i64_w, i32_w]
      rfl
     refine pure_ (i := 5) (N := some 22) (v := ?_) (a' := ?_) #[true, true, true, true, true, true, false] rfl rfl Z6 (fun _ _ _ h => h) (Or.inl ⟨Z13, ?_⟩) ?_ ?_
     rotate_left
     ·intro w'
      go_simp
      with_reducible rfl
     rotate_left
     ·simp only [Act.put, List.setIfInBounds_toArray, List.set_cons_zero, List.set_cons_succ, i64_w, i32_w]
      rfl
     refine pure_ (i := 6) (N := some 23) (v := ?_) (a' := ?_) #[true, true, true, true, true, true, true] rfl rfl Z6 (fun _ _ _ h => h) (Or.inl ⟨Z13, ?_⟩) ?_ ?_
     rotate_left
     ·intro w'
      go_simp
      with_reducible rfl
     rotate_left
     ·simp only [Act.put, List.setIfInBounds_toArray, List.set_cons_zero, List.set_cons_succ, i64_w, i32_w]
      rfl
     refine done_ Z6 ?_
     have sK := cells_25 ab.out
     try go_wp2_with (first | ((with_reducible refine gate_dst (N := 46) rfl ?_); refine Pre.build_event 46 25 [(0, Go.Operand.const (Go.Value.int Go.IntKind.i64 3)), (15, Go.Operand.tmp 41), (16, Go.Operand.tmp 44), (24, Go.Operand.tmp 45)] rfl rfl rfl (rreq_Get.bd46 _ _ _ _ _ _) ?_) | ((with_reducible refine Pre.gate_load 25 rfl ?_); (try (refine gate_guard Z13 ?_; dsimp only)); refine Pre.load_event rfl rfl rfl Z13 Z23 Try.underlying25 rfl Z6 ?_) | ((with_reducible refine Pre.gate_store 25 rfl ?_); refine Pre.store_abs (cur := #[.int .i64 0, .int .i64 0, .int .i64 0, .string ⟨#[]⟩, .int .i64 0, .int .i64 0, .string ⟨#[]⟩, .int .i64 0, .int .i64 0, .string ⟨#[]⟩, .int .i64 0, .string ⟨#[]⟩, .int .i64 0, .int .i64 0, .int .i64 0, .int .i64 0, .int .i64 0, .int .i64 0, .int .i64 0, .string ⟨#[]⟩, .string ⟨#[]⟩, .slice none 0 0, .int .i64 0, .string ⟨#[]⟩, .slice none 0 0]) (e := 25) rfl rfl rfl Z13 Z13 Z1 Z6 Z13 Z13 ?_; intro pG hbS_ sS_; have aG : Aside0 (pG.heap[aa]? = some (.cells #[.int .i64 0, .int .i64 0, .int .i64 0, .string ⟨#[]⟩, .int .i64 0, .int .i64 0, .string ⟨#[]⟩, .int .i64 0, .int .i64 0, .string ⟨#[]⟩, .int .i64 0, .string ⟨#[]⟩, .int .i64 0, .int .i64 0, .int .i64 0, .int .i64 0, .int .i64 0, .int .i64 0, .int .i64 0, .string ⟨#[]⟩, .string ⟨#[]⟩, .slice none 0 0, .int .i64 0, .string ⟨#[]⟩, .slice none 0 0] 25 (0, 0))) := ⟨hbS_⟩; have aH : Aside0 (Below w.heap.size w pG) := ⟨sS_.below Z0 bs.out⟩; clear hbS_ sS_; replace ab := aG; replace HB := aH; clear aG aH))
     refine bodyPost_ret (results_ctt rfl _ _ aa 25 #[.int .i64 0, .int .i64 0, .int .i64 0, .string ⟨#[]⟩, .int .i64 0, .int .i64 0, .string ⟨#[]⟩, .int .i64 0, .int .i64 0, .string ⟨#[]⟩, .int .i64 0, .string ⟨#[]⟩, .int .i64 0, .int .i64 0, .int .i64 0, .int .i64 0, .int .i64 0, .int .i64 0, .int .i64 0, .string ⟨#[]⟩, .string ⟨#[]⟩, .slice none 0 0, .int .i64 0, .string ⟨#[]⟩, .slice none 0 0] (0, 0) _ rfl Z1 Try.underlying25 rfl Z6) rfl ?_
     exact ⟨_, _, Z9, Z12, Z27, Z0⟩
   ·rw [if_neg c8] at H
    exact absurd H Z73
  ·rw [if_neg c6] at H
   exact absurd H Z73

end Go.Proofs.Ytccjakjjaemmkaa.PR
