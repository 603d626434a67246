-- Written by mp.py, a program of this work (wip/tools), out of the translation; Lean checks it.
import Derived.Test.YtnifhgackjkkbaaPNxZ
import Derived.Test.YtnifhgackjkkbaaPNxroadbookref02
namespace Go.Proofs.Ytnifhgackjkkbaa.PN
open Go.RowKit Go.Proofs.YtnifhgackjkkbaaW.PrintWords Go.Proofs.YtnifhgackjkkbaaW.PrintLast Go.Proofs.YtnifhgackjkkbaaW.PrintMore
attribute [local go_sem] max2_int min2_int max_two min_two max_three min_three max_four min_four   -- for this text's walks alone
set_option linter.unusedVariables false
set_option linter.unusedSimpArgs false

/-! ### roadbookref11_Get: function 22 -/
def roadbookref11_Get.f (k : Nat) (a0 : ByteArray) : Option (Int × Int × ByteArray × ByteArray × ByteArray × Int × Bool) := if (a0.size : Int) = 20 then (if 0 ≤ 16 then (if 16 ≤ (a0.size : Int) then (if 16 ≤ 18 then (if 18 ≤ (a0.size : Int) then ((roadbookref08_Number.f k (a0.extract 16 18)).bind fun aI => (if 18 < (a0.size : Int) then (if 19 < (a0.size : Int) then (some (wrap64 (bt a0 18), aI, a0.extract 0 16, (⟨#[]⟩ : ByteArray), (⟨#[]⟩ : ByteArray), wrap64 (bt a0 19), true)) else (none)) else (none))) else (none)) else (none)) else (none)) else (none)) else (some (0, 0, (⟨#[]⟩ : ByteArray), (⟨#[]⟩ : ByteArray), (⟨#[]⟩ : ByteArray), 0, false))
theorem roadbookref11_Get.mono : ∀ a0 k, LeO (roadbookref11_Get.f k a0) (roadbookref11_Get.f (k + 1) a0) := by
 intro a0 k
 unfold roadbookref11_Get.f
 have m0 := roadbookref08_Number.mono
 exact Sq.mo
def roadbookref11_Get.T3 : Bool × List (List Nat × List Nat) := (true, [([], []), ([0], [0]), ([], []), ([2], [2]), ([3], [3]), ([], []), ([5], [5]), ([6], [6]), ([], []), ([8], [8]), ([9], [9]), ([1, 4, 7, 10], [1, 4, 7, 10]), ([11, 4, 0, 1, 2, 3, 4, 5, 6, 7, 8, 9, 10, 11], [11]), ([12, 0, 1, 2, 3, 4, 5, 6, 7, 8, 9, 10, 11, 12], [])])
def roadbookref11_Get.B3 : List Nat := [0, 1, 0, 4, 12, 0, 32, 96, 0, 256, 768, 2047, 4095, 8191]
theorem roadbookref11_Get.tab3 : rtab .any (opsOf Try.f22 3) = roadbookref11_Get.T3 := by kernel_rfl
theorem roadbookref11_Get.bits3 : waitsOk roadbookref11_Get.T3.2 roadbookref11_Get.B3 = true := by kernel_rfl
set_option maxHeartbeats 8000000 in
set_option maxRecDepth 100000 in
theorem roadbookref11_Get.calls (k : Nat) (a0 : ByteArray) (r1 : Int) (r2 : Int) (r3 : ByteArray) (r4 : ByteArray) (r5 : ByteArray) (r6 : Int) (r7 : Bool) (w : World) (h : roadbookref11_Get.f k a0 = some (r1, r2, r3, r4, r5, r6, r7)) :
  Calls Try.prog 22 #[.string a0] w fun e w' => e = .returned (.tuple #[.agg #[.int .i64 r1, .int .i64 r2, .string r3, .string r4, .string r5, .int .i64 r6], .bool r7]) ∧ Below w.heap.size w w' := by
 have fW := Try.underlying47
 have HB := Aside0.mk (Below.refl w.heap.size w)
 have H : (if (a0.size : Int) = 20 then (if 0 ≤ 16 then (if 16 ≤ (a0.size : Int) then (if 16 ≤ 18 then (if 18 ≤ (a0.size : Int) then ((roadbookref08_Number.f k (a0.extract 16 18)).bind fun aI => (if 18 < (a0.size : Int) then (if 19 < (a0.size : Int) then (some (wrap64 (bt a0 18), aI, a0.extract 0 16, (⟨#[]⟩ : ByteArray), (⟨#[]⟩ : ByteArray), wrap64 (bt a0 19), true)) else (none)) else (none))) else (none)) else (none)) else (none)) else (none)) else (some (0, 0, (⟨#[]⟩ : ByteArray), (⟨#[]⟩ : ByteArray), (⟨#[]⟩ : ByteArray), 0, false))) = some (r1, r2, r3, r4, r5, r6, r7) := h
 clear h
 by_cases c2 : (a0.size : Int) = 20
 ·rw [if_pos c2] at H
  have cV : ((a0.size : Int) == 20) = true := beq_iff_eq.mpr c2
  have dj : ((a0.size : Int) != 20) = false := bne_eq_false_iff_eq.mpr c2
  clear c2
  by_cases c3 : 0 ≤ 16
  ·rw [if_pos c3] at H
   have bY := eq_true c3
   have cE : decide (0 ≤ 16) = true := decide_eq_true c3
   clear c3
   by_cases c4 : 16 ≤ (a0.size : Int)
   ·rw [if_pos c4] at H
    have cG := eq_true c4
    have dG : decide (16 ≤ (a0.size : Int)) = true := decide_eq_true c4
    clear c4
    by_cases c5 : 16 ≤ 18
    ·rw [if_pos c5] at H
     have cY := eq_true c5
     have eR : decide (16 ≤ 18) = true := decide_eq_true c5
     clear c5
     by_cases c6 : 18 ≤ (a0.size : Int)
     ·rw [if_pos c6] at H
      have fc := eq_true c6
      have iO : decide (18 ≤ (a0.size : Int)) = true := decide_eq_true c6
      clear c6
      replace H := Option.bind_eq_some_iff.mp H
      obtain ⟨aI, fy, H⟩ := H
      replace H : (if 18 < (a0.size : Int) then (if 19 < (a0.size : Int) then (some (wrap64 (bt a0 18), aI, a0.extract 0 16, (⟨#[]⟩ : ByteArray), (⟨#[]⟩ : ByteArray), wrap64 (bt a0 19), true)) else (none)) else (none)) = some (r1, r2, r3, r4, r5, r6, r7) := H
      have A7 := Aside0.mk fy
      clear fy
      by_cases c8 : 18 < (a0.size : Int)
      ·rw [if_pos c8] at H
       have dS : decide (18 < (a0.size : Int)) = true := decide_eq_true c8
       have ft : decide (18 < a0.size) = true := decide_eq_true Z25
       clear c8
       by_cases cR : 19 < (a0.size : Int)
       ·rw [if_pos cR] at H
        have dl : decide (19 < (a0.size : Int)) = true := decide_eq_true cR
        have dV : decide (19 < a0.size) = true := decide_eq_true Z25
        clear cR
        simp only [Option.some.injEq, Prod.mk.injEq] at H
        obtain ⟨rfl, rfl, rfl, rfl, rfl, rfl, rfl⟩ := H
        go_enter Try.func22, Try.ntmps22
        try go_wp2_with (first | ((with_reducible refine gate_dst (N := 2) rfl ?_); refine Sq.box 2 #[.int .i64 0, .int .i64 0, .string ⟨#[]⟩, .string ⟨#[]⟩, .string ⟨#[]⟩, .int .i64 0] 47 ?_; intro aE hg hA hbox hb; have aG := Aside0.mk (hbox); have cS := Aside0.mk (Sq.ge hg Z0); have cL := Aside0.mk (Sq.ge hg Z0); replace HB := Aside0.mk (below_step Z0 hb); clear hb hbox hg))
        have cQ := Aside0.mk (blk_drew aG.out)
        have de := Aside0.mk (below_drew1 HB.out)
        clear aG
        clear HB
        have aG := cQ
        have HB := de
        clear cQ de
        have p9 : 0 ≤ (18 : Int) := Z25
        have q9 : 18 < a0.size := (by have : (18 : Int) < (a0.size : Int) := of_decide_eq_true Z5; omega)
        have hx9 : ∀ h : 18 < a0.size, ((a0[18]'h).toNat : Int) = bt a0 18 := bt_at a0 18
        clear p9
        have qi9 : (18 < (a0.size : Int)) = True := eq_true (of_decide_eq_true Z5)
        replace q9 := eq_true q9
        have p11 : 0 ≤ (19 : Int) := Z25
        have q11 : 19 < a0.size := (by have : (19 : Int) < (a0.size : Int) := of_decide_eq_true Z5; omega)
        have hx11 : ∀ h : 19 < a0.size, ((a0[19]'h).toNat : Int) = bt a0 19 := bt_at a0 19
        clear p11
        have qi11 : (19 < (a0.size : Int)) = True := eq_true (of_decide_eq_true Z5)
        replace q11 := eq_true q11
        refine start_ (n := 14) (S := fun w' => True) (ds := []) (Sq.b 14 0) Z16 rfl rfl trivial (fun hHeld => ?_); refine with_tabW roadbookref11_Get.tab3 roadbookref11_Get.bits3 (fun HT_ HW_ => ?_)
        generalize hA.drew = fX at aG HB hHeld ⊢
        refine Sq.pur 0 (some 8) (Sq.b 14 1) HT_.out ?_
        refine Sq.pur 1 (some 9) (Sq.b 14 3) HT_.out ?_
        refine Sq.pur 2 (some 10) (Sq.b 14 7) HT_.out ?_
        refine Sq.pur 3 (some 11) (Sq.b 14 15) HT_.out ?_
        refine Sq.pur 5 (some 13) (Sq.b 14 47) HT_.out ?_
        refine Sq.pur 8 (some 16) (Sq.b 14 303) HT_.out ?_
        refine Sq.tak 6 (some 14) (Sq.b 14 367) HT_.out HW_.out hHeld (v := ?_) (a' := ?_) ?_ ?_ ?_
        rotate_left
        ·intro w' _
         go_simp
         with_reducible rfl
        rotate_left
        ·simp only [Act.put, Sq.s1, Sq.s2, Sq.s3, i64_w, i32_w]
         rfl
        refine Sq.pur 7 (some 15) (Sq.b 14 495) HT_.out ?_
        refine Sq.tak 9 (some 17) (Sq.b 14 1007) HT_.out HW_.out hHeld (v := ?_) (a' := ?_) ?_ ?_ ?_
        rotate_left
        ·intro w' _
         go_simp
         with_reducible rfl
        rotate_left
        ·simp only [Act.put, Sq.s1, Sq.s2, Sq.s3, i64_w, i32_w]
         rfl
        refine Sq.pur 10 (some 18) (Sq.b 14 2031) HT_.out ?_
        refine one_ (i := 4) (N := some 12) (Sq.b 14 2047) rfl rfl (one_of HT_.out Z16) Z18 (fun K hK => ?_)
        refine goes_ Try.func38 Z16 rfl #[.string (a0.extract 16 18)] Z27 rfl rfl Z4 ?_
        with_reducible refine (roadbookref08_Number.calls k (a0.extract 16 18) aI _ A7.out).mono ?_
        rintro e w' ⟨rfl, ⟨nd, rfl⟩⟩
        refine ⟨_, rfl, ?_⟩
        refine hK.out _ _ trivial (fun hHeld => ?_)
        clear hK K
        refine norm_ (a' := ?_) ?_ ?_
        rotate_left
        ·show Act.put _ (some 12) _ = _
         simp only [Act.put, Sq.s1, Sq.s2, Sq.s3, i64_w, i32_w]
         rfl
        refine Sq.pur 11 (some 19) (Sq.b 14 4095) HT_.out ?_
        refine one_ (i := 12) (N := none) (Sq.b 14 8191) rfl rfl (one_of HT_.out Z16) Z18 (fun K hK => ?_)
        have hs14 : fX.cell? ⟨aE, 0, none⟩ = some (.int .i64 0) := (blk_cell aG.out 0).trans rfl
        have hfs14 := blk_frozen aG.out 0
        have hs15 : fX.cell? ⟨aE, 1, none⟩ = some (.int .i64 0) := (blk_cell aG.out 1).trans rfl
        have hfs15 := blk_frozen aG.out 1
        have hs16 : fX.cell? ⟨aE, 2, none⟩ = some (.string ⟨#[]⟩) := (blk_cell aG.out 2).trans rfl
        have hfs16 := blk_frozen aG.out 2
        have hs17 : fX.cell? ⟨aE, 3, none⟩ = some (.string ⟨#[]⟩) := (blk_cell aG.out 3).trans rfl
        have hfs17 := blk_frozen aG.out 3
        have hs18 : fX.cell? ⟨aE, 4, none⟩ = some (.string ⟨#[]⟩) := (blk_cell aG.out 4).trans rfl
        have hfs18 := blk_frozen aG.out 4
        have hs19 : fX.cell? ⟨aE, 5, none⟩ = some (.int .i64 0) := (blk_cell aG.out 5).trans rfl
        have hfs19 := blk_frozen aG.out 5
        refine skip_ (w1 := ?_) Z27 rfl ?_ ?_
        rotate_left
        ·go_simp
         rfl
        refine hK.out _ _ trivial (fun hHeld => ?_)
        clear hK K
        refine Sq.pur 13 (some 3) (Sq.b 14 16383) HT_.out ?_
        refine done_ (done_of HT_.out Z16) ?_
        try go_wp2
        refine bodyPost_ret (results_ct rfl _ _ aE 47 #[.int .i64 (wrap64 (bt a0 18)), .int .i64 aI, .string (a0.extract 0 16), .string ⟨#[]⟩, .string ⟨#[]⟩, .int .i64 (wrap64 (bt a0 19))] (0, 0) _ rfl Z35 Try.underlying47 rfl Z16) rfl ?_
        exact ⟨Z2, Z3⟩
       ·rw [if_neg cR] at H
        exact absurd H Z36
      ·rw [if_neg c8] at H
       exact absurd H Z36
     ·rw [if_neg c6] at H
      exact absurd H Z36
    ·rw [if_neg c5] at H
     exact absurd H Z36
   ·rw [if_neg c4] at H
    exact absurd H Z36
  ·rw [if_neg c3] at H
   exact absurd H Z36
 ·rw [if_neg c2] at H
  have cV : ((a0.size : Int) == 20) = false := beq_eq_false_iff_ne.mpr c2
  have dj : ((a0.size : Int) != 20) = true := bne_iff_ne.mpr c2
  simp only [Option.some.injEq, Prod.mk.injEq] at H
  obtain ⟨rfl, rfl, rfl, rfl, rfl, rfl, rfl⟩ := H
  go_enter Try.func22, Try.ntmps22
  go_wp2_with (first | ((with_reducible refine gate_dst (N := 2) rfl ?_); refine Sq.box 2 #[.int .i64 0, .int .i64 0, .string ⟨#[]⟩, .string ⟨#[]⟩, .string ⟨#[]⟩, .int .i64 0] 47 ?_; intro aE hg jN hbox hb; have aG := Aside0.mk (hbox); have cS := Aside0.mk (Sq.ge hg Z0); have cL := Aside0.mk (Sq.ge hg Z0); replace HB := Aside0.mk (below_step Z0 hb); clear hb hbox hg; have hC := cells_6 aG.out))
  refine bodyPost_ret (results_ct rfl _ _ aE 47 #[.int .i64 0, .int .i64 0, .string ⟨#[]⟩, .string ⟨#[]⟩, .string ⟨#[]⟩, .int .i64 0] (0, 0) _ rfl Z35 Try.underlying47 rfl Z16) rfl ?_
  exact ⟨Z2, Z3⟩

/-! ### roadbookref11_Put: function 34 -/
def roadbookref11_Put.f (k : Nat) (aA : Int) (aq : Int) (ar : ByteArray) (av : ByteArray) (aw : ByteArray) (ax : Int) : Option (ByteArray × Bool) := (roadbookref02_Put.f k aq 2).bind fun cp => ((roadbookref02_Put.f k aA 1).bind fun bt104 => ((roadbookref02_Put.f k ax 1).bind fun bt106 => (if cp.2 = true then (if bt104.2 = true then (if bt106.2 = true then (if (ar.size : Int) = 16 then (if av.toList = ([] : List UInt8) then (if aw.toList = ([] : List UInt8) then (if ar.size + cp.1.size ≤ 9223372036854775807 then (if (ar ++ cp.1).size + bt104.1.size ≤ 9223372036854775807 then (if ((ar ++ cp.1) ++ bt104.1).size + bt106.1.size ≤ 9223372036854775807 then (some (((ar ++ cp.1) ++ bt104.1) ++ bt106.1, true)) else (none)) else (none)) else (none)) else (some ((⟨#[]⟩ : ByteArray), false))) else (some ((⟨#[]⟩ : ByteArray), false))) else (some ((⟨#[]⟩ : ByteArray), false))) else (some ((⟨#[]⟩ : ByteArray), false))) else (some ((⟨#[]⟩ : ByteArray), false))) else (some ((⟨#[]⟩ : ByteArray), false)))))
theorem roadbookref11_Put.mono : ∀ a0 a1 a2 a3 a4 a5 k, LeO (roadbookref11_Put.f k a0 a1 a2 a3 a4 a5) (roadbookref11_Put.f (k + 1) a0 a1 a2 a3 a4 a5) := by
 intros
 rename_i k
 unfold roadbookref11_Put.f
 have m0 := roadbookref02_Put.mono
 exact Sq.mo
set_option maxHeartbeats 8000000 in
set_option maxRecDepth 100000 in
theorem roadbookref11_Put.calls (k : Nat) (aA : Int) (aq : Int) (ar : ByteArray) (av : ByteArray) (aw : ByteArray) (ax : Int) (r1 : ByteArray) (r2 : Bool) (w : World) (h : roadbookref11_Put.f k aA aq ar av aw ax = some (r1, r2)) :
  Calls Try.prog 34 #[.agg #[.int .i64 aA, .int .i64 aq, .string ar, .string av, .string aw, .int .i64 ax]] w fun e w' => e = .returned (.tuple #[.string r1, .bool r2]) ∧ Below w.heap.size w w' := by
 have fW := Try.underlying47
 have HB := Aside0.mk (Below.refl w.heap.size w)
 have H : ((roadbookref02_Put.f k aq 2).bind fun cp => ((roadbookref02_Put.f k aA 1).bind fun bt104 => ((roadbookref02_Put.f k ax 1).bind fun bt106 => (if cp.2 = true then (if bt104.2 = true then (if bt106.2 = true then (if (ar.size : Int) = 16 then (if av.toList = ([] : List UInt8) then (if aw.toList = ([] : List UInt8) then (if ar.size + cp.1.size ≤ 9223372036854775807 then (if (ar ++ cp.1).size + bt104.1.size ≤ 9223372036854775807 then (if ((ar ++ cp.1) ++ bt104.1).size + bt106.1.size ≤ 9223372036854775807 then (some (((ar ++ cp.1) ++ bt104.1) ++ bt106.1, true)) else (none)) else (none)) else (none)) else (some ((⟨#[]⟩ : ByteArray), false))) else (some ((⟨#[]⟩ : ByteArray), false))) else (some ((⟨#[]⟩ : ByteArray), false))) else (some ((⟨#[]⟩ : ByteArray), false))) else (some ((⟨#[]⟩ : ByteArray), false))) else (some ((⟨#[]⟩ : ByteArray), false)))))) = some (r1, r2) := h
 clear h
 replace H := Option.bind_eq_some_iff.mp H
 obtain ⟨⟨aI, aN⟩, A20, H⟩ := H
 replace H : ((roadbookref02_Put.f k aA 1).bind fun bt104 => ((roadbookref02_Put.f k ax 1).bind fun bt106 => (if aN = true then (if bt104.2 = true then (if bt106.2 = true then (if (ar.size : Int) = 16 then (if av.toList = ([] : List UInt8) then (if aw.toList = ([] : List UInt8) then (if ar.size + aI.size ≤ 9223372036854775807 then (if (ar ++ aI).size + bt104.1.size ≤ 9223372036854775807 then (if ((ar ++ aI) ++ bt104.1).size + bt106.1.size ≤ 9223372036854775807 then (some (((ar ++ aI) ++ bt104.1) ++ bt106.1, true)) else (none)) else (none)) else (none)) else (some ((⟨#[]⟩ : ByteArray), false))) else (some ((⟨#[]⟩ : ByteArray), false))) else (some ((⟨#[]⟩ : ByteArray), false))) else (some ((⟨#[]⟩ : ByteArray), false))) else (some ((⟨#[]⟩ : ByteArray), false))) else (some ((⟨#[]⟩ : ByteArray), false))))) = some (r1, r2) := H
 have A2 := Aside0.mk A20
 clear A20
 replace H := Option.bind_eq_some_iff.mp H
 obtain ⟨⟨aJ, cK⟩, eT, H⟩ := H
 replace H : ((roadbookref02_Put.f k ax 1).bind fun bt106 => (if aN = true then (if cK = true then (if bt106.2 = true then (if (ar.size : Int) = 16 then (if av.toList = ([] : List UInt8) then (if aw.toList = ([] : List UInt8) then (if ar.size + aI.size ≤ 9223372036854775807 then (if (ar ++ aI).size + aJ.size ≤ 9223372036854775807 then (if ((ar ++ aI) ++ aJ).size + bt106.1.size ≤ 9223372036854775807 then (some (((ar ++ aI) ++ aJ) ++ bt106.1, true)) else (none)) else (none)) else (none)) else (some ((⟨#[]⟩ : ByteArray), false))) else (some ((⟨#[]⟩ : ByteArray), false))) else (some ((⟨#[]⟩ : ByteArray), false))) else (some ((⟨#[]⟩ : ByteArray), false))) else (some ((⟨#[]⟩ : ByteArray), false))) else (some ((⟨#[]⟩ : ByteArray), false)))) = some (r1, r2) := H
 have A3 := Aside0.mk eT
 clear eT
 replace H := Option.bind_eq_some_iff.mp H
 obtain ⟨⟨cI, bJ⟩, jG, H⟩ := H
 replace H : (if aN = true then (if cK = true then (if bJ = true then (if (ar.size : Int) = 16 then (if av.toList = ([] : List UInt8) then (if aw.toList = ([] : List UInt8) then (if ar.size + aI.size ≤ 9223372036854775807 then (if (ar ++ aI).size + aJ.size ≤ 9223372036854775807 then (if ((ar ++ aI) ++ aJ).size + cI.size ≤ 9223372036854775807 then (some (((ar ++ aI) ++ aJ) ++ cI, true)) else (none)) else (none)) else (none)) else (some ((⟨#[]⟩ : ByteArray), false))) else (some ((⟨#[]⟩ : ByteArray), false))) else (some ((⟨#[]⟩ : ByteArray), false))) else (some ((⟨#[]⟩ : ByteArray), false))) else (some ((⟨#[]⟩ : ByteArray), false))) else (some ((⟨#[]⟩ : ByteArray), false))) = some (r1, r2) := H
 have A4 := Aside0.mk jG
 clear jG
 by_cases c5 : aN = true
 ·subst c5
  have H1 : (if cK = true then (if bJ = true then (if (ar.size : Int) = 16 then (if av.toList = ([] : List UInt8) then (if aw.toList = ([] : List UInt8) then (if ar.size + aI.size ≤ 9223372036854775807 then (if (ar ++ aI).size + aJ.size ≤ 9223372036854775807 then (if ((ar ++ aI) ++ aJ).size + cI.size ≤ 9223372036854775807 then (some (((ar ++ aI) ++ aJ) ++ cI, true)) else (none)) else (none)) else (none)) else (some ((⟨#[]⟩ : ByteArray), false))) else (some ((⟨#[]⟩ : ByteArray), false))) else (some ((⟨#[]⟩ : ByteArray), false))) else (some ((⟨#[]⟩ : ByteArray), false))) else (some ((⟨#[]⟩ : ByteArray), false))) = some (r1, r2) := by rw [if_pos rfl] at H; exact H
  clear H
  have H := H1
  clear H1
  by_cases c6 : cK = true
  ·subst c6
   have H1 : (if bJ = true then (if (ar.size : Int) = 16 then (if av.toList = ([] : List UInt8) then (if aw.toList = ([] : List UInt8) then (if ar.size + aI.size ≤ 9223372036854775807 then (if (ar ++ aI).size + aJ.size ≤ 9223372036854775807 then (if ((ar ++ aI) ++ aJ).size + cI.size ≤ 9223372036854775807 then (some (((ar ++ aI) ++ aJ) ++ cI, true)) else (none)) else (none)) else (none)) else (some ((⟨#[]⟩ : ByteArray), false))) else (some ((⟨#[]⟩ : ByteArray), false))) else (some ((⟨#[]⟩ : ByteArray), false))) else (some ((⟨#[]⟩ : ByteArray), false))) = some (r1, r2) := by rw [if_pos rfl] at H; exact H
   clear H
   have H := H1
   clear H1
   by_cases c7 : bJ = true
   ·subst c7
    have H1 : (if (ar.size : Int) = 16 then (if av.toList = ([] : List UInt8) then (if aw.toList = ([] : List UInt8) then (if ar.size + aI.size ≤ 9223372036854775807 then (if (ar ++ aI).size + aJ.size ≤ 9223372036854775807 then (if ((ar ++ aI) ++ aJ).size + cI.size ≤ 9223372036854775807 then (some (((ar ++ aI) ++ aJ) ++ cI, true)) else (none)) else (none)) else (none)) else (some ((⟨#[]⟩ : ByteArray), false))) else (some ((⟨#[]⟩ : ByteArray), false))) else (some ((⟨#[]⟩ : ByteArray), false))) = some (r1, r2) := by rw [if_pos rfl] at H; exact H
    clear H
    have H := H1
    clear H1
    by_cases c8 : (ar.size : Int) = 16
    ·rw [if_pos c8] at H
     have dS : ((ar.size : Int) == 16) = true := beq_iff_eq.mpr c8
     have ft : ((ar.size : Int) != 16) = false := bne_eq_false_iff_eq.mpr c8
     clear c8
     by_cases c9 : av.toList = ([] : List UInt8)
     ·rw [if_pos c9] at H
      have ha : (av.toList == ([] : List UInt8)) = true := beq_iff_eq.mpr c9
      have c9b1 : (av.toList != ([] : List UInt8)) = false := bne_eq_false_iff_eq.mpr c9
      clear c9
      by_cases cR : aw.toList = ([] : List UInt8)
      ·rw [if_pos cR] at H
       have dl : (aw.toList == ([] : List UInt8)) = true := beq_iff_eq.mpr cR
       have dV : (aw.toList != ([] : List UInt8)) = false := bne_eq_false_iff_eq.mpr cR
       clear cR
       by_cases eI : ar.size + aI.size ≤ 9223372036854775807
       ·rw [if_pos eI] at H
        have c11b0 := eq_true eI
        have c11b1 : decide (ar.size + aI.size ≤ 9223372036854775807) = true := decide_eq_true eI
        try have iB : (9223372036854775807 < ar.size + aI.size) = False := eq_false (Nat.not_lt.2 eI)
        try (have iC := iB; simp only [ByteArray.size_append] at iC)
        by_cases dm : (ar ++ aI).size + aJ.size ≤ 9223372036854775807
        ·rw [if_pos dm] at H
         have dE := eq_true dm
         have dF : decide ((ar ++ aI).size + aJ.size ≤ 9223372036854775807) = true := decide_eq_true dm
         try have c12b2 : (9223372036854775807 < (ar ++ aI).size + aJ.size) = False := eq_false (Nat.not_lt.2 dm)
         try (have c12b3 := c12b2; simp only [ByteArray.size_append] at c12b3)
         by_cases eD : ((ar ++ aI) ++ aJ).size + cI.size ≤ 9223372036854775807
         ·rw [if_pos eD] at H
          have hu := eq_true eD
          have c13b1 : decide (((ar ++ aI) ++ aJ).size + cI.size ≤ 9223372036854775807) = true := decide_eq_true eD
          try have c13b2 : (9223372036854775807 < ((ar ++ aI) ++ aJ).size + cI.size) = False := eq_false (Nat.not_lt.2 eD)
          try (have c13b3 := c13b2; simp only [ByteArray.size_append] at c13b3)
          simp only [Option.some.injEq, Prod.mk.injEq] at H
          obtain ⟨rfl, rfl⟩ := H
          go_enter Try.func34, Try.ntmps34
          go_wp2_with (first | ((with_reducible refine gate_dst (N := 1) rfl ?_); (try (refine gate_guard Z27 ?_; dsimp only)); refine Sq.box 1 #[.int .i64 aA, .int .i64 aq, .string ar, .string av, .string aw, .int .i64 ax] 47 ?_; intro aE hg w14 hbox hb; have aG := Aside0.mk (hbox); have cS := Aside0.mk (Sq.ge hg Z0); have cL := Aside0.mk (Sq.ge hg Z0); replace HB := Aside0.mk (below_step Z0 hb); clear hb hbox hg; have hcz15 := cells_6 aG.out) | ((with_reducible refine gate_callee (f := 47) rfl ?_); refine goesL_ (some 13) rfl rfl Try.func47 Z16 rfl #[.int .i64 aq, .int .i64 2] rfl Z4 ?_; (with_reducible refine (roadbookref02_Put.calls k aq 2 aI true _ A2.out).mono ?_); rintro e w16 ⟨rfl, hb⟩; refine ⟨_, rfl, ?_⟩; replace aG := Aside0.mk (blk_below (g := aE) (o := .cells #[.int .i64 aA, .int .i64 aq, .string ar, .string av, .string aw, .int .i64 ax] 47 (0, 0)) Z6 hb); replace HB := Aside0.mk (below_step Z3 hb); clear hb; have hcz17 := cells_6 aG.out) | ((with_reducible refine gate_callee (f := 47) rfl ?_); refine goesL_ (some 19) rfl rfl Try.func47 Z16 rfl #[.int .i64 aA, .int .i64 1] rfl Z4 ?_; (with_reducible refine (roadbookref02_Put.calls k aA 1 aJ true _ A3.out).mono ?_); rintro e jM ⟨rfl, hb⟩; refine ⟨_, rfl, ?_⟩; replace aG := Aside0.mk (blk_below (g := aE) (o := .cells #[.int .i64 aA, .int .i64 aq, .string ar, .string av, .string aw, .int .i64 ax] 47 (0, 0)) Z6 hb); replace HB := Aside0.mk (below_step Z3 hb); clear hb; have hcz19 := cells_6 aG.out) | ((with_reducible refine gate_callee (f := 47) rfl ?_); refine goesL_ (some 25) rfl rfl Try.func47 Z16 rfl #[.int .i64 ax, .int .i64 1] rfl Z4 ?_; (with_reducible refine (roadbookref02_Put.calls k ax 1 cI true _ A4.out).mono ?_); rintro e jN ⟨rfl, hb⟩; refine ⟨_, rfl, ?_⟩; replace aG := Aside0.mk (blk_below (g := aE) (o := .cells #[.int .i64 aA, .int .i64 aq, .string ar, .string av, .string aw, .int .i64 ax] 47 (0, 0)) Z6 hb); replace HB := Aside0.mk (below_step Z3 hb); clear hb; have hC := cells_6 aG.out))
          go_ret2
          exact ⟨Z2, Z3⟩
         ·rw [if_neg eD] at H
          exact absurd H Z36
        ·rw [if_neg dm] at H
         exact absurd H Z36
       ·rw [if_neg eI] at H
        exact absurd H Z36
      ·rw [if_neg cR] at H
       have dl : (aw.toList == ([] : List UInt8)) = false := beq_eq_false_iff_ne.mpr cR
       have dV : (aw.toList != ([] : List UInt8)) = true := bne_iff_ne.mpr cR
       simp only [Option.some.injEq, Prod.mk.injEq] at H
       obtain ⟨rfl, rfl⟩ := H
       go_enter Try.func34, Try.ntmps34
       go_wp2_with (first | ((with_reducible refine gate_dst (N := 1) rfl ?_); (try (refine gate_guard Z27 ?_; dsimp only)); refine Sq.box 1 #[.int .i64 aA, .int .i64 aq, .string ar, .string av, .string aw, .int .i64 ax] 47 ?_; intro aE hg w22 hbox hb; have aG := Aside0.mk (hbox); have cS := Aside0.mk (Sq.ge hg Z0); have cL := Aside0.mk (Sq.ge hg Z0); replace HB := Aside0.mk (below_step Z0 hb); clear hb hbox hg; have hcz23 := cells_6 aG.out) | ((with_reducible refine gate_callee (f := 47) rfl ?_); refine goesL_ (some 13) rfl rfl Try.func47 Z16 rfl #[.int .i64 aq, .int .i64 2] rfl Z4 ?_; (with_reducible refine (roadbookref02_Put.calls k aq 2 aI true _ A2.out).mono ?_); rintro e w24 ⟨rfl, hb⟩; refine ⟨_, rfl, ?_⟩; replace aG := Aside0.mk (blk_below (g := aE) (o := .cells #[.int .i64 aA, .int .i64 aq, .string ar, .string av, .string aw, .int .i64 ax] 47 (0, 0)) Z6 hb); replace HB := Aside0.mk (below_step Z3 hb); clear hb; have hcz25 := cells_6 aG.out) | ((with_reducible refine gate_callee (f := 47) rfl ?_); refine goesL_ (some 19) rfl rfl Try.func47 Z16 rfl #[.int .i64 aA, .int .i64 1] rfl Z4 ?_; (with_reducible refine (roadbookref02_Put.calls k aA 1 aJ true _ A3.out).mono ?_); rintro e w26 ⟨rfl, hb⟩; refine ⟨_, rfl, ?_⟩; replace aG := Aside0.mk (blk_below (g := aE) (o := .cells #[.int .i64 aA, .int .i64 aq, .string ar, .string av, .string aw, .int .i64 ax] 47 (0, 0)) Z6 hb); replace HB := Aside0.mk (below_step Z3 hb); clear hb; have hcz27 := cells_6 aG.out) | ((with_reducible refine gate_callee (f := 47) rfl ?_); refine goesL_ (some 25) rfl rfl Try.func47 Z16 rfl #[.int .i64 ax, .int .i64 1] rfl Z4 ?_; (with_reducible refine (roadbookref02_Put.calls k ax 1 cI true _ A4.out).mono ?_); rintro e w28 ⟨rfl, hb⟩; refine ⟨_, rfl, ?_⟩; replace aG := Aside0.mk (blk_below (g := aE) (o := .cells #[.int .i64 aA, .int .i64 aq, .string ar, .string av, .string aw, .int .i64 ax] 47 (0, 0)) Z6 hb); replace HB := Aside0.mk (below_step Z3 hb); clear hb; have hcz29 := cells_6 aG.out))
       go_ret2
       exact ⟨Z2, Z3⟩
     ·rw [if_neg c9] at H
      have ha : (av.toList == ([] : List UInt8)) = false := beq_eq_false_iff_ne.mpr c9
      have c9b1 : (av.toList != ([] : List UInt8)) = true := bne_iff_ne.mpr c9
      simp only [Option.some.injEq, Prod.mk.injEq] at H
      obtain ⟨rfl, rfl⟩ := H
      go_enter Try.func34, Try.ntmps34
      go_wp2_with (first | ((with_reducible refine gate_dst (N := 1) rfl ?_); (try (refine gate_guard Z27 ?_; dsimp only)); refine Sq.box 1 #[.int .i64 aA, .int .i64 aq, .string ar, .string av, .string aw, .int .i64 ax] 47 ?_; intro aE hg w30 hbox hb; have aG := Aside0.mk (hbox); have cS := Aside0.mk (Sq.ge hg Z0); have cL := Aside0.mk (Sq.ge hg Z0); replace HB := Aside0.mk (below_step Z0 hb); clear hb hbox hg; have hcz31 := cells_6 aG.out) | ((with_reducible refine gate_callee (f := 47) rfl ?_); refine goesL_ (some 13) rfl rfl Try.func47 Z16 rfl #[.int .i64 aq, .int .i64 2] rfl Z4 ?_; (with_reducible refine (roadbookref02_Put.calls k aq 2 aI true _ A2.out).mono ?_); rintro e w32 ⟨rfl, hb⟩; refine ⟨_, rfl, ?_⟩; replace aG := Aside0.mk (blk_below (g := aE) (o := .cells #[.int .i64 aA, .int .i64 aq, .string ar, .string av, .string aw, .int .i64 ax] 47 (0, 0)) Z6 hb); replace HB := Aside0.mk (below_step Z3 hb); clear hb; have hcz33 := cells_6 aG.out) | ((with_reducible refine gate_callee (f := 47) rfl ?_); refine goesL_ (some 19) rfl rfl Try.func47 Z16 rfl #[.int .i64 aA, .int .i64 1] rfl Z4 ?_; (with_reducible refine (roadbookref02_Put.calls k aA 1 aJ true _ A3.out).mono ?_); rintro e w34 ⟨rfl, hb⟩; refine ⟨_, rfl, ?_⟩; replace aG := Aside0.mk (blk_below (g := aE) (o := .cells #[.int .i64 aA, .int .i64 aq, .string ar, .string av, .string aw, .int .i64 ax] 47 (0, 0)) Z6 hb); replace HB := Aside0.mk (below_step Z3 hb); clear hb; have hcz35 := cells_6 aG.out) | ((with_reducible refine gate_callee (f := 47) rfl ?_); refine goesL_ (some 25) rfl rfl Try.func47 Z16 rfl #[.int .i64 ax, .int .i64 1] rfl Z4 ?_; (with_reducible refine (roadbookref02_Put.calls k ax 1 cI true _ A4.out).mono ?_); rintro e w36 ⟨rfl, hb⟩; refine ⟨_, rfl, ?_⟩; replace aG := Aside0.mk (blk_below (g := aE) (o := .cells #[.int .i64 aA, .int .i64 aq, .string ar, .string av, .string aw, .int .i64 ax] 47 (0, 0)) Z6 hb); replace HB := Aside0.mk (below_step Z3 hb); clear hb; have hcz37 := cells_6 aG.out))
      go_ret2
      exact ⟨Z2, Z3⟩
    ·rw [if_neg c8] at H
     have dS : ((ar.size : Int) == 16) = false := beq_eq_false_iff_ne.mpr c8
     have ft : ((ar.size : Int) != 16) = true := bne_iff_ne.mpr c8
     simp only [Option.some.injEq, Prod.mk.injEq] at H
     obtain ⟨rfl, rfl⟩ := H
     go_enter Try.func34, Try.ntmps34
     go_wp2_with (first | ((with_reducible refine gate_dst (N := 1) rfl ?_); (try (refine gate_guard Z27 ?_; dsimp only)); refine Sq.box 1 #[.int .i64 aA, .int .i64 aq, .string ar, .string av, .string aw, .int .i64 ax] 47 ?_; intro aE hg w38 hbox hb; have aG := Aside0.mk (hbox); have cS := Aside0.mk (Sq.ge hg Z0); have cL := Aside0.mk (Sq.ge hg Z0); replace HB := Aside0.mk (below_step Z0 hb); clear hb hbox hg; have hcz39 := cells_6 aG.out) | ((with_reducible refine gate_callee (f := 47) rfl ?_); refine goesL_ (some 13) rfl rfl Try.func47 Z16 rfl #[.int .i64 aq, .int .i64 2] rfl Z4 ?_; (with_reducible refine (roadbookref02_Put.calls k aq 2 aI true _ A2.out).mono ?_); rintro e jU ⟨rfl, hb⟩; refine ⟨_, rfl, ?_⟩; replace aG := Aside0.mk (blk_below (g := aE) (o := .cells #[.int .i64 aA, .int .i64 aq, .string ar, .string av, .string aw, .int .i64 ax] 47 (0, 0)) Z6 hb); replace HB := Aside0.mk (below_step Z3 hb); clear hb; have hcz41 := cells_6 aG.out) | ((with_reducible refine gate_callee (f := 47) rfl ?_); refine goesL_ (some 19) rfl rfl Try.func47 Z16 rfl #[.int .i64 aA, .int .i64 1] rfl Z4 ?_; (with_reducible refine (roadbookref02_Put.calls k aA 1 aJ true _ A3.out).mono ?_); rintro e w42 ⟨rfl, hb⟩; refine ⟨_, rfl, ?_⟩; replace aG := Aside0.mk (blk_below (g := aE) (o := .cells #[.int .i64 aA, .int .i64 aq, .string ar, .string av, .string aw, .int .i64 ax] 47 (0, 0)) Z6 hb); replace HB := Aside0.mk (below_step Z3 hb); clear hb; have hcz43 := cells_6 aG.out) | ((with_reducible refine gate_callee (f := 47) rfl ?_); refine goesL_ (some 25) rfl rfl Try.func47 Z16 rfl #[.int .i64 ax, .int .i64 1] rfl Z4 ?_; (with_reducible refine (roadbookref02_Put.calls k ax 1 cI true _ A4.out).mono ?_); rintro e w44 ⟨rfl, hb⟩; refine ⟨_, rfl, ?_⟩; replace aG := Aside0.mk (blk_below (g := aE) (o := .cells #[.int .i64 aA, .int .i64 aq, .string ar, .string av, .string aw, .int .i64 ax] 47 (0, 0)) Z6 hb); replace HB := Aside0.mk (below_step Z3 hb); clear hb; have hcz45 := cells_6 aG.out))
     go_ret2
     exact ⟨Z2, Z3⟩
   ·replace c7 := Bool.eq_false_iff.mpr c7
    subst c7
    have H1 : (some ((⟨#[]⟩ : ByteArray), false)) = some (r1, r2) := by rw [if_neg (show ¬ (false = true) by decide)] at H; exact H
    clear H
    have H := H1
    clear H1
    simp only [Option.some.injEq, Prod.mk.injEq] at H
    obtain ⟨rfl, rfl⟩ := H
    go_enter Try.func34, Try.ntmps34
    go_wp2_with (first | ((with_reducible refine gate_dst (N := 1) rfl ?_); (try (refine gate_guard Z27 ?_; dsimp only)); refine Sq.box 1 #[.int .i64 aA, .int .i64 aq, .string ar, .string av, .string aw, .int .i64 ax] 47 ?_; intro aE hg w46 hbox hb; have aG := Aside0.mk (hbox); have cS := Aside0.mk (Sq.ge hg Z0); have cL := Aside0.mk (Sq.ge hg Z0); replace HB := Aside0.mk (below_step Z0 hb); clear hb hbox hg; have hcz47 := cells_6 aG.out) | ((with_reducible refine gate_callee (f := 47) rfl ?_); refine goesL_ (some 13) rfl rfl Try.func47 Z16 rfl #[.int .i64 aq, .int .i64 2] rfl Z4 ?_; (with_reducible refine (roadbookref02_Put.calls k aq 2 aI true _ A2.out).mono ?_); rintro e w48 ⟨rfl, hb⟩; refine ⟨_, rfl, ?_⟩; replace aG := Aside0.mk (blk_below (g := aE) (o := .cells #[.int .i64 aA, .int .i64 aq, .string ar, .string av, .string aw, .int .i64 ax] 47 (0, 0)) Z6 hb); replace HB := Aside0.mk (below_step Z3 hb); clear hb; have hcz49 := cells_6 aG.out) | ((with_reducible refine gate_callee (f := 47) rfl ?_); refine goesL_ (some 19) rfl rfl Try.func47 Z16 rfl #[.int .i64 aA, .int .i64 1] rfl Z4 ?_; (with_reducible refine (roadbookref02_Put.calls k aA 1 aJ true _ A3.out).mono ?_); rintro e w50 ⟨rfl, hb⟩; refine ⟨_, rfl, ?_⟩; replace aG := Aside0.mk (blk_below (g := aE) (o := .cells #[.int .i64 aA, .int .i64 aq, .string ar, .string av, .string aw, .int .i64 ax] 47 (0, 0)) Z6 hb); replace HB := Aside0.mk (below_step Z3 hb); clear hb; have hcz51 := cells_6 aG.out) | ((with_reducible refine gate_callee (f := 47) rfl ?_); refine goesL_ (some 25) rfl rfl Try.func47 Z16 rfl #[.int .i64 ax, .int .i64 1] rfl Z4 ?_; (with_reducible refine (roadbookref02_Put.calls k ax 1 cI false _ A4.out).mono ?_); rintro e w52 ⟨rfl, hb⟩; refine ⟨_, rfl, ?_⟩; replace aG := Aside0.mk (blk_below (g := aE) (o := .cells #[.int .i64 aA, .int .i64 aq, .string ar, .string av, .string aw, .int .i64 ax] 47 (0, 0)) Z6 hb); replace HB := Aside0.mk (below_step Z3 hb); clear hb))
    go_ret2
    exact ⟨Z2, Z3⟩
  ·replace c6 := Bool.eq_false_iff.mpr c6
   subst c6
   have H1 : (some ((⟨#[]⟩ : ByteArray), false)) = some (r1, r2) := by rw [if_neg (show ¬ (false = true) by decide)] at H; exact H
   clear H
   have H := H1
   clear H1
   simp only [Option.some.injEq, Prod.mk.injEq] at H
   obtain ⟨rfl, rfl⟩ := H
   go_enter Try.func34, Try.ntmps34
   go_wp2_with (first | ((with_reducible refine gate_dst (N := 1) rfl ?_); (try (refine gate_guard Z27 ?_; dsimp only)); refine Sq.box 1 #[.int .i64 aA, .int .i64 aq, .string ar, .string av, .string aw, .int .i64 ax] 47 ?_; intro aE hg w53 hbox hb; have aG := Aside0.mk (hbox); have cS := Aside0.mk (Sq.ge hg Z0); have cL := Aside0.mk (Sq.ge hg Z0); replace HB := Aside0.mk (below_step Z0 hb); clear hb hbox hg; have hcz54 := cells_6 aG.out) | ((with_reducible refine gate_callee (f := 47) rfl ?_); refine goesL_ (some 13) rfl rfl Try.func47 Z16 rfl #[.int .i64 aq, .int .i64 2] rfl Z4 ?_; (with_reducible refine (roadbookref02_Put.calls k aq 2 aI true _ A2.out).mono ?_); rintro e w55 ⟨rfl, hb⟩; refine ⟨_, rfl, ?_⟩; replace aG := Aside0.mk (blk_below (g := aE) (o := .cells #[.int .i64 aA, .int .i64 aq, .string ar, .string av, .string aw, .int .i64 ax] 47 (0, 0)) Z6 hb); replace HB := Aside0.mk (below_step Z3 hb); clear hb; have hcz56 := cells_6 aG.out) | ((with_reducible refine gate_callee (f := 47) rfl ?_); refine goesL_ (some 19) rfl rfl Try.func47 Z16 rfl #[.int .i64 aA, .int .i64 1] rfl Z4 ?_; (with_reducible refine (roadbookref02_Put.calls k aA 1 aJ false _ A3.out).mono ?_); rintro e w57 ⟨rfl, hb⟩; refine ⟨_, rfl, ?_⟩; replace aG := Aside0.mk (blk_below (g := aE) (o := .cells #[.int .i64 aA, .int .i64 aq, .string ar, .string av, .string aw, .int .i64 ax] 47 (0, 0)) Z6 hb); replace HB := Aside0.mk (below_step Z3 hb); clear hb; have hcz58 := cells_6 aG.out) | ((with_reducible refine gate_callee (f := 47) rfl ?_); refine goesL_ (some 25) rfl rfl Try.func47 Z16 rfl #[.int .i64 ax, .int .i64 1] rfl Z4 ?_; (with_reducible refine (roadbookref02_Put.calls k ax 1 cI bJ _ A4.out).mono ?_); rintro e w59 ⟨rfl, hb⟩; refine ⟨_, rfl, ?_⟩; replace aG := Aside0.mk (blk_below (g := aE) (o := .cells #[.int .i64 aA, .int .i64 aq, .string ar, .string av, .string aw, .int .i64 ax] 47 (0, 0)) Z6 hb); replace HB := Aside0.mk (below_step Z3 hb); clear hb))
   go_ret2
   exact ⟨Z2, Z3⟩
 ·replace c5 := Bool.eq_false_iff.mpr c5
  subst c5
  have H1 : (some ((⟨#[]⟩ : ByteArray), false)) = some (r1, r2) := by rw [if_neg (show ¬ (false = true) by decide)] at H; exact H
  clear H
  have H := H1
  clear H1
  simp only [Option.some.injEq, Prod.mk.injEq] at H
  obtain ⟨rfl, rfl⟩ := H
  go_enter Try.func34, Try.ntmps34
  go_wp2_with (first | ((with_reducible refine gate_dst (N := 1) rfl ?_); (try (refine gate_guard Z27 ?_; dsimp only)); refine Sq.box 1 #[.int .i64 aA, .int .i64 aq, .string ar, .string av, .string aw, .int .i64 ax] 47 ?_; intro aE hg w60 hbox hb; have aG := Aside0.mk (hbox); have cS := Aside0.mk (Sq.ge hg Z0); have cL := Aside0.mk (Sq.ge hg Z0); replace HB := Aside0.mk (below_step Z0 hb); clear hb hbox hg; have hcz61 := cells_6 aG.out) | ((with_reducible refine gate_callee (f := 47) rfl ?_); refine goesL_ (some 13) rfl rfl Try.func47 Z16 rfl #[.int .i64 aq, .int .i64 2] rfl Z4 ?_; (with_reducible refine (roadbookref02_Put.calls k aq 2 aI false _ A2.out).mono ?_); rintro e w62 ⟨rfl, hb⟩; refine ⟨_, rfl, ?_⟩; replace aG := Aside0.mk (blk_below (g := aE) (o := .cells #[.int .i64 aA, .int .i64 aq, .string ar, .string av, .string aw, .int .i64 ax] 47 (0, 0)) Z6 hb); replace HB := Aside0.mk (below_step Z3 hb); clear hb; have hcz63 := cells_6 aG.out) | ((with_reducible refine gate_callee (f := 47) rfl ?_); refine goesL_ (some 19) rfl rfl Try.func47 Z16 rfl #[.int .i64 aA, .int .i64 1] rfl Z4 ?_; (with_reducible refine (roadbookref02_Put.calls k aA 1 aJ cK _ A3.out).mono ?_); rintro e jV ⟨rfl, hb⟩; refine ⟨_, rfl, ?_⟩; replace aG := Aside0.mk (blk_below (g := aE) (o := .cells #[.int .i64 aA, .int .i64 aq, .string ar, .string av, .string aw, .int .i64 ax] 47 (0, 0)) Z6 hb); replace HB := Aside0.mk (below_step Z3 hb); clear hb; have hcz65 := cells_6 aG.out) | ((with_reducible refine gate_callee (f := 47) rfl ?_); refine goesL_ (some 25) rfl rfl Try.func47 Z16 rfl #[.int .i64 ax, .int .i64 1] rfl Z4 ?_; (with_reducible refine (roadbookref02_Put.calls k ax 1 cI bJ _ A4.out).mono ?_); rintro e w66 ⟨rfl, hb⟩; refine ⟨_, rfl, ?_⟩; replace aG := Aside0.mk (blk_below (g := aE) (o := .cells #[.int .i64 aA, .int .i64 aq, .string ar, .string av, .string aw, .int .i64 ax] 47 (0, 0)) Z6 hb); replace HB := Aside0.mk (below_step Z3 hb); clear hb))
  go_ret2
  exact ⟨Z2, Z3⟩

end Go.Proofs.Ytnifhgackjkkbaa.PN
