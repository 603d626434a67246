-- Written by mp.py, a program of this work (wip/tools), out of the translation; Lean checks it.
import Derived.Test.YtccjakjjaemmkaaPAExZ
import Derived.Test.YtccjakjjaemmkaaPAExroadbookref07
namespace Go.Proofs.Ytccjakjjaemmkaa.PAE
open Go.RowKit Go.Proofs.YtccjakjjaemmkaaW.PrintWords Go.Proofs.YtccjakjjaemmkaaW.PrintLast Go.Proofs.YtccjakjjaemmkaaW.PrintMore
attribute [local go_sem] max2_int min2_int max_two min_two max_three min_three max_four min_four   -- for this text's walks alone
set_option linter.unusedVariables false
set_option linter.unusedSimpArgs false

/-! ### roadbookref13_Right: function 58 -/
def roadbookref13_Right.f (k : Nat) (l0 : List (S48)) : Option (Bool) := (roadbookref07_Subs.f k l0 0 255).bind fun bU => (some bU)
theorem roadbookref13_Right.mono : ∀ a0 k, LeO (roadbookref13_Right.f k a0) (roadbookref13_Right.f (k + 1) a0) := by
 intro a0 k
 unfold roadbookref13_Right.f
 have m0 := roadbookref07_Subs.mono
 exact Sq.mo
set_option maxHeartbeats 8000000 in
set_option maxRecDepth 100000 in
theorem roadbookref13_Right.calls (k : Nat) (A0 : Option Addr) (c0 : Nat) (l0 : List (S48)) (r : Bool) (w : World) (ff : Kd.C k48 w A0 l0.length l0) (eH : l0.length ≤ c0) (h : roadbookref13_Right.f k l0 = some r) :
  Calls Try.prog 58 #[.slice A0 l0.length c0] w fun e w' => e = .returned (.bool r) ∧ Drawn0 w w' := by
 have dS := Aside0.mk ff
 have gj := Aside0.mk eH
 clear ff eH
 have H : ((roadbookref07_Subs.f k l0 0 255).bind fun bU => (some bU)) = some r := h
 clear h
 replace H := Option.bind_eq_some_iff.mp H
 obtain ⟨bU, dL, H⟩ := H
 replace H : (some bU) = some r := H
 have A2 := Aside0.mk dL
 clear dL
 obtain rfl := Option.some.inj H
 go_enter Try.func58, Try.ntmps58
 go_wp2_with (first | ((with_reducible refine gate_callee (f := 75) rfl ?_); refine goesL_ (some 4) rfl rfl Try.func75 Z11 rfl #[.slice A0 l0.length c0, .int .i64 0, .int .i64 255] rfl Z4 ?_; (with_reducible refine (roadbookref07_Subs.calls k _ _ l0 0 255 bU _ ?side1 ?side2 A2.out).mono ?_); (case side1 => exact Z22); (case side2 => exact gj.out); rintro e w' ⟨rfl, ⟨nd, rfl⟩⟩; refine ⟨_, rfl, ?_⟩))
 go_ret
 exact ⟨Z10, Z16⟩

/-! ### roadbookref13_Put: function 51 -/
def roadbookref13_Put.l0 : Nat → List (S48) → ByteArray → Int → Option (ByteArray × Bool)
 | 0, _, _, _ => none
 | k + 1, x0, x4, x5 => if x5 < (x0.length : Int) then (if 0 ≤ x5 then ((some (([((rd_T48 x0 x5).f0) % 256, ((((rd_T48 x0 x5).f1).size : Int)) % 256] : List Int) : List Int)).bind fun fP => (if x4.size + (strOfNums fP).size ≤ 9223372036854775807 then (if (x4 ++ (strOfNums fP)).size + ((rd_T48 x0 x5).f1).size ≤ 9223372036854775807 then (roadbookref13_Put.l0 k x0 ((x4 ++ (strOfNums fP)) ++ ((rd_T48 x0 x5).f1)) (wrap64 (x5 + 1))) else (none)) else (none))) else (none)) else (some (x4, true))
def roadbookref13_Put.f (k : Nat) (l0 : List (S48)) : Option (ByteArray × Bool) := (roadbookref13_Right.f k l0).bind fun bU => (if bU = true then (roadbookref13_Put.l0 k l0 (⟨#[]⟩ : ByteArray) 0) else (some ((⟨#[]⟩ : ByteArray), false)))
theorem roadbookref13_Put.mono_l : ∀ k, (∀ y0 y1 y2, LeO (roadbookref13_Put.l0 k y0 y1 y2) (roadbookref13_Put.l0 (k + 1) y0 y1 y2))
 | 0 => Sq.mz
 | k + 1 => by
  have ih0 := roadbookref13_Put.mono_l k
  ·intros
   unfold roadbookref13_Put.l0
   have m0 := roadbookref13_Right.mono
   exact Sq.mo
theorem roadbookref13_Put.mono : ∀ a0 k, LeO (roadbookref13_Put.f k a0) (roadbookref13_Put.f (k + 1) a0) := by
 intro a0 k
 have ih0 := roadbookref13_Put.mono_l k
 unfold roadbookref13_Put.f
 have m0 := roadbookref13_Right.mono
 exact Sq.mo
def roadbookref13_Put.T7 : Bool × List (List Nat × List Nat) := (true, [([], []), ([], []), ([], []), ([1, 2], [1, 2]), ([3], [3]), ([4], [4]), ([5], [5]), ([], []), ([], []), ([7, 8], [7, 8]), ([9], [9]), ([10], [10]), ([11], [11]), ([12], [12]), ([6, 13], [6, 13]), ([14], [14]), ([0, 15], [0, 15]), ([], []), ([], []), ([17, 18], [17, 18]), ([19], [19]), ([20], [20]), ([16, 21], [16, 21]), ([22, 0, 1, 2, 3, 4, 5, 6, 7, 8, 9, 10, 11, 12, 13, 14, 15, 16, 17, 18, 19, 20, 21, 22], [0, 22])])
def roadbookref13_Put.B7 : List Nat := [0, 0, 0, 6, 14, 30, 62, 0, 0, 384, 896, 1920, 3968, 8064, 16382, 32766, 65535, 0, 0, 393216, 917504, 1966080, 4194303, 8388607]
theorem roadbookref13_Put.tab7 : rtab .any (opsOf Try.f51 7) = roadbookref13_Put.T7 := by kernel_rfl
theorem roadbookref13_Put.bits7 : waitsOk roadbookref13_Put.T7.2 roadbookref13_Put.B7 = true := by kernel_rfl
set_option maxHeartbeats 8000000 in
set_option maxRecDepth 100000 in
theorem roadbookref13_Put.calls (k : Nat) (A0 : Option Addr) (c0 : Nat) (l0 : List (S48)) (r1 : ByteArray) (r2 : Bool) (w : World) (ff : Kd.C k48 w A0 l0.length l0) (eH : l0.length ≤ c0) (h : roadbookref13_Put.f k l0 = some (r1, r2)) :
  Calls Try.prog 51 #[.slice A0 l0.length c0] w fun e w' => e = .returned (.tuple #[.string r1, .bool r2]) ∧ Below w.heap.size w w' := by
 have dS := Aside0.mk ff
 have gj := Aside0.mk eH
 clear ff eH
 have HB := Aside0.mk (Below.refl w.heap.size w)
 have H : ((roadbookref13_Right.f k l0).bind fun bU => (if bU = true then (roadbookref13_Put.l0 k l0 (⟨#[]⟩ : ByteArray) 0) else (some ((⟨#[]⟩ : ByteArray), false)))) = some (r1, r2) := h
 clear h
 replace H := Option.bind_eq_some_iff.mp H
 obtain ⟨bU, dL, H⟩ := H
 replace H : (if bU = true then (roadbookref13_Put.l0 k l0 (⟨#[]⟩ : ByteArray) 0) else (some ((⟨#[]⟩ : ByteArray), false))) = some (r1, r2) := H
 have A2 := Aside0.mk dL
 clear dL
 by_cases c3 : bU = true
 ·subst c3
  have H1 : (roadbookref13_Put.l0 k l0 (⟨#[]⟩ : ByteArray) 0) = some (r1, r2) := by rw [if_pos rfl] at H; exact H
  clear H
  have H := H1
  clear H1
  have H' := Aside0.mk H
  clear H
  go_enter Try.func51, Try.ntmps51
  go_wp2_with (first | ((with_reducible refine gate_callee (f := 58) rfl ?_); refine goesL_ (some 7) rfl rfl Try.func58 Z11 rfl #[.slice A0 l0.length c0] rfl Z4 ?_; (with_reducible refine (roadbookref13_Right.calls k _ _ l0 true _ ?side1 ?side2 A2.out).mono ?_); (case side1 => exact Z22); (case side2 => exact gj.out); rintro e w' ⟨rfl, ⟨nd, rfl⟩⟩; refine ⟨_, rfl, ?_⟩))
  go_loopg [4, 5] k (fun kq v4 v5 w' => ∃ (cy : ByteArray) (aG : Int), v4 = .string cy ∧ v5 = .int .i64 aG ∧ Aside0 (roadbookref13_Put.l0 kq l0 cy aG = some (r1, r2)) ∧ Aside0 (kq ≤ k) ∧ Aside0 (Below w.heap.size w w'))
  case atStart => exact ⟨((⟨#[]⟩ : ByteArray)), (0), Z10, Z10, H', ⟨Nat.le_refl _⟩, ⟨Z2⟩⟩
  case round =>
   clear H'
   try clear p2
   try clear c3
   obtain ⟨cy, aG, rfl, rfl, HA, HK1, HB⟩ := hrel
   cases gk with
   | zero => exact absurd HA.out (by simp [roadbookref13_Put.l0])
   | succ k1 =>
    have H := HA.out
    clear HA
    simp only [roadbookref13_Put.l0] at H
    by_cases c4 : aG < (l0.length : Int)
    ·rw [if_pos c4] at H
     have cf : decide (aG < (l0.length : Int)) = true := decide_eq_true c4
     clear c4
     by_cases c5 : 0 ≤ aG
     ·rw [if_pos c5] at H
      have dx : decide (0 ≤ aG) = true := decide_eq_true c5
      clear c5
      obtain ⟨fP, hy104⟩ : ∃ y_ : List Int, y_ = (([((rd_T48 l0 aG).f0) % 256, ((((rd_T48 l0 aG).f1).size : Int)) % 256] : List Int)) := ⟨_, rfl⟩
      replace H : (if cy.size + (strOfNums fP).size ≤ 9223372036854775807 then (if (cy ++ (strOfNums fP)).size + ((rd_T48 l0 aG).f1).size ≤ 9223372036854775807 then (roadbookref13_Put.l0 k1 l0 ((cy ++ (strOfNums fP)) ++ ((rd_T48 l0 aG).f1)) (wrap64 (aG + 1))) else (none)) else (none)) = some (r1, r2) := by first | (rw [hy104]; with_reducible exact H) | (have H2_ := (Option.bind_some _ _).symm.trans H; rw [hy104]; with_reducible exact H2_) | (have H2_ := (Option.bind_some _ _).symm.trans H; with_reducible exact H2_) | with_reducible exact H | (rw [hy104]; exact H) | exact H
      have Ny104 := Aside0.mk hy104
      clear hy104
      by_cases c6 : cy.size + (strOfNums fP).size ≤ 9223372036854775807
      ·rw [if_pos c6] at H
       have dW := eq_true c6
       have ft : decide (cy.size + (strOfNums fP).size ≤ 9223372036854775807) = true := decide_eq_true c6
       try have ha : (9223372036854775807 < cy.size + (strOfNums fP).size) = False := eq_false (Nat.not_lt.2 c6)
       try (have hf := ha; simp only [ByteArray.size_append] at hf)
       by_cases c7 : (cy ++ (strOfNums fP)).size + ((rd_T48 l0 aG).f1).size ≤ 9223372036854775807
       ·rw [if_pos c7] at H
        have dT := eq_true c7
        have hu : decide ((cy ++ (strOfNums fP)).size + ((rd_T48 l0 aG).f1).size ≤ 9223372036854775807) = true := decide_eq_true c7
        try have jb : (9223372036854775807 < (cy ++ (strOfNums fP)).size + ((rd_T48 l0 aG).f1).size) = False := eq_false (Nat.not_lt.2 c7)
        try (have jc := jb; simp only [ByteArray.size_append] at jc)
        have H' := Aside0.mk H
        clear H
        try go_wp2
        have bi := Aside0.mk (below_drew1 HB.out)
        clear HB
        have HB := bi
        clear bi
        have p102 : 0 ≤ (aG : Int) := of_decide_eq_true Z8
        have q102 : aG < (l0.length : Int) := of_decide_eq_true Z8
        obtain ⟨ad102, e102, hx102_0, hx102_1⟩ := at_T48 dS.out aG p102 q102
        have hw102_1 := hx102_1
        have hw102_0 := hx102_0
        cases e102
        replace hx102_0 := Sq.up HB.out hx102_0
        replace hx102_1 := Sq.up HB.out hx102_1
        replace p102 := eq_true p102
        replace q102 := eq_true q102
        have p103 : 0 ≤ (aG : Int) := of_decide_eq_true Z8
        have q103 : aG < (l0.length : Int) := of_decide_eq_true Z8
        obtain ⟨ad103, e103, hx103_0, hx103_1⟩ := at_T48 dS.out aG p103 q103
        have hw103_1 := hx103_1
        have hw103_0 := hx103_0
        obtain rfl : ad102 = ad103 := (by injection e103)
        replace hx103_0 := Sq.up HB.out hx103_0
        replace hx103_1 := Sq.up HB.out hx103_1
        replace p103 := eq_true p103
        replace q103 := eq_true q103
        have p107 : 0 ≤ (aG : Int) := of_decide_eq_true Z8
        have q107 : aG < (l0.length : Int) := of_decide_eq_true Z8
        obtain ⟨ad107, e107, hx107_0, hx107_1⟩ := at_T48 dS.out aG p107 q107
        have hw107_1 := hx107_1
        have hw107_0 := hx107_0
        obtain rfl : ad102 = ad107 := (by injection e107)
        replace hx107_0 := Sq.up HB.out hx107_0
        replace hx107_1 := Sq.up HB.out hx107_1
        replace p107 := eq_true p107
        replace q107 := eq_true q107
        refine start_ (n := 24) (S := fun w' => w'.cell? (ad102.add ((aG).toNat * 2)) = some (.int .i64 ((rd_T48 l0 aG).f0)) ∧ w'.cell? ⟨(ad102.add ((aG).toNat * 2)).block, (ad102.add ((aG).toNat * 2)).off + 1, none⟩ = some (.string ((rd_T48 l0 aG).f1)) ∧ w'.cell? (ad102.add ((aG).toNat * 2)) = some (.int .i64 ((rd_T48 l0 aG).f0)) ∧ w'.cell? ⟨(ad102.add ((aG).toNat * 2)).block, (ad102.add ((aG).toNat * 2)).off + 1, none⟩ = some (.string ((rd_T48 l0 aG).f1)) ∧ w'.cell? (ad102.add ((aG).toNat * 2)) = some (.int .i64 ((rd_T48 l0 aG).f0)) ∧ w'.cell? ⟨(ad102.add ((aG).toNat * 2)).block, (ad102.add ((aG).toNat * 2)).off + 1, none⟩ = some (.string ((rd_T48 l0 aG).f1))) (ds := []) (Sq.b 24 0) Z11 rfl rfl ⟨(Sq.up HB.out hw102_0), (Sq.up HB.out hw102_1), (Sq.up HB.out hw103_0), (Sq.up HB.out hw103_1), (Sq.up HB.out hw107_0), (Sq.up HB.out hw107_1)⟩ (fun hHeld => ?_); refine with_tabW roadbookref13_Put.tab7 roadbookref13_Put.bits7 (fun HT_ HW_ => ?_)
        generalize wr.drew = w8 at HB hx102_0 hx102_1 hx103_0 hx103_1 hx107_0 hx107_1 hHeld ⊢
        refine Sq.pur 0 (some 15) (Sq.b 24 1) HT_.out ?_
        refine Sq.pur 1 (some 16) (Sq.b 24 3) HT_.out ?_
        refine Sq.pur 2 (some 17) (Sq.b 24 7) HT_.out ?_
        refine Sq.pur 3 (some 18) (Sq.b 24 15) HT_.out ?_
        refine Sq.pur 4 (some 19) (Sq.b 24 31) HT_.out ?_
        refine Sq.pur 7 (some 22) (Sq.b 24 159) HT_.out ?_
        refine Sq.pur 8 (some 23) (Sq.b 24 415) HT_.out ?_
        refine Sq.pur 9 (some 24) (Sq.b 24 927) HT_.out ?_
        refine Sq.pur 10 (some 25) (Sq.b 24 1951) HT_.out ?_
        refine Sq.pur 17 (some 32) (Sq.b 24 133023) HT_.out ?_
        refine Sq.pur 18 (some 33) (Sq.b 24 395167) HT_.out ?_
        refine Sq.pur 19 (some 34) (Sq.b 24 919455) HT_.out ?_
        refine Sq.pur 20 (some 35) (Sq.b 24 1968031) HT_.out ?_
        refine Sq.tak 5 (some 20) (Sq.b 24 1968063) HT_.out HW_.out hHeld (v := ?_) (a' := ?_) ?_ ?_ ?_
        rotate_left
        ·rintro w' ⟨s0, s1, s2, s3, s4, s5⟩
         go_simp
         with_reducible rfl
        rotate_left
        ·simp only [Act.put, Sq.s1, Sq.s2, Sq.s3, i64_w, i32_w]
         rfl
        refine Sq.pur 6 (some 21) (Sq.b 24 1968127) HT_.out ?_
        refine Sq.tak 11 (some 26) (Sq.b 24 1970175) HT_.out HW_.out hHeld (v := ?_) (a' := ?_) ?_ ?_ ?_
        rotate_left
        ·rintro w' ⟨s0, s1, s2, s3, s4, s5⟩
         go_simp
         with_reducible rfl
        rotate_left
        ·simp only [Act.put, Sq.s1, Sq.s2, Sq.s3, i64_w, i32_w]
         rfl
        refine Sq.pur 12 (some 27) (Sq.b 24 1974271) HT_.out ?_
        refine Sq.pur 13 (some 28) (Sq.b 24 1982463) HT_.out ?_
        refine Sq.tak 21 (some 36) (Sq.b 24 4079615) HT_.out HW_.out hHeld (v := ?_) (a' := ?_) ?_ ?_ ?_
        rotate_left
        ·rintro w' ⟨s0, s1, s2, s3, s4, s5⟩
         go_simp
         with_reducible rfl
        rotate_left
        ·simp only [Act.put, Sq.s1, Sq.s2, Sq.s3, i64_w, i32_w]
         rfl
        refine one_ (i := 14) (N := some 29) (Sq.b 24 4095999) rfl rfl (one_of HT_.out Z11) Z21 (fun K hK => ?_)
        refine Kd.R_lit_step (Kd.int .u8) _ 5 ?hg (N := 29) ?hd (xs := ([((rd_T48 l0 aG).f0) % 256, ((((rd_T48 l0 aG).f1).size : Int)) % 256] : List Int)) (inner := [.int .u8 (((rd_T48 l0 aG).f0) % 256), .int .u8 (((((rd_T48 l0 aG).f1).size : Int)) % 256)]) (ok := fun _ => True) (okp := fun _ => True) ?hr ?hp (fun _ hk => hk) trivial (Below.refl _ _) (Nat.le_refl _) Z35 ?_; (case hd => rfl); (case hg => rfl); (case hr => first | (go_simp; done) | (go_simp; rfl)); (case hp => exact (Reps.one (show Kd.M (Kd.int .u8) _ _ _ (((rd_T48 l0 aG).f0) % 256) [.int .u8 (((rd_T48 l0 aG).f0) % 256)] from rfl) (Reps.one (show Kd.M (Kd.int .u8) _ _ _ (((((rd_T48 l0 aG).f1).size : Int)) % 256) [.int .u8 (((((rd_T48 l0 aG).f1).size : Int)) % 256)] from rfl) (Reps.none _ _))))
        intro nG w9 ho10 hb hg_ hnew_
        clear hg_ hnew_
        (first | rw [← Ny104.out] at ho10 | (simp only [Int.reduceToNat] at ho10; rw [← Ny104.out] at ho10))
        have bi := Aside0.mk (Kd.R_lower ho10 (below_size Z2))
        have bp := Aside0.mk (below_step Z2 hb)
        clear HB
        have gP := bi
        have HB := bp
        clear bi bp
        clear hb ho10
        refine hK.out _ _ ⟨(Sq.up HB.out hw102_0), (Sq.up HB.out hw102_1), (Sq.up HB.out hw103_0), (Sq.up HB.out hw103_1), (Sq.up HB.out hw107_0), (Sq.up HB.out hw107_1)⟩ (fun hHeld => ?_)
        clear hK K
        refine norm_ (a' := ?_) ?_ ?_
        rotate_left
        ·show Act.put _ (some 29) _ = _
         simp only [Act.put, Sq.s1, Sq.s2, Sq.s3, i64_w, i32_w]
         rfl
        refine one_ (i := 15) (N := some 30) (Sq.b 24 4128767) rfl rfl (one_of HT_.out Z11) Z21 (fun K hK => ?_)
        have hcv11 := own_string (P := Try.prog) Try.underlying51 Try.underlying5 Try.underlying9 (Kd.own_of_R gP.out)
        refine value_ (w1 := ?_) (v := ?_) Z14 rfl ?_ ?_
        rotate_left 2
        ·go_simp
         constructor
         ·rfl
         ·rfl
        clear hcv11
        refine hK.out _ _ ⟨(Sq.up HB.out hw102_0), (Sq.up HB.out hw102_1), (Sq.up HB.out hw103_0), (Sq.up HB.out hw103_1), (Sq.up HB.out hw107_0), (Sq.up HB.out hw107_1)⟩ (fun hHeld => ?_)
        clear hK K
        refine norm_ (a' := ?_) ?_ ?_
        rotate_left
        ·show Act.put _ (some 30) _ = _
         simp only [Act.put, Sq.s1, Sq.s2, Sq.s3, i64_w, i32_w]
         rfl
        refine Sq.pur 16 (some 31) (Sq.b 24 4194303) HT_.out ?_
        refine Sq.pur 22 (some 37) (Sq.b 24 8388607) HT_.out ?_
        refine Sq.pur 23 (some 4) (Sq.b 24 16777215) HT_.out ?_
        refine done_ (done_of HT_.out Z11) ?_
        try go_wp2
        go_roundg k1
        case measure => have := HK1.out; omega
        case rel => exact ⟨((cy ++ (strOfNums fP)) ++ ((rd_T48 l0 aG).f1)), (wrap64 (aG + 1)), Z10, Z10, H', ⟨Z49⟩, ⟨Z2⟩⟩
       ·rw [if_neg c7] at H
        exact absurd H Z35
      ·rw [if_neg c6] at H
       exact absurd H Z35
     ·rw [if_neg c5] at H
      exact absurd H Z35
    ·rw [if_neg c4] at H
     have cf : decide (aG < (l0.length : Int)) = false := decide_eq_false c4
     clear c4
     simp only [Option.some.injEq, Prod.mk.injEq] at H
     obtain ⟨rfl, rfl⟩ := H
     go_wp2
     go_ret2
     exact ⟨Z6, Z2⟩
 ·replace c3 := Bool.eq_false_iff.mpr c3
  subst c3
  have H1 : (some ((⟨#[]⟩ : ByteArray), false)) = some (r1, r2) := by rw [if_neg (show ¬ (false = true) by decide)] at H; exact H
  clear H
  have H := H1
  clear H1
  simp only [Option.some.injEq, Prod.mk.injEq] at H
  obtain ⟨rfl, rfl⟩ := H
  go_enter Try.func51, Try.ntmps51
  go_wp2_with (first | ((with_reducible refine gate_callee (f := 58) rfl ?_); refine goesL_ (some 7) rfl rfl Try.func58 Z11 rfl #[.slice A0 l0.length c0] rfl Z4 ?_; (with_reducible refine (roadbookref13_Right.calls k _ _ l0 false _ ?side1 ?side2 A2.out).mono ?_); (case side1 => exact Z22); (case side2 => exact gj.out); rintro e w' ⟨rfl, ⟨nd, rfl⟩⟩; refine ⟨_, rfl, ?_⟩))
  go_ret2
  exact ⟨Z6, Z2⟩

end Go.Proofs.Ytccjakjjaemmkaa.PAE
