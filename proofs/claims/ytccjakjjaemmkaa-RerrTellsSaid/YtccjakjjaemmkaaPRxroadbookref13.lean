-- Written by mp.py, a program of this work (wip/tools), out of the translation; Lean checks it.
import Derived.Test.YtccjakjjaemmkaaPRxZ
import Derived.Test.YtccjakjjaemmkaaPRxroadbookref07
namespace Go.Proofs.Ytccjakjjaemmkaa.PR
open Go.RowKit Go.Proofs.YtccjakjjaemmkaaW.PrintWords Go.Proofs.YtccjakjjaemmkaaW.PrintLast Go.Proofs.YtccjakjjaemmkaaW.PrintMore
attribute [local go_sem] max2_int min2_int max_two min_two max_three min_three max_four min_four   -- for this text's walks alone
set_option linter.unusedVariables false
set_option linter.unusedSimpArgs false

/-! ### roadbookref13_Right: function 58 -/
def roadbookref13_Right.f (k : Nat) (l0 : List (S48)) : Option (Bool) := (roadbookref07_Subs.f k l0 0 255).bind fun ci => (some ci)
theorem roadbookref13_Right.mono : ∀ a0 k, LeO (roadbookref13_Right.f k a0) (roadbookref13_Right.f (k + 1) a0) := by
 intro a0 k
 unfold roadbookref13_Right.f
 repeat' first
   | (with_reducible exact roadbookref07_Subs.mono _ _ _ _)
   | (with_reducible exact LeO.refl _)
   | (with_reducible exact LeO.none _)
   | (with_reducible refine LeO.ite ?_ ?_)
   | (with_reducible refine LeO.bind ?_ (fun _ => ?_))
   | exact roadbookref07_Subs.mono _ _ _ _
   | exact LeO.none _
   | refine LeO.ite ?_ ?_
   | refine LeO.bind ?_ (fun _ => ?_)
set_option maxHeartbeats 8000000 in
set_option maxRecDepth 100000 in
theorem roadbookref13_Right.calls (k : Nat) (A0 : Option Addr) (c0 : Nat) (l0 : List (S48)) (r : Bool) (w : World) (ka : Kd.C k48 w A0 l0.length l0) (iM : l0.length ≤ c0) (h : roadbookref13_Right.f k l0 = some r) :
  Calls Try.prog 58 #[.slice A0 l0.length c0] w fun e w' => e = .returned (.bool r) ∧ Drawn0 w w' := by
 have js := Aside0.mk ka
 have mD := Aside0.mk iM
 clear ka iM
 have H : ((roadbookref07_Subs.f k l0 0 255).bind fun ci => (some ci)) = some r := h
 clear h
 replace H := Option.bind_eq_some_iff.mp H
 obtain ⟨ci, gN, H⟩ := H
 replace H : (some ci) = some r := H
 have A2 := Aside0.mk gN
 clear gN
 obtain rfl := Option.some.inj H
 go_enter Try.func58, Try.ntmps58
 go_wp2_with (first | ((with_reducible refine gate_callee (f := 75) rfl ?_); refine goesL_ (some 4) rfl rfl Try.func75 Z6 rfl #[.slice A0 l0.length c0, .int .i64 0, .int .i64 255] rfl Z5 ?_; (with_reducible refine (roadbookref07_Subs.calls k _ _ l0 0 255 ci _ ?side1 ?side2 A2.out).mono ?_); (case side1 => exact Z85); (case side2 => exact mD.out); rintro e w' ⟨rfl, ⟨nd, rfl⟩⟩; refine ⟨_, rfl, ?_⟩))
 go_ret
 exact ⟨Z14, Z44⟩

/-! ### roadbookref13_Put: function 51 -/
def roadbookref13_Put.l0 : Nat → List (S48) → ByteArray → Int → Option (ByteArray × Bool)
 | 0, _, _, _ => none
 | k + 1, x0, x4, x5 => if x5 < (x0.length : Int) then (if 0 ≤ x5 then ((some (([((rd_T48 x0 x5).f0) % 256, ((((rd_T48 x0 x5).f1).size : Int)) % 256] : List Int) : List Int)).bind fun iY => (if x4.size + (strOfNums iY).size ≤ 9223372036854775807 then (if (x4 ++ (strOfNums iY)).size + ((rd_T48 x0 x5).f1).size ≤ 9223372036854775807 then (roadbookref13_Put.l0 k x0 ((x4 ++ (strOfNums iY)) ++ ((rd_T48 x0 x5).f1)) (wrap64 (x5 + 1))) else (none)) else (none))) else (none)) else (some (x4, true))
def roadbookref13_Put.f (k : Nat) (l0 : List (S48)) : Option (ByteArray × Bool) := (roadbookref13_Right.f k l0).bind fun ci => (if ci = true then (roadbookref13_Put.l0 k l0 (⟨#[]⟩ : ByteArray) 0) else (some ((⟨#[]⟩ : ByteArray), false)))
theorem roadbookref13_Put.mono_l : ∀ k, (∀ y0 y1 y2, LeO (roadbookref13_Put.l0 k y0 y1 y2) (roadbookref13_Put.l0 (k + 1) y0 y1 y2))
 | 0 => fun _ _ _ r h => by simp [roadbookref13_Put.l0] at h
 | k + 1 => by
  have ih0 := roadbookref13_Put.mono_l k
  ·intro y0 y1 y2
   unfold roadbookref13_Put.l0
   repeat' first
   | (with_reducible exact ih0 ..)
   | (with_reducible exact roadbookref13_Right.mono _ _)
   | (with_reducible exact LeO.refl _)
   | (with_reducible exact LeO.none _)
   | (with_reducible refine LeO.ite ?_ ?_)
   | (with_reducible refine LeO.bind ?_ (fun _ => ?_))
   | exact ih0 ..
   | exact roadbookref13_Right.mono _ _
   | exact LeO.none _
   | refine LeO.ite ?_ ?_
   | refine LeO.bind ?_ (fun _ => ?_)
theorem roadbookref13_Put.mono : ∀ a0 k, LeO (roadbookref13_Put.f k a0) (roadbookref13_Put.f (k + 1) a0) := by
 intro a0 k
 have ih0 := roadbookref13_Put.mono_l k
 unfold roadbookref13_Put.f
 repeat' first
   | (with_reducible exact ih0 ..)
   | (with_reducible exact roadbookref13_Right.mono _ _)
   | (with_reducible exact LeO.refl _)
   | (with_reducible exact LeO.none _)
   | (with_reducible refine LeO.ite ?_ ?_)
   | (with_reducible refine LeO.bind ?_ (fun _ => ?_))
   | exact ih0 ..
   | exact roadbookref13_Right.mono _ _
   | exact LeO.none _
   | refine LeO.ite ?_ ?_
   | refine LeO.bind ?_ (fun _ => ?_)
def roadbookref13_Put.T7 : Bool × List (List Nat × List Nat) := (true, [([], []), ([], []), ([], []), ([1, 2], [1, 2]), ([3], [3]), ([4], [4]), ([5], [5]), ([], []), ([], []), ([7, 8], [7, 8]), ([9], [9]), ([10], [10]), ([11], [11]), ([12], [12]), ([6, 13], [6, 13]), ([14], [14]), ([0, 15], [0, 15]), ([], []), ([], []), ([17, 18], [17, 18]), ([19], [19]), ([20], [20]), ([16, 21], [16, 21]), ([22, 0, 1, 2, 3, 4, 5, 6, 7, 8, 9, 10, 11, 12, 13, 14, 15, 16, 17, 18, 19, 20, 21, 22], [0, 22])])
def roadbookref13_Put.B7 : List Nat := [0, 0, 0, 6, 14, 30, 62, 0, 0, 384, 896, 1920, 3968, 8064, 16382, 32766, 65535, 0, 0, 393216, 917504, 1966080, 4194303, 8388607]
theorem roadbookref13_Put.tab7 : rtab .any (opsOf Try.f51 7) = roadbookref13_Put.T7 := by kernel_rfl
theorem roadbookref13_Put.bits7 : waitsOk roadbookref13_Put.T7.2 roadbookref13_Put.B7 = true := by kernel_rfl
set_option maxHeartbeats 8000000 in
set_option maxRecDepth 100000 in
theorem roadbookref13_Put.calls (k : Nat) (A0 : Option Addr) (c0 : Nat) (l0 : List (S48)) (r1 : ByteArray) (r2 : Bool) (w : World) (ka : Kd.C k48 w A0 l0.length l0) (iM : l0.length ≤ c0) (h : roadbookref13_Put.f k l0 = some (r1, r2)) :
  Calls Try.prog 51 #[.slice A0 l0.length c0] w fun e w' => e = .returned (.tuple #[.string r1, .bool r2]) ∧ Below w.heap.size w w' := by
 have js := Aside0.mk ka
 have mD := Aside0.mk iM
 clear ka iM
 have HB := Aside0.mk (Below.refl w.heap.size w)
 have H : ((roadbookref13_Right.f k l0).bind fun ci => (if ci = true then (roadbookref13_Put.l0 k l0 (⟨#[]⟩ : ByteArray) 0) else (some ((⟨#[]⟩ : ByteArray), false)))) = some (r1, r2) := h
 clear h
 replace H := Option.bind_eq_some_iff.mp H
 obtain ⟨ci, gN, H⟩ := H
 replace H : (if ci = true then (roadbookref13_Put.l0 k l0 (⟨#[]⟩ : ByteArray) 0) else (some ((⟨#[]⟩ : ByteArray), false))) = some (r1, r2) := H
 have A2 := Aside0.mk gN
 clear gN
 by_cases c3 : ci = true
 ·subst c3
  have H1 : (roadbookref13_Put.l0 k l0 (⟨#[]⟩ : ByteArray) 0) = some (r1, r2) := by rw [if_pos rfl] at H; exact H
  clear H
  have H := H1
  clear H1
  have H' := Aside0.mk H
  clear H
  go_enter Try.func51, Try.ntmps51
  go_wp2_with (first | ((with_reducible refine gate_callee (f := 58) rfl ?_); refine goesL_ (some 7) rfl rfl Try.func58 Z6 rfl #[.slice A0 l0.length c0] rfl Z5 ?_; (with_reducible refine (roadbookref13_Right.calls k _ _ l0 true _ ?side1 ?side2 A2.out).mono ?_); (case side1 => exact Z85); (case side2 => exact mD.out); rintro e w' ⟨rfl, ⟨nd, rfl⟩⟩; refine ⟨_, rfl, ?_⟩))
  go_loopg [4, 5] k (fun kq v4 v5 w' => ∃ (cI : ByteArray) (br : Int), v4 = .string cI ∧ v5 = .int .i64 br ∧ Aside0 (roadbookref13_Put.l0 kq l0 cI br = some (r1, r2)) ∧ Aside0 (kq ≤ k) ∧ Aside0 (Below w.heap.size w w'))
  case atStart => exact ⟨((⟨#[]⟩ : ByteArray)), (0), Z14, Z14, H', ⟨Nat.le_refl _⟩, ⟨Z3⟩⟩
  case round =>
   clear H'
   try clear p2
   try clear c3
   obtain ⟨cI, br, rfl, rfl, HA, HK1, HB⟩ := hrel
   cases gk with
   | zero => exact absurd HA.out (by simp [roadbookref13_Put.l0])
   | succ k1 =>
    have H := HA.out
    clear HA
    simp only [roadbookref13_Put.l0] at H
    by_cases c4 : br < (l0.length : Int)
    ·rw [if_pos c4] at H
     have cS : decide (br < (l0.length : Int)) = true := decide_eq_true c4
     clear c4
     by_cases c5 : 0 ≤ br
     ·rw [if_pos c5] at H
      have hm : decide (0 ≤ br) = true := decide_eq_true c5
      clear c5
      obtain ⟨iY, hy104⟩ : ∃ y_ : List Int, y_ = (([((rd_T48 l0 br).f0) % 256, ((((rd_T48 l0 br).f1).size : Int)) % 256] : List Int)) := ⟨_, rfl⟩
      replace H : (if cI.size + (strOfNums iY).size ≤ 9223372036854775807 then (if (cI ++ (strOfNums iY)).size + ((rd_T48 l0 br).f1).size ≤ 9223372036854775807 then (roadbookref13_Put.l0 k1 l0 ((cI ++ (strOfNums iY)) ++ ((rd_T48 l0 br).f1)) (wrap64 (br + 1))) else (none)) else (none)) = some (r1, r2) := by first | (rw [hy104]; with_reducible exact H) | (have H2_ := (Option.bind_some _ _).symm.trans H; rw [hy104]; with_reducible exact H2_) | (have H2_ := (Option.bind_some _ _).symm.trans H; with_reducible exact H2_) | with_reducible exact H | (rw [hy104]; exact H) | exact H
      have Ny104 := Aside0.mk hy104
      clear hy104
      by_cases c6 : cI.size + (strOfNums iY).size ≤ 9223372036854775807
      ·rw [if_pos c6] at H
       have gZ := eq_true c6
       have ii : decide (cI.size + (strOfNums iY).size ≤ 9223372036854775807) = true := decide_eq_true c6
       try have lM : (9223372036854775807 < cI.size + (strOfNums iY).size) = False := eq_false (Nat.not_lt.2 c6)
       try (have lN := lM; simp only [ByteArray.size_append] at lN)
       by_cases c7 : (cI ++ (strOfNums iY)).size + ((rd_T48 l0 br).f1).size ≤ 9223372036854775807
       ·rw [if_pos c7] at H
        have ib := eq_true c7
        have lL : decide ((cI ++ (strOfNums iY)).size + ((rd_T48 l0 br).f1).size ≤ 9223372036854775807) = true := decide_eq_true c7
        try have pn : (9223372036854775807 < (cI ++ (strOfNums iY)).size + ((rd_T48 l0 br).f1).size) = False := eq_false (Nat.not_lt.2 c7)
        try (have po := pn; simp only [ByteArray.size_append] at po)
        have H' := Aside0.mk H
        clear H
        try go_wp2
        have aG := Aside0.mk (below_drew1 HB.out)
        clear HB
        have HB := aG
        clear aG
        have p102 : 0 ≤ (br : Int) := of_decide_eq_true Z10
        have q102 : br < (l0.length : Int) := of_decide_eq_true Z10
        obtain ⟨ad102, e102, hx102_0, hx102_1⟩ := at_T48 js.out br p102 q102
        have hw102_1 := hx102_1
        have hw102_0 := hx102_0
        cases e102
        replace hx102_0 := (HB.out.cell (World.block_lt_of_cell? w _ hx102_0)).trans hx102_0
        replace hx102_1 := (HB.out.cell (World.block_lt_of_cell? w _ hx102_1)).trans hx102_1
        replace p102 := eq_true p102
        replace q102 := eq_true q102
        have p103 : 0 ≤ (br : Int) := of_decide_eq_true Z10
        have q103 : br < (l0.length : Int) := of_decide_eq_true Z10
        obtain ⟨ad103, e103, hx103_0, hx103_1⟩ := at_T48 js.out br p103 q103
        have hw103_1 := hx103_1
        have hw103_0 := hx103_0
        obtain rfl : ad102 = ad103 := (by injection e103)
        replace hx103_0 := (HB.out.cell (World.block_lt_of_cell? w _ hx103_0)).trans hx103_0
        replace hx103_1 := (HB.out.cell (World.block_lt_of_cell? w _ hx103_1)).trans hx103_1
        replace p103 := eq_true p103
        replace q103 := eq_true q103
        have p107 : 0 ≤ (br : Int) := of_decide_eq_true Z10
        have q107 : br < (l0.length : Int) := of_decide_eq_true Z10
        obtain ⟨ad107, e107, hx107_0, hx107_1⟩ := at_T48 js.out br p107 q107
        have hw107_1 := hx107_1
        have hw107_0 := hx107_0
        obtain rfl : ad102 = ad107 := (by injection e107)
        replace hx107_0 := (HB.out.cell (World.block_lt_of_cell? w _ hx107_0)).trans hx107_0
        replace hx107_1 := (HB.out.cell (World.block_lt_of_cell? w _ hx107_1)).trans hx107_1
        replace p107 := eq_true p107
        replace q107 := eq_true q107
        refine start_ (n := 24) (S := fun w' => w'.cell? (ad102.add ((br).toNat * 2)) = some (.int .i64 ((rd_T48 l0 br).f0)) ∧ w'.cell? ⟨(ad102.add ((br).toNat * 2)).block, (ad102.add ((br).toNat * 2)).off + 1, none⟩ = some (.string ((rd_T48 l0 br).f1)) ∧ w'.cell? (ad102.add ((br).toNat * 2)) = some (.int .i64 ((rd_T48 l0 br).f0)) ∧ w'.cell? ⟨(ad102.add ((br).toNat * 2)).block, (ad102.add ((br).toNat * 2)).off + 1, none⟩ = some (.string ((rd_T48 l0 br).f1)) ∧ w'.cell? (ad102.add ((br).toNat * 2)) = some (.int .i64 ((rd_T48 l0 br).f0)) ∧ w'.cell? ⟨(ad102.add ((br).toNat * 2)).block, (ad102.add ((br).toNat * 2)).off + 1, none⟩ = some (.string ((rd_T48 l0 br).f1))) (ds := []) #[false, false, false, false, false, false, false, false, false, false, false, false, false, false, false, false, false, false, false, false, false, false, false, false] Z6 rfl rfl ⟨((HB.out.cell (World.block_lt_of_cell? w _ hw102_0)).trans hw102_0), ((HB.out.cell (World.block_lt_of_cell? w _ hw102_1)).trans hw102_1), ((HB.out.cell (World.block_lt_of_cell? w _ hw103_0)).trans hw103_0), ((HB.out.cell (World.block_lt_of_cell? w _ hw103_1)).trans hw103_1), ((HB.out.cell (World.block_lt_of_cell? w _ hw107_0)).trans hw107_0), ((HB.out.cell (World.block_lt_of_cell? w _ hw107_1)).trans hw107_1)⟩ (fun hHeld => ?_); refine with_tabW roadbookref13_Put.tab7 roadbookref13_Put.bits7 (fun HT_ HW_ => ?_)
        generalize wr.drew = w8 at HB hx102_0 hx102_1 hx103_0 hx103_1 hx107_0 hx107_1 hHeld ⊢
        refine pure_ (i := 0) (N := some 15) (v := ?_) (a' := ?_) #[true, false, false, false, false, false, false, false, false, false, false, false, false, false, false, false, false, false, false, false, false, false, false, false] rfl rfl (any_of HT_.out Z6) (fun _ _ _ h => h) (Or.inl ⟨Z13, ?_⟩) ?_ ?_
        rotate_left
        ·intro w'
         go_simp
         with_reducible rfl
        rotate_left
        ·simp only [Act.put, List.setIfInBounds_toArray, List.set_cons_zero, List.set_cons_succ, i64_w, i32_w]
         rfl
        refine pure_ (i := 1) (N := some 16) (v := ?_) (a' := ?_) #[true, true, false, false, false, false, false, false, false, false, false, false, false, false, false, false, false, false, false, false, false, false, false, false] rfl rfl (any_of HT_.out Z6) (fun _ _ _ h => h) (Or.inl ⟨Z13, ?_⟩) ?_ ?_
        rotate_left
        ·intro w'
         go_simp
         with_reducible rfl
        rotate_left
        ·simp only [Act.put, List.setIfInBounds_toArray, List.set_cons_zero, List.set_cons_succ, i64_w, i32_w]
         rfl
        refine pure_ (i := 2) (N := some 17) (v := ?_) (a' := ?_) #[true, true, true, false, false, false, false, false, false, false, false, false, false, false, false, false, false, false, false, false, false, false, false, false] rfl rfl (any_of HT_.out Z6) (fun _ _ _ h => h) (Or.inl ⟨Z13, ?_⟩) ?_ ?_
        rotate_left
        ·intro w'
         go_simp
         with_reducible rfl
        rotate_left
        ·simp only [Act.put, List.setIfInBounds_toArray, List.set_cons_zero, List.set_cons_succ, i64_w, i32_w]
         rfl
        refine pure_ (i := 3) (N := some 18) (v := ?_) (a' := ?_) #[true, true, true, true, false, false, false, false, false, false, false, false, false, false, false, false, false, false, false, false, false, false, false, false] rfl rfl (any_of HT_.out Z6) (fun _ _ _ h => h) (Or.inl ⟨Z13, ?_⟩) ?_ ?_
        rotate_left
        ·intro w'
         go_simp
         with_reducible rfl
        rotate_left
        ·simp only [Act.put, List.setIfInBounds_toArray, List.set_cons_zero, List.set_cons_succ, i64_w, i32_w]
         rfl
        refine pure_ (i := 4) (N := some 19) (v := ?_) (a' := ?_) #[true, true, true, true, true, false, false, false, false, false, false, false, false, false, false, false, false, false, false, false, false, false, false, false] rfl rfl (any_of HT_.out Z6) (fun _ _ _ h => h) (Or.inl ⟨Z13, ?_⟩) ?_ ?_
        rotate_left
        ·intro w'
         go_simp
         with_reducible rfl
        rotate_left
        ·simp only [Act.put, List.setIfInBounds_toArray, List.set_cons_zero, List.set_cons_succ, i64_w, i32_w]
         rfl
        refine pure_ (i := 7) (N := some 22) (v := ?_) (a' := ?_) #[true, true, true, true, true, false, false, true, false, false, false, false, false, false, false, false, false, false, false, false, false, false, false, false] rfl rfl (any_of HT_.out Z6) (fun _ _ _ h => h) (Or.inl ⟨Z13, ?_⟩) ?_ ?_
        rotate_left
        ·intro w'
         go_simp
         with_reducible rfl
        rotate_left
        ·simp only [Act.put, List.setIfInBounds_toArray, List.set_cons_zero, List.set_cons_succ, i64_w, i32_w]
         rfl
        refine pure_ (i := 8) (N := some 23) (v := ?_) (a' := ?_) #[true, true, true, true, true, false, false, true, true, false, false, false, false, false, false, false, false, false, false, false, false, false, false, false] rfl rfl (any_of HT_.out Z6) (fun _ _ _ h => h) (Or.inl ⟨Z13, ?_⟩) ?_ ?_
        rotate_left
        ·intro w'
         go_simp
         with_reducible rfl
        rotate_left
        ·simp only [Act.put, List.setIfInBounds_toArray, List.set_cons_zero, List.set_cons_succ, i64_w, i32_w]
         rfl
        refine pure_ (i := 9) (N := some 24) (v := ?_) (a' := ?_) #[true, true, true, true, true, false, false, true, true, true, false, false, false, false, false, false, false, false, false, false, false, false, false, false] rfl rfl (any_of HT_.out Z6) (fun _ _ _ h => h) (Or.inl ⟨Z13, ?_⟩) ?_ ?_
        rotate_left
        ·intro w'
         go_simp
         with_reducible rfl
        rotate_left
        ·simp only [Act.put, List.setIfInBounds_toArray, List.set_cons_zero, List.set_cons_succ, i64_w, i32_w]
         rfl
        refine pure_ (i := 10) (N := some 25) (v := ?_) (a' := ?_) #[true, true, true, true, true, false, false, true, true, true, true, false, false, false, false, false, false, false, false, false, false, false, false, false] rfl rfl (any_of HT_.out Z6) (fun _ _ _ h => h) (Or.inl ⟨Z13, ?_⟩) ?_ ?_
        rotate_left
        ·intro w'
         go_simp
         with_reducible rfl
        rotate_left
        ·simp only [Act.put, List.setIfInBounds_toArray, List.set_cons_zero, List.set_cons_succ, i64_w, i32_w]
         rfl
        refine pure_ (i := 17) (N := some 32) (v := ?_) (a' := ?_) #[true, true, true, true, true, false, false, true, true, true, true, false, false, false, false, false, false, true, false, false, false, false, false, false] rfl rfl (any_of HT_.out Z6) (fun _ _ _ h => h) (Or.inl ⟨Z13, ?_⟩) ?_ ?_
        rotate_left
        ·intro w'
         go_simp
         with_reducible rfl
        rotate_left
        ·simp only [Act.put, List.setIfInBounds_toArray, List.set_cons_zero, List.set_cons_succ, i64_w, i32_w]
         rfl
        refine pure_ (i := 18) (N := some 33) (v := ?_) (a' := ?_) #[true, true, true, true, true, false, false, true, true, true, true, false, false, false, false, false, false, true, true, false, false, false, false, false] rfl rfl (any_of HT_.out Z6) (fun _ _ _ h => h) (Or.inl ⟨Z13, ?_⟩) ?_ ?_
        rotate_left
        ·intro w'
         go_simp
         with_reducible rfl
        rotate_left
        ·simp only [Act.put, List.setIfInBounds_toArray, List.set_cons_zero, List.set_cons_succ, i64_w, i32_w]
         rfl
        refine pure_ (i := 19) (N := some 34) (v := ?_) (a' := ?_) #[true, true, true, true, true, false, false, true, true, true, true, false, false, false, false, false, false, true, true, true, false, false, false, false] rfl rfl (any_of HT_.out Z6) (fun _ _ _ h => h) (Or.inl ⟨Z13, ?_⟩) ?_ ?_
        rotate_left
        ·intro w'
         go_simp
         with_reducible rfl
        rotate_left
        ·simp only [Act.put, List.setIfInBounds_toArray, List.set_cons_zero, List.set_cons_succ, i64_w, i32_w]
         rfl
        refine pure_ (i := 20) (N := some 35) (v := ?_) (a' := ?_) #[true, true, true, true, true, false, false, true, true, true, true, false, false, false, false, false, false, true, true, true, true, false, false, false] rfl rfl (any_of HT_.out Z6) (fun _ _ _ h => h) (Or.inl ⟨Z13, ?_⟩) ?_ ?_
        rotate_left
        ·intro w'
         go_simp
         with_reducible rfl
        rotate_left
        ·simp only [Act.put, List.setIfInBounds_toArray, List.set_cons_zero, List.set_cons_succ, i64_w, i32_w]
         rfl
        refine take_ (i := 5) (N := some 20) (v := ?_) (a' := ?_) #[true, true, true, true, true, true, false, true, true, true, true, false, false, false, false, false, false, true, true, true, true, false, false, false] rfl rfl (take_ofW HT_.out HW_.out Z6) (fun _ _ _ h => h) (Or.inl ⟨Z13, ?_⟩) hHeld ?_ ?_
        rotate_left
        ·rintro w' ⟨s0, s1, s2, s3, s4, s5⟩
         go_simp
         with_reducible rfl
        rotate_left
        ·simp only [Act.put, List.setIfInBounds_toArray, List.set_cons_zero, List.set_cons_succ, i64_w, i32_w]
         rfl
        refine pure_ (i := 6) (N := some 21) (v := ?_) (a' := ?_) #[true, true, true, true, true, true, true, true, true, true, true, false, false, false, false, false, false, true, true, true, true, false, false, false] rfl rfl (any_of HT_.out Z6) (fun _ _ _ h => h) (Or.inl ⟨Z13, ?_⟩) ?_ ?_
        rotate_left
        ·intro w'
         go_simp
         with_reducible rfl
        rotate_left
        ·simp only [Act.put, List.setIfInBounds_toArray, List.set_cons_zero, List.set_cons_succ, i64_w, i32_w]
         rfl
        refine take_ (i := 11) (N := some 26) (v := ?_) (a' := ?_) #[true, true, true, true, true, true, true, true, true, true, true, true, false, false, false, false, false, true, true, true, true, false, false, false] rfl rfl (take_ofW HT_.out HW_.out Z6) (fun _ _ _ h => h) (Or.inl ⟨Z13, ?_⟩) hHeld ?_ ?_
        rotate_left
        ·rintro w' ⟨s0, s1, s2, s3, s4, s5⟩
         go_simp
         with_reducible rfl
        rotate_left
        ·simp only [Act.put, List.setIfInBounds_toArray, List.set_cons_zero, List.set_cons_succ, i64_w, i32_w]
         rfl
        refine pure_ (i := 12) (N := some 27) (v := ?_) (a' := ?_) #[true, true, true, true, true, true, true, true, true, true, true, true, true, false, false, false, false, true, true, true, true, false, false, false] rfl rfl (any_of HT_.out Z6) (fun _ _ _ h => h) (Or.inl ⟨Z13, ?_⟩) ?_ ?_
        rotate_left
        ·intro w'
         go_simp
         with_reducible rfl
        rotate_left
        ·simp only [Act.put, List.setIfInBounds_toArray, List.set_cons_zero, List.set_cons_succ, i64_w, i32_w]
         rfl
        refine pure_ (i := 13) (N := some 28) (v := ?_) (a' := ?_) #[true, true, true, true, true, true, true, true, true, true, true, true, true, true, false, false, false, true, true, true, true, false, false, false] rfl rfl (any_of HT_.out Z6) (fun _ _ _ h => h) (Or.inl ⟨Z13, ?_⟩) ?_ ?_
        rotate_left
        ·intro w'
         go_simp
         with_reducible rfl
        rotate_left
        ·simp only [Act.put, List.setIfInBounds_toArray, List.set_cons_zero, List.set_cons_succ, i64_w, i32_w]
         rfl
        refine take_ (i := 21) (N := some 36) (v := ?_) (a' := ?_) #[true, true, true, true, true, true, true, true, true, true, true, true, true, true, false, false, false, true, true, true, true, true, false, false] rfl rfl (take_ofW HT_.out HW_.out Z6) (fun _ _ _ h => h) (Or.inl ⟨Z13, ?_⟩) hHeld ?_ ?_
        rotate_left
        ·rintro w' ⟨s0, s1, s2, s3, s4, s5⟩
         go_simp
         with_reducible rfl
        rotate_left
        ·simp only [Act.put, List.setIfInBounds_toArray, List.set_cons_zero, List.set_cons_succ, i64_w, i32_w]
         rfl
        refine one_ (i := 14) (N := some 29) #[true, true, true, true, true, true, true, true, true, true, true, true, true, true, true, false, false, true, true, true, true, true, false, false] rfl rfl (one_of HT_.out Z6) Z32 (fun K hK => ?_)
        refine Kd.R_lit_step (Kd.int .u8) _ 5 ?hg (N := 29) ?hd (xs := ([((rd_T48 l0 br).f0) % 256, ((((rd_T48 l0 br).f1).size : Int)) % 256] : List Int)) (inner := [.int .u8 (((rd_T48 l0 br).f0) % 256), .int .u8 (((((rd_T48 l0 br).f1).size : Int)) % 256)]) (ok := fun _ => True) (okp := fun _ => True) ?hr ?hp (fun _ hk => hk) trivial (Below.refl _ _) (Nat.le_refl _) Z73 ?_; (case hd => rfl); (case hg => rfl); (case hr => first | (go_simp; done) | (go_simp; rfl)); (case hp => exact (Reps.one (show Kd.M (Kd.int .u8) _ _ _ (((rd_T48 l0 br).f0) % 256) [.int .u8 (((rd_T48 l0 br).f0) % 256)] from rfl) (Reps.one (show Kd.M (Kd.int .u8) _ _ _ (((((rd_T48 l0 br).f1).size : Int)) % 256) [.int .u8 (((((rd_T48 l0 br).f1).size : Int)) % 256)] from rfl) (Reps.none _ _))))
        intro jM w9 ho10 hb hg_ hnew_
        clear hg_ hnew_
        (first | rw [← Ny104.out] at ho10 | (simp only [Int.reduceToNat] at ho10; rw [← Ny104.out] at ho10))
        have aG := Aside0.mk (Kd.R_lower ho10 (below_size Z3))
        have aH := Aside0.mk (below_step Z3 hb)
        clear HB
        have cn := aG
        have HB := aH
        clear aG aH
        clear hb ho10
        refine hK.out _ _ ⟨((HB.out.cell (World.block_lt_of_cell? w _ hw102_0)).trans hw102_0), ((HB.out.cell (World.block_lt_of_cell? w _ hw102_1)).trans hw102_1), ((HB.out.cell (World.block_lt_of_cell? w _ hw103_0)).trans hw103_0), ((HB.out.cell (World.block_lt_of_cell? w _ hw103_1)).trans hw103_1), ((HB.out.cell (World.block_lt_of_cell? w _ hw107_0)).trans hw107_0), ((HB.out.cell (World.block_lt_of_cell? w _ hw107_1)).trans hw107_1)⟩ (fun hHeld => ?_)
        clear hK K
        refine norm_ (a' := ?_) ?_ ?_
        rotate_left
        ·show Act.put _ (some 29) _ = _
         simp only [Act.put, List.setIfInBounds_toArray, List.set_cons_zero, List.set_cons_succ, i64_w, i32_w]
         rfl
        refine one_ (i := 15) (N := some 30) #[true, true, true, true, true, true, true, true, true, true, true, true, true, true, true, true, false, true, true, true, true, true, false, false] rfl rfl (one_of HT_.out Z6) Z32 (fun K hK => ?_)
        have hcv11 := own_string (P := Try.prog) Try.underlying51 Try.underlying5 Try.underlying9 (Kd.own_of_R cn.out)
        refine value_ (w1 := ?_) (v := ?_) Z13 rfl ?_ ?_
        rotate_left 2
        ·go_simp
         constructor
         ·rfl
         ·rfl
        clear hcv11
        refine hK.out _ _ ⟨((HB.out.cell (World.block_lt_of_cell? w _ hw102_0)).trans hw102_0), ((HB.out.cell (World.block_lt_of_cell? w _ hw102_1)).trans hw102_1), ((HB.out.cell (World.block_lt_of_cell? w _ hw103_0)).trans hw103_0), ((HB.out.cell (World.block_lt_of_cell? w _ hw103_1)).trans hw103_1), ((HB.out.cell (World.block_lt_of_cell? w _ hw107_0)).trans hw107_0), ((HB.out.cell (World.block_lt_of_cell? w _ hw107_1)).trans hw107_1)⟩ (fun hHeld => ?_)
        clear hK K
        refine norm_ (a' := ?_) ?_ ?_
        rotate_left
        ·show Act.put _ (some 30) _ = _
         simp only [Act.put, List.setIfInBounds_toArray, List.set_cons_zero, List.set_cons_succ, i64_w, i32_w]
         rfl
        refine pure_ (i := 16) (N := some 31) (v := ?_) (a' := ?_) #[true, true, true, true, true, true, true, true, true, true, true, true, true, true, true, true, true, true, true, true, true, true, false, false] rfl rfl (any_of HT_.out Z6) (fun _ _ _ h => h) (Or.inl ⟨Z13, ?_⟩) ?_ ?_
        rotate_left
        ·intro w'
         go_simp
         with_reducible rfl
        rotate_left
        ·simp only [Act.put, List.setIfInBounds_toArray, List.set_cons_zero, List.set_cons_succ, i64_w, i32_w]
         rfl
        refine pure_ (i := 22) (N := some 37) (v := ?_) (a' := ?_) #[true, true, true, true, true, true, true, true, true, true, true, true, true, true, true, true, true, true, true, true, true, true, true, false] rfl rfl (any_of HT_.out Z6) (fun _ _ _ h => h) (Or.inl ⟨Z13, ?_⟩) ?_ ?_
        rotate_left
        ·intro w'
         go_simp
         with_reducible rfl
        rotate_left
        ·simp only [Act.put, List.setIfInBounds_toArray, List.set_cons_zero, List.set_cons_succ, i64_w, i32_w]
         rfl
        refine pure_ (i := 23) (N := some 4) (v := ?_) (a' := ?_) #[true, true, true, true, true, true, true, true, true, true, true, true, true, true, true, true, true, true, true, true, true, true, true, true] rfl rfl (any_of HT_.out Z6) (fun _ _ _ h => h) (Or.inl ⟨Z13, ?_⟩) ?_ ?_
        rotate_left
        ·intro w'
         go_simp
         with_reducible rfl
        rotate_left
        ·simp only [Act.put, List.setIfInBounds_toArray, List.set_cons_zero, List.set_cons_succ, i64_w, i32_w]
         rfl
        refine done_ (done_of HT_.out Z6) ?_
        try go_wp2
        go_roundg k1
        case measure => have := HK1.out; omega
        case rel => exact ⟨((cI ++ (strOfNums iY)) ++ ((rd_T48 l0 br).f1)), (wrap64 (br + 1)), Z14, Z14, H', ⟨Z112⟩, ⟨Z3⟩⟩
       ·rw [if_neg c7] at H
        exact absurd H Z73
      ·rw [if_neg c6] at H
       exact absurd H Z73
     ·rw [if_neg c5] at H
      exact absurd H Z73
    ·rw [if_neg c4] at H
     have cS : decide (br < (l0.length : Int)) = false := decide_eq_false c4
     clear c4
     simp only [Option.some.injEq, Prod.mk.injEq] at H
     obtain ⟨rfl, rfl⟩ := H
     go_wp2
     go_ret2
     exact ⟨Z9, Z3⟩
 ·replace c3 := Bool.eq_false_iff.mpr c3
  subst c3
  have H1 : (some ((⟨#[]⟩ : ByteArray), false)) = some (r1, r2) := by rw [if_neg (show ¬ (false = true) by decide)] at H; exact H
  clear H
  have H := H1
  clear H1
  simp only [Option.some.injEq, Prod.mk.injEq] at H
  obtain ⟨rfl, rfl⟩ := H
  go_enter Try.func51, Try.ntmps51
  go_wp2_with (first | ((with_reducible refine gate_callee (f := 58) rfl ?_); refine goesL_ (some 7) rfl rfl Try.func58 Z6 rfl #[.slice A0 l0.length c0] rfl Z5 ?_; (with_reducible refine (roadbookref13_Right.calls k _ _ l0 false _ ?side1 ?side2 A2.out).mono ?_); (case side1 => exact Z85); (case side2 => exact mD.out); rintro e w' ⟨rfl, ⟨nd, rfl⟩⟩; refine ⟨_, rfl, ?_⟩))
  go_ret2
  exact ⟨Z9, Z3⟩

/-! ### roadbookref13_Get: function 63 -/
def roadbookref13_Get.l0 : Nat → ByteArray → List (S48) → Int → Option ((List (S48)) × Int × Int)
 | 0, _, _, _ => none
 | k + 1, x0, x5, x6 => if x6 < (x0.size : Int) then (if (wrap64 ((x0.size : Int) - x6)) < 2 then (some (([] : List (S48)), x6, 2)) else (if 0 ≤ (wrap64 (x6 + 1)) then (if (wrap64 (x6 + 1)) < (x0.size : Int) then (if (wrap64 ((wrap64 ((x0.size : Int) - x6)) - 2)) < (wrap64 (bt x0 (wrap64 (x6 + 1)))) then (some (([] : List (S48)), x6, 2)) else (if 0 ≤ x6 then (if 0 ≤ (wrap64 (x6 + 2)) then (if (wrap64 (x6 + 2)) ≤ (wrap64 ((wrap64 (x6 + 2)) + (wrap64 (bt x0 (wrap64 (x6 + 1)))))) then (if (wrap64 ((wrap64 (x6 + 2)) + (wrap64 (bt x0 (wrap64 (x6 + 1)))))) ≤ (x0.size : Int) then (if x5.length < 5864062014805 then (roadbookref13_Get.l0 k x0 (x5 ++ [(⟨wrap64 (bt x0 x6), x0.extract ((wrap64 (x6 + 2)) : Int).toNat ((wrap64 ((wrap64 (x6 + 2)) + (wrap64 (bt x0 (wrap64 (x6 + 1)))))) : Int).toNat⟩ : S48)]) (wrap64 ((wrap64 (x6 + 2)) + (wrap64 (bt x0 (wrap64 (x6 + 1))))))) else (none)) else (none)) else (none)) else (none)) else (none))) else (none)) else (none))) else (some (x5, 0, 0))
def roadbookref13_Get.f (k : Nat) (a0 : ByteArray) : Option ((List (S48)) × Int × Int) := roadbookref13_Get.l0 k a0 ([] : List (S48)) 0
theorem roadbookref13_Get.mono_l : ∀ k, (∀ y0 y1 y2, LeO (roadbookref13_Get.l0 k y0 y1 y2) (roadbookref13_Get.l0 (k + 1) y0 y1 y2))
 | 0 => fun _ _ _ r h => by simp [roadbookref13_Get.l0] at h
 | k + 1 => by
  have ih0 := roadbookref13_Get.mono_l k
  ·intro y0 y1 y2
   unfold roadbookref13_Get.l0
   repeat' first
   | (with_reducible exact ih0 ..)
   | (with_reducible exact LeO.refl _)
   | (with_reducible exact LeO.none _)
   | (with_reducible refine LeO.ite ?_ ?_)
   | (with_reducible refine LeO.bind ?_ (fun _ => ?_))
   | exact ih0 ..
   | exact LeO.none _
   | refine LeO.ite ?_ ?_
   | refine LeO.bind ?_ (fun _ => ?_)
theorem roadbookref13_Get.mono : ∀ a0 k, LeO (roadbookref13_Get.f k a0) (roadbookref13_Get.f (k + 1) a0) := by
 intro a0 k
 have ih0 := roadbookref13_Get.mono_l k
 unfold roadbookref13_Get.f
 repeat' first
   | (with_reducible exact ih0 ..)
   | (with_reducible exact LeO.refl _)
   | (with_reducible exact LeO.none _)
   | (with_reducible refine LeO.ite ?_ ?_)
   | (with_reducible refine LeO.bind ?_ (fun _ => ?_))
   | exact ih0 ..
   | exact LeO.none _
   | refine LeO.ite ?_ ?_
   | refine LeO.bind ?_ (fun _ => ?_)
def roadbookref13_Get.T7 : Bool × List (List Nat × List Nat) := (true, [([], []), ([], []), ([], []), ([1, 2], [1, 2]), ([3], [3]), ([], []), ([], []), ([6], [6]), ([], []), ([8], [8]), ([], []), ([9, 10], [9, 10]), ([5, 7, 11], [5, 7, 11]), ([4, 12], [4, 12]), ([13], [13]), ([0, 14], [0, 14]), ([15, 15, 0, 1, 2, 3, 4, 5, 6, 7, 8, 9, 10, 11, 12, 13, 14, 15], [0, 15])])
def roadbookref13_Get.B7 : List Nat := [0, 0, 0, 6, 14, 0, 0, 64, 0, 256, 0, 1792, 4064, 8190, 16382, 32767, 65535]
theorem roadbookref13_Get.tab7 : rtab .any (opsOf Try.f63 7) = roadbookref13_Get.T7 := by kernel_rfl
theorem roadbookref13_Get.bits7 : waitsOk roadbookref13_Get.T7.2 roadbookref13_Get.B7 = true := by kernel_rfl
set_option maxHeartbeats 8000000 in
set_option maxRecDepth 100000 in
theorem roadbookref13_Get.calls (k : Nat) (a0 : ByteArray) (r1 : List (S48)) (r2 : Int) (r3 : Int) (w : World) (h : roadbookref13_Get.f k a0 = some (r1, r2, r3)) :
  Calls Try.prog 63 #[.string a0] w fun e w' => ∃ v0_ : Value, e = .returned (.tuple #[v0_, .int .i64 r2, .int .i64 r3]) ∧ Kd.R k48 48 w' w.heap.size (fun _ => True) v0_ r1 ∧ Below w.heap.size w w' := by
 have pj := Try.underlying48
 have HB := Aside0.mk (Below.refl w.heap.size w)
 have H : (roadbookref13_Get.l0 k a0 ([] : List (S48)) 0) = some (r1, r2, r3) := h
 clear h
 have H' := Aside0.mk H
 clear H
 go_enter Try.func63, Try.ntmps63
 go_wp2
 go_loopg [5, 6] k (fun kq v5 v6 w' => ∃ (br : List (S48)) (ea : Int), v6 = .int .i64 ea ∧ Aside0 (roadbookref13_Get.l0 kq a0 br ea = some (r1, r2, r3)) ∧ Aside0 (kq ≤ k) ∧ Aside0 (Kd.R k48 48 w' w.heap.size (fun _ => True) v5 br) ∧ Aside0 (Below w.heap.size w w'))
 case atStart => exact ⟨(([] : List (S48))), (0), Z14, H', ⟨Nat.le_refl _⟩, ⟨Z12⟩, ⟨Z3⟩⟩
 case round =>
  clear H'
  obtain ⟨br, ea, rfl, HA, HK1, HO_5, HB⟩ := hrel
  cases gk with
  | zero => exact absurd HA.out (by simp [roadbookref13_Get.l0])
  | succ k1 =>
   have H := HA.out
   clear HA
   simp only [roadbookref13_Get.l0] at H
   by_cases c2 : ea < (a0.size : Int)
   ·rw [if_pos c2] at H
    have iq : decide (ea < (a0.size : Int)) = true := decide_eq_true c2
    clear c2
    by_cases c3 : (wrap64 ((a0.size : Int) - ea)) < 2
    ·rw [if_pos c3] at H
     have gw : decide ((wrap64 ((a0.size : Int) - ea)) < 2) = true := decide_eq_true c3
     clear c3
     simp only [Option.some.injEq, Prod.mk.injEq] at H
     obtain ⟨rfl, rfl, rfl⟩ := H
     go_wp2
     go_ret3
     exact ⟨_, Z9, Z12, Z3⟩
    ·rw [if_neg c3] at H
     have gw : decide ((wrap64 ((a0.size : Int) - ea)) < 2) = false := decide_eq_false c3
     clear c3
     obtain ⟨ji4, hji4⟩ : ∃ j_ : Int, (wrap64 (ea + 1)) = j_ := ⟨_, rfl⟩
     replace H : (if 0 ≤ (ji4) then (if (ji4) < (a0.size : Int) then (if (wrap64 ((wrap64 ((a0.size : Int) - ea)) - 2)) < (wrap64 (bt a0 (ji4))) then (some (([] : List (S48)), ea, 2)) else (if 0 ≤ ea then (if 0 ≤ (wrap64 (ea + 2)) then (if (wrap64 (ea + 2)) ≤ (wrap64 ((wrap64 (ea + 2)) + (wrap64 (bt a0 (ji4))))) then (if (wrap64 ((wrap64 (ea + 2)) + (wrap64 (bt a0 (ji4))))) ≤ (a0.size : Int) then (if br.length < 5864062014805 then (roadbookref13_Get.l0 k1 a0 (br ++ [(⟨wrap64 (bt a0 ea), a0.extract ((wrap64 (ea + 2)) : Int).toNat ((wrap64 ((wrap64 (ea + 2)) + (wrap64 (bt a0 (ji4))))) : Int).toNat⟩ : S48)]) (wrap64 ((wrap64 (ea + 2)) + (wrap64 (bt a0 (ji4)))))) else (none)) else (none)) else (none)) else (none)) else (none))) else (none)) else (none)) = some (r1, r2, r3) := by first | (rw [hji4] at H; exact H) | (simp only [hji4] at H ⊢; exact H)
     have hji4w : (IntKind.i64.wrap (ea + 1)) = ji4 := (i64_w _).trans hji4
     by_cases c5 : 0 ≤ (ji4)
     ·rw [if_pos c5] at H
      have hm : decide (0 ≤ (ji4)) = true := decide_eq_true c5
      clear c5
      by_cases c6 : (ji4) < (a0.size : Int)
      ·rw [if_pos c6] at H
       have gZ : decide ((ji4) < (a0.size : Int)) = true := decide_eq_true c6
       clear c6
       by_cases c8 : (wrap64 ((wrap64 ((a0.size : Int) - ea)) - 2)) < (wrap64 (bt a0 (ji4)))
       ·rw [if_pos c8] at H
        have iG : decide ((wrap64 ((wrap64 ((a0.size : Int) - ea)) - 2)) < (wrap64 (bt a0 (ji4)))) = true := decide_eq_true c8
        clear c8
        simp only [Option.some.injEq, Prod.mk.injEq] at H
        obtain ⟨rfl, rfl, rfl⟩ := H
        have p7 : 0 ≤ ((ji4) : Int) := of_decide_eq_true Z10
        have q7 : (ji4) < (a0.size : Int) := of_decide_eq_true Z10
        have hx7 := bt_at a0 (ji4)
        replace p7 := eq_true p7
        replace q7 := eq_true q7
        go_wp2
        go_ret3
        exact ⟨_, by first | rfl | (simp [errW_none, errW_some] <;> rfl) | (simp only [← hji4]; first | rfl | (simp [errW_none, errW_some] <;> rfl)) | (simp [*, errW_none, errW_some] <;> rfl), Z12, Z3⟩
       ·rw [if_neg c8] at H
        have iG : decide ((wrap64 ((wrap64 ((a0.size : Int) - ea)) - 2)) < (wrap64 (bt a0 (ji4)))) = false := decide_eq_false c8
        clear c8
        by_cases cX : 0 ≤ ea
        ·rw [if_pos cX] at H
         have ff : decide (0 ≤ ea) = true := decide_eq_true cX
         clear cX
         obtain ⟨ji12, hji12⟩ : ∃ j_ : Int, (wrap64 (ea + 2)) = j_ := ⟨_, rfl⟩
         replace H : (if 0 ≤ (ji12) then (if (ji12) ≤ (wrap64 ((ji12) + (wrap64 (bt a0 (ji4))))) then (if (wrap64 ((ji12) + (wrap64 (bt a0 (ji4))))) ≤ (a0.size : Int) then (if br.length < 5864062014805 then (roadbookref13_Get.l0 k1 a0 (br ++ [(⟨wrap64 (bt a0 ea), a0.extract ((ji12) : Int).toNat ((wrap64 ((ji12) + (wrap64 (bt a0 (ji4))))) : Int).toNat⟩ : S48)]) (wrap64 ((ji12) + (wrap64 (bt a0 (ji4)))))) else (none)) else (none)) else (none)) else (none)) = some (r1, r2, r3) := by first | (rw [hji12] at H; exact H) | (simp only [hji12] at H ⊢; exact H)
         have hji12w : (IntKind.i64.wrap (ea + 2)) = ji12 := (i64_w _).trans hji12
         by_cases dB : 0 ≤ (ji12)
         ·rw [if_pos dB] at H
          have gF := eq_true dB
          have ie : decide (0 ≤ (ji12)) = true := decide_eq_true dB
          clear dB
          by_cases gW : (ji12) ≤ (wrap64 ((ji12) + (wrap64 (bt a0 (ji4)))))
          ·rw [if_pos gW] at H
           have ko := eq_true gW
           have kp : decide ((ji12) ≤ (wrap64 ((ji12) + (wrap64 (bt a0 (ji4)))))) = true := decide_eq_true gW
           by_cases fd : (wrap64 ((ji12) + (wrap64 (bt a0 (ji4))))) ≤ (a0.size : Int)
           ·rw [if_pos fd] at H
            have ix := eq_true fd
            have iZ : decide ((wrap64 ((ji12) + (wrap64 (bt a0 (ji4))))) ≤ (a0.size : Int)) = true := decide_eq_true fd
            by_cases ej : br.length < 5864062014805
            ·rw [if_pos ej] at H
             have LMc16 := Aside0.mk ej
             clear ej
             obtain ⟨un, hy101⟩ : ∃ y_ : List (S48), y_ = (br ++ [(⟨wrap64 (bt a0 ea), a0.extract ((ji12) : Int).toNat ((wrap64 ((ji12) + (wrap64 (bt a0 (ji4))))) : Int).toNat⟩ : S48)]) := ⟨_, rfl⟩
             replace H : (roadbookref13_Get.l0 k1 a0 un (wrap64 ((ji12) + (wrap64 (bt a0 (ji4)))))) = some (r1, r2, r3) := by first | (rw [hy101]; with_reducible exact H) | (have H2_ := (Option.bind_some _ _).symm.trans H; rw [hy101]; with_reducible exact H2_) | (have H2_ := (Option.bind_some _ _).symm.trans H; with_reducible exact H2_) | with_reducible exact H | (rw [hy101]; exact H) | exact H
             have Ny101 := Aside0.mk hy101
             clear hy101
             have H' := Aside0.mk H
             clear H
             have p7 : 0 ≤ ((ji4) : Int) := of_decide_eq_true Z10
             have q7 : (ji4) < (a0.size : Int) := of_decide_eq_true Z10
             have hx7 := bt_at a0 (ji4)
             replace p7 := eq_true p7
             replace q7 := eq_true q7
             have p9 : 0 ≤ ((ji4) : Int) := of_decide_eq_true Z10
             have q9 : (ji4) < (a0.size : Int) := of_decide_eq_true Z10
             have hx9 := bt_at a0 (ji4)
             replace p9 := eq_true p9
             replace q9 := eq_true q9
             try go_wp2
             have aG := Aside0.mk (Kd.R_drew HO_5.out)
             have aH := Aside0.mk (below_drew1 HB.out)
             clear HO_5
             clear HB
             have HO_5 := aG
             have HB := aH
             clear aG aH
             have p11 : 0 ≤ (ea : Int) := of_decide_eq_true Z10
             have q11 : ea < (a0.size : Int) := of_decide_eq_true Z10
             have hx11 := bt_at a0 ea
             replace p11 := eq_true p11
             replace q11 := eq_true q11
             refine start_ (n := 17) (S := fun w' => True) (ds := []) #[false, false, false, false, false, false, false, false, false, false, false, false, false, false, false, false, false] Z6 rfl rfl trivial (fun hHeld => ?_); refine with_tabW roadbookref13_Get.tab7 roadbookref13_Get.bits7 (fun HT_ HW_ => ?_)
             generalize wr.drew = kz at HO_5 HB hHeld ⊢
             refine pure_ (i := 0) (N := some 36) (v := ?_) (a' := ?_) #[true, false, false, false, false, false, false, false, false, false, false, false, false, false, false, false, false] rfl rfl (any_of HT_.out Z6) (fun _ _ _ h => h) (Or.inl ⟨Z13, ?_⟩) ?_ ?_
             rotate_left
             ·intro w'
              go_simp
              with_reducible rfl
             rotate_left
             ·simp only [Act.put, List.setIfInBounds_toArray, List.set_cons_zero, List.set_cons_succ, i64_w, i32_w]
              rfl
             refine pure_ (i := 1) (N := some 37) (v := ?_) (a' := ?_) #[true, true, false, false, false, false, false, false, false, false, false, false, false, false, false, false, false] rfl rfl (any_of HT_.out Z6) (fun _ _ _ h => h) (Or.inl ⟨Z13, ?_⟩) ?_ ?_
             rotate_left
             ·intro w'
              go_simp
              with_reducible rfl
             rotate_left
             ·simp only [Act.put, List.setIfInBounds_toArray, List.set_cons_zero, List.set_cons_succ, i64_w, i32_w]
              rfl
             refine pure_ (i := 2) (N := some 38) (v := ?_) (a' := ?_) #[true, true, true, false, false, false, false, false, false, false, false, false, false, false, false, false, false] rfl rfl (any_of HT_.out Z6) (fun _ _ _ h => h) (Or.inl ⟨Z13, ?_⟩) ?_ ?_
             rotate_left
             ·intro w'
              go_simp
              with_reducible rfl
             rotate_left
             ·simp only [Act.put, List.setIfInBounds_toArray, List.set_cons_zero, List.set_cons_succ, i64_w, i32_w]
              rfl
             refine pure_ (i := 5) (N := some 41) (v := ?_) (a' := ?_) #[true, true, true, false, false, true, false, false, false, false, false, false, false, false, false, false, false] rfl rfl (any_of HT_.out Z6) (fun _ _ _ h => h) (Or.inl ⟨Z13, ?_⟩) ?_ ?_
             rotate_left
             ·intro w'
              go_simp
              with_reducible rfl
             rotate_left
             ·simp only [Act.put, List.setIfInBounds_toArray, List.set_cons_zero, List.set_cons_succ, i64_w, i32_w]
              rfl
             refine pure_ (i := 6) (N := some 42) (v := ?_) (a' := ?_) #[true, true, true, false, false, true, true, false, false, false, false, false, false, false, false, false, false] rfl rfl (any_of HT_.out Z6) (fun _ _ _ h => h) (Or.inl ⟨Z13, ?_⟩) ?_ ?_
             rotate_left
             ·intro w'
              go_simp
              with_reducible rfl
             rotate_left
             ·simp only [Act.put, List.setIfInBounds_toArray, List.set_cons_zero, List.set_cons_succ, i64_w, i32_w]
              rfl
             refine pure_ (i := 7) (N := some 43) (v := ?_) (a' := ?_) #[true, true, true, false, false, true, true, true, false, false, false, false, false, false, false, false, false] rfl rfl (any_of HT_.out Z6) (fun _ _ _ h => h) (Or.inl ⟨Z13, ?_⟩) ?_ ?_
             rotate_left
             ·intro w'
              go_simp
              with_reducible rfl
             rotate_left
             ·simp only [Act.put, List.setIfInBounds_toArray, List.set_cons_zero, List.set_cons_succ, i64_w, i32_w]
              rfl
             refine pure_ (i := 8) (N := some 44) (v := ?_) (a' := ?_) #[true, true, true, false, false, true, true, true, true, false, false, false, false, false, false, false, false] rfl rfl (any_of HT_.out Z6) (fun _ _ _ h => h) (Or.inl ⟨Z13, ?_⟩) ?_ ?_
             rotate_left
             ·intro w'
              go_simp
              with_reducible rfl
             rotate_left
             ·simp only [Act.put, List.setIfInBounds_toArray, List.set_cons_zero, List.set_cons_succ, i64_w, i32_w]
              rfl
             refine pure_ (i := 9) (N := some 45) (v := ?_) (a' := ?_) #[true, true, true, false, false, true, true, true, true, true, false, false, false, false, false, false, false] rfl rfl (any_of HT_.out Z6) (fun _ _ _ h => h) (Or.inl ⟨Z13, ?_⟩) ?_ ?_
             rotate_left
             ·intro w'
              go_simp
              with_reducible rfl
             rotate_left
             ·simp only [Act.put, List.setIfInBounds_toArray, List.set_cons_zero, List.set_cons_succ, i64_w, i32_w]
              rfl
             refine pure_ (i := 10) (N := some 46) (v := ?_) (a' := ?_) #[true, true, true, false, false, true, true, true, true, true, true, false, false, false, false, false, false] rfl rfl (any_of HT_.out Z6) (fun _ _ _ h => h) (Or.inl ⟨Z13, ?_⟩) ?_ ?_
             rotate_left
             ·intro w'
              go_simp
              with_reducible rfl
             rotate_left
             ·simp only [Act.put, List.setIfInBounds_toArray, List.set_cons_zero, List.set_cons_succ, i64_w, i32_w]
              rfl
             refine pure_ (i := 11) (N := some 47) (v := ?_) (a' := ?_) #[true, true, true, false, false, true, true, true, true, true, true, true, false, false, false, false, false] rfl rfl (any_of HT_.out Z6) (fun _ _ _ h => h) (Or.inl ⟨Z13, ?_⟩) ?_ ?_
             rotate_left
             ·intro w'
              go_simp
              with_reducible rfl
             rotate_left
             ·simp only [Act.put, List.setIfInBounds_toArray, List.set_cons_zero, List.set_cons_succ, i64_w, i32_w]
              rfl
             refine pure_ (i := 12) (N := some 48) (v := ?_) (a' := ?_) #[true, true, true, false, false, true, true, true, true, true, true, true, true, false, false, false, false] rfl rfl (any_of HT_.out Z6) (fun _ _ _ h => h) (Or.inl ⟨Z13, ?_⟩) ?_ ?_
             rotate_left
             ·intro w'
              go_simp
              with_reducible rfl
             rotate_left
             ·simp only [Act.put, List.setIfInBounds_toArray, List.set_cons_zero, List.set_cons_succ, i64_w, i32_w]
              rfl
             refine take_ (i := 3) (N := some 39) (v := ?_) (a' := ?_) #[true, true, true, true, false, true, true, true, true, true, true, true, true, false, false, false, false] rfl rfl (take_ofW HT_.out HW_.out Z6) (fun _ _ _ h => h) (Or.inl ⟨Z13, ?_⟩) hHeld ?_ ?_
             rotate_left
             ·intro w' _
              go_simp
              with_reducible rfl
             rotate_left
             ·simp only [Act.put, List.setIfInBounds_toArray, List.set_cons_zero, List.set_cons_succ, i64_w, i32_w]
              rfl
             refine pure_ (i := 4) (N := some 40) (v := ?_) (a' := ?_) #[true, true, true, true, true, true, true, true, true, true, true, true, true, false, false, false, false] rfl rfl (any_of HT_.out Z6) (fun _ _ _ h => h) (Or.inl ⟨Z13, ?_⟩) ?_ ?_
             rotate_left
             ·intro w'
              go_simp
              with_reducible rfl
             rotate_left
             ·simp only [Act.put, List.setIfInBounds_toArray, List.set_cons_zero, List.set_cons_succ, i64_w, i32_w]
              rfl
             refine pure_ (i := 13) (N := some 49) (v := ?_) (a' := ?_) #[true, true, true, true, true, true, true, true, true, true, true, true, true, true, false, false, false] rfl rfl (any_of HT_.out Z6) (fun _ _ _ h => h) (Or.inl ⟨Z13, ?_⟩) ?_ ?_
             rotate_left
             ·intro w'
              go_simp
              with_reducible rfl
             rotate_left
             ·simp only [Act.put, List.setIfInBounds_toArray, List.set_cons_zero, List.set_cons_succ, i64_w, i32_w]
              rfl
             refine one_ (i := 14) (N := some 50) #[true, true, true, true, true, true, true, true, true, true, true, true, true, true, true, false, false] rfl rfl (one_of HT_.out Z6) Z32 (fun K hK => ?_)
             refine value_ (w1 := ?_) (v := ?_) Z13 rfl ?_ ?_
             rotate_left 2
             ·go_simp
              constructor
              ·rfl
              ·rfl
             refine hK.out _ _ trivial (fun hHeld => ?_)
             clear hK K
             refine norm_ (a' := ?_) ?_ ?_
             rotate_left
             ·show Act.put _ (some 50) _ = _
              simp only [Act.put, List.setIfInBounds_toArray, List.set_cons_zero, List.set_cons_succ, i64_w, i32_w]
              rfl
             refine one_ (i := 15) (N := some 51) #[true, true, true, true, true, true, true, true, true, true, true, true, true, true, true, true, false] rfl rfl (one_of HT_.out Z6) Z32 (fun K hK => ?_)
             refine Kd.R_append_step k48 (w0 := w) w.heap.size Z13 (.tmp 36) (.tmp 50) 23 48 (.agg #[(.int .i64 0), (.string ⟨#[]⟩)]) 24 rfl Try.underlying23 info48 rfl Z32 Z55 u5 br (⟨wrap64 (bt a0 ea), a0.extract ((ji12) : Int).toNat ((wrap64 ((ji12) + (wrap64 (bt a0 (ji4))))) : Int).toNat⟩ : S48) [.int .i64 (wrap64 (bt a0 ea)), .string (a0.extract ((ji12) : Int).toNat ((wrap64 ((ji12) + (wrap64 (bt a0 (ji4))))) : Int).toNat)] (fun _ => True) (fun _ => False) rfl rfl ?aP (fun _ hk => hk.elim) ?aF ?aO ?aB ?aS ?aL ?_
             (case aP => exact k48_mkM _ _ _ (⟨wrap64 (bt a0 ea), a0.extract ((ji12) : Int).toNat ((wrap64 ((ji12) + (wrap64 (bt a0 (ji4))))) : Int).toNat⟩ : S48))
             (case aB => exact Z3)
             (case aF => exact (fun _ _ => trivial))
             (case aO => exact Z68)
             (case aS => exact (below_size Z3))
             (case aL => have := LMc16.out; omega)
             intro v102 kh ho hb hg hat
             rw [← Ny101.out] at ho
             have aG := Aside0.mk (hb)
             have aH := Aside0.mk (ho)
             clear HB
             clear HO_5
             have HB := aG
             have uo := aH
             clear aG aH
             clear ho hb hg hat
             refine hK.out _ _ trivial (fun hHeld => ?_)
             clear hK K
             refine norm_ (a' := ?_) ?_ ?_
             rotate_left
             ·show Act.put _ (some 51) _ = _
              simp only [Act.put, List.setIfInBounds_toArray, List.set_cons_zero, List.set_cons_succ, i64_w, i32_w]
              rfl
             refine pure_ (i := 16) (N := some 5) (v := ?_) (a' := ?_) #[true, true, true, true, true, true, true, true, true, true, true, true, true, true, true, true, true] rfl rfl (any_of HT_.out Z6) (fun _ _ _ h => h) (Or.inl ⟨Z13, ?_⟩) ?_ ?_
             rotate_left
             ·intro w'
              go_simp
              with_reducible rfl
             rotate_left
             ·simp only [Act.put, List.setIfInBounds_toArray, List.set_cons_zero, List.set_cons_succ, i64_w, i32_w]
              rfl
             refine done_ (done_of HT_.out Z6) ?_
             try go_wp2
             go_roundg k1
             case measure => have := HK1.out; omega
             case rel => exact ⟨(un), (wrap64 ((ji12) + (wrap64 (bt a0 (ji4))))), (by first | rfl | (simp; done) | (simp only [← hji4, ← hji12] <;> (first | rfl | simp)) | (simp [*]; done)), H', ⟨Z112⟩, ⟨by (with_reducible repeat (first | apply Kd.R_alloc | apply Kd.R_drewN | apply Kd.R_drew)); exact uo.out⟩, ⟨Z3⟩⟩
            ·rw [if_neg ej] at H
             exact absurd H Z73
           ·rw [if_neg fd] at H
            exact absurd H Z73
          ·rw [if_neg gW] at H
           exact absurd H Z73
         ·rw [if_neg dB] at H
          exact absurd H Z73
        ·rw [if_neg cX] at H
         exact absurd H Z73
      ·rw [if_neg c6] at H
       exact absurd H Z73
     ·rw [if_neg c5] at H
      exact absurd H Z73
   ·rw [if_neg c2] at H
    have iq : decide (ea < (a0.size : Int)) = false := decide_eq_false c2
    clear c2
    simp only [Option.some.injEq, Prod.mk.injEq] at H
    obtain ⟨rfl, rfl, rfl⟩ := H
    go_wp2
    go_ret3
    exact ⟨_, Z9, Z68, Z3⟩

end Go.Proofs.Ytccjakjjaemmkaa.PR
