-- Written by mp.py, a program of this work (wip/tools), out of the translation; Lean checks it.
import Derived.Test.YtelcciekdoccfaaPExtTellsx0
import Derived.Test.YtelcciekdoccfaaPExtTellsx3
import Derived.Test.YtelcciekdoccfaaPExtTellsx4
import Derived.Test.YtelcciekdoccfaaPExtTellsx5
import Derived.Test.YtelcciekdoccfaaPExtTellsx6
import Derived.Test.YtelcciekdoccfaaPExtTellsx7
namespace Go.Proofs.Ytelcciekdoccfaa.PExtTells
open Go.RowKit Go.Proofs.YtelcciekdoccfaaW.PrintWords Go.Proofs.YtelcciekdoccfaaW.PrintLast Go.Proofs.YtelcciekdoccfaaW.PrintMore
attribute [local go_sem] max2_int min2_int max_two min_two max_three min_three max_four min_four   -- for this text's walks alone
set_option linter.unusedVariables false
set_option linter.unusedSimpArgs false

/-! ### roadbooklaw13_ExtTells: function 13 -/
def roadbooklaw13_ExtTells.j0 : Nat → List (S63) → ByteArray → Bool → Option (Bool)
  | 0, _, _, _ => none
  | k + 1, x0, x1, x22 => if x22 = true then ((roadbooklaw13_awake.f k).bind fun t198 => (some t198)) else ((ext_Put.f k x0).bind fun bt199 => ((roadbookref13_Put.f k x0).bind fun bt201 => ((ext_Get.f k x1).bind fun bt203 => ((roadbookref13_Get.f k x1).bind fun bt208 => ((roadbooklaw13_awake.f k).bind fun t213 => (if t213 = true then ((ext_Right.f k x0).bind fun t214 => ((roadbookref13_Right.f k x0).bind fun t215 => (if (t214 == t215) = true then (if bt199.1.toList = bt201.1.toList then (if (bt199.2 == bt201.2) = true then ((roadbookref07_Same.f k 0 0 0 (⟨#[]⟩ : ByteArray) 0 0 (⟨#[]⟩ : ByteArray) 0 0 (⟨#[]⟩ : ByteArray) 0 (⟨#[]⟩ : ByteArray) 0 0 0 0 0 0 0 (⟨#[]⟩ : ByteArray) (⟨#[]⟩ : ByteArray) ([] : List (S61)) 0 (⟨#[]⟩ : ByteArray) bt203.1 0 0 0 (⟨#[]⟩ : ByteArray) 0 0 (⟨#[]⟩ : ByteArray) 0 0 (⟨#[]⟩ : ByteArray) 0 (⟨#[]⟩ : ByteArray) 0 0 0 0 0 0 0 (⟨#[]⟩ : ByteArray) (⟨#[]⟩ : ByteArray) ([] : List (S61)) 0 (⟨#[]⟩ : ByteArray) bt208.1).bind fun t216 => (if t216 = true then (if bt203.2.1 = bt208.2.1 then (some (bt203.2.2 == bt208.2.2)) else (some false)) else (some false))) else (some false)) else (some false)) else (some false)))) else (some false)))))))
def roadbooklaw13_ExtTells.f (k : Nat) (l0 : List (S63)) (a1 : ByteArray) : Option (Bool) := (roadbooklaw13_few.f k l0).bind fun t197 => (if t197 = true then (roadbooklaw13_ExtTells.j0 k l0 a1 (decide ((a1.size : Int) > 1000))) else (roadbooklaw13_ExtTells.j0 k l0 a1 true))
theorem roadbooklaw13_ExtTells.mono_l : ∀ k, (∀ y0 y1 y2, LeO (roadbooklaw13_ExtTells.j0 k y0 y1 y2) (roadbooklaw13_ExtTells.j0 (k + 1) y0 y1 y2))
  | 0 => fun _ _ _ r h => by simp [roadbooklaw13_ExtTells.j0] at h
  | k + 1 => by
    have ih0 := roadbooklaw13_ExtTells.mono_l k
    · intro y0 y1 y2
      unfold roadbooklaw13_ExtTells.j0
      repeat' first
      | (with_reducible exact ih0 _ _ _)
      | (with_reducible exact ext_Get.mono _ _)
      | (with_reducible exact ext_Put.mono _ _)
      | (with_reducible exact ext_Right.mono _ _)
      | (with_reducible exact roadbooklaw13_awake.mono _)
      | (with_reducible exact roadbooklaw13_few.mono _ _)
      | (with_reducible exact roadbookref07_Same.mono _ _ _ _ _ _ _ _ _ _ _ _ _ _ _ _ _ _ _ _ _ _ _ _ _ _ _ _ _ _ _ _ _ _ _ _ _ _ _ _ _ _ _ _ _ _ _ _ _ _ _)
      | (with_reducible exact roadbookref13_Get.mono _ _)
      | (with_reducible exact roadbookref13_Put.mono _ _)
      | (with_reducible exact roadbookref13_Right.mono _ _)
      | (with_reducible exact LeO.refl _)
      | (with_reducible exact LeO.none _)
      | (with_reducible refine LeO.ite ?_ ?_)
      | (with_reducible refine LeO.bind ?_ (fun _ => ?_))
      | exact ih0 _ _ _
      | exact ext_Get.mono _ _
      | exact ext_Put.mono _ _
      | exact ext_Right.mono _ _
      | exact roadbooklaw13_awake.mono _
      | exact roadbooklaw13_few.mono _ _
      | exact roadbookref07_Same.mono _ _ _ _ _ _ _ _ _ _ _ _ _ _ _ _ _ _ _ _ _ _ _ _ _ _ _ _ _ _ _ _ _ _ _ _ _ _ _ _ _ _ _ _ _ _ _ _ _ _ _
      | exact roadbookref13_Get.mono _ _
      | exact roadbookref13_Put.mono _ _
      | exact roadbookref13_Right.mono _ _
      | exact LeO.none _
      | refine LeO.ite ?_ ?_
      | refine LeO.bind ?_ (fun _ => ?_)
theorem roadbooklaw13_ExtTells.mono : ∀ a0 a1 k, LeO (roadbooklaw13_ExtTells.f k a0 a1) (roadbooklaw13_ExtTells.f (k + 1) a0 a1) := by
  intro a0 a1 k
  have ih0 := roadbooklaw13_ExtTells.mono_l k
  unfold roadbooklaw13_ExtTells.f
  repeat' first
      | (with_reducible exact ih0 _ _ _)
      | (with_reducible exact ext_Get.mono _ _)
      | (with_reducible exact ext_Put.mono _ _)
      | (with_reducible exact ext_Right.mono _ _)
      | (with_reducible exact roadbooklaw13_awake.mono _)
      | (with_reducible exact roadbooklaw13_few.mono _ _)
      | (with_reducible exact roadbookref07_Same.mono _ _ _ _ _ _ _ _ _ _ _ _ _ _ _ _ _ _ _ _ _ _ _ _ _ _ _ _ _ _ _ _ _ _ _ _ _ _ _ _ _ _ _ _ _ _ _ _ _ _ _)
      | (with_reducible exact roadbookref13_Get.mono _ _)
      | (with_reducible exact roadbookref13_Put.mono _ _)
      | (with_reducible exact roadbookref13_Right.mono _ _)
      | (with_reducible exact LeO.refl _)
      | (with_reducible exact LeO.none _)
      | (with_reducible refine LeO.ite ?_ ?_)
      | (with_reducible refine LeO.bind ?_ (fun _ => ?_))
      | exact ih0 _ _ _
      | exact ext_Get.mono _ _
      | exact ext_Put.mono _ _
      | exact ext_Right.mono _ _
      | exact roadbooklaw13_awake.mono _
      | exact roadbooklaw13_few.mono _ _
      | exact roadbookref07_Same.mono _ _ _ _ _ _ _ _ _ _ _ _ _ _ _ _ _ _ _ _ _ _ _ _ _ _ _ _ _ _ _ _ _ _ _ _ _ _ _ _ _ _ _ _ _ _ _ _ _ _ _
      | exact roadbookref13_Get.mono _ _
      | exact roadbookref13_Put.mono _ _
      | exact roadbookref13_Right.mono _ _
      | exact LeO.none _
      | refine LeO.ite ?_ ?_
      | refine LeO.bind ?_ (fun _ => ?_)
set_option maxHeartbeats 8000000 in
set_option maxRecDepth 100000 in
theorem roadbooklaw13_ExtTells.calls (k : Nat) (A0 : Option Addr) (c0 : Nat) (l0 : List (S63)) (a1 : ByteArray) (r : Bool) (w : World) (hr0 : Kd.C k63 w A0 l0.length l0) (hc0 : l0.length ≤ c0) (hr_ : Aside0 (r = true)) (h : roadbooklaw13_ExtTells.f k l0 a1 = some r) :
    Calls Try.prog 13 #[.slice A0 l0.length c0, .string a1] w fun e w' => e = .returned (.bool r) ∧ Below w.heap.size w w' := by
  have hu58 := Try.underlying58
  have HR0 := Aside0.mk hr0
  have HC0 := Aside0.mk hc0
  clear hr0 hc0
  have HB := Aside0.mk (Below.refl w.heap.size w)
  have H : ((roadbooklaw13_few.f k l0).bind fun t197 => (if t197 = true then (roadbooklaw13_ExtTells.j0 k l0 a1 (decide ((a1.size : Int) > 1000))) else (roadbooklaw13_ExtTells.j0 k l0 a1 true))) = some r := h
  clear h
  have HC3 := Aside0.mk H
  clear H
  go_enter Try.func13, Try.ntmps13
  go_upto_region 1 with (fail)
  go_cut [22] (fun v22 wc => ∃ (kq : Nat) (x22_2 : Bool), v22 = .bool x22_2 ∧ Aside0 (roadbooklaw13_ExtTells.j0 kq l0 a1 x22_2 = some r) ∧ Aside0 (kq ≤ k) ∧ Aside0 (Below w.heap.size w wc))
  case first =>
    have H := HC3.out
    clear HC3
    replace H := Option.bind_eq_some_iff.mp H
    obtain ⟨t197, A40, H⟩ := H
    replace H : (if t197 = true then (roadbooklaw13_ExtTells.j0 k l0 a1 (decide ((a1.size : Int) > 1000))) else (roadbooklaw13_ExtTells.j0 k l0 a1 true)) = some r := H
    have A4 := Aside0.mk A40
    clear A40
    by_cases c5 : t197 = true
    · subst c5
      have H1 : (roadbooklaw13_ExtTells.j0 k l0 a1 (decide ((a1.size : Int) > 1000))) = some r := by rw [if_pos rfl] at H; exact H
      clear H
      have H := H1
      clear H1
      have H' := Aside0.mk H
      clear H
      go_wp2_with (first | ((with_reducible refine gate_callee (f := 57) rfl ?_); refine goesL_ (some 16) rfl rfl Try.func57 (by kernel_rfl) rfl #[.slice A0 l0.length c0] rfl (by (try simp only [List.map_toArray, List.map_cons, List.map_nil]); first | done | rfl | (simp only [List.length_drop, List.length_take]; rfl)) ?_; (with_reducible refine (roadbooklaw13_few.calls k _ _ l0 true _ ?side1 ?side2 A4.out).mono ?_); (case side1 => repeat (first | exact (Kd.C_below HR0.out HB.out) | (with_reducible refine Kd.C_alloc ?_ _) | (with_reducible refine Kd.C_drewN ?_ _) | (with_reducible refine Kd.C_drew ?_))); (case side2 => exact HC0.out); rintro e w6 ⟨rfl, hb⟩; refine ⟨_, rfl, ?_⟩; have n0_ := Aside0.mk (below_step (by repeat (first | (with_reducible first | exact HB.out | apply below_alloc | apply pw_below_drewN | apply below_drew1) | exact HB.out)) hb); clear HB; have HB := n0_; clear n0_; (try clear hb); (try clear hb2); (try clear hk); (try clear hi)))
      go_meet
      case rel => exact ⟨_, (decide ((a1.size : Int) > 1000)), (by first | rfl | (simp; done) | (simp [*]; done)), H', ⟨by first | omega | exact Nat.le_refl _⟩, ⟨by repeat (first | (with_reducible first | exact HB.out | apply below_alloc | apply pw_below_drewN | apply below_drew1) | exact HB.out)⟩⟩
    · replace c5 := Bool.eq_false_iff.mpr c5
      subst c5
      have H1 : (roadbooklaw13_ExtTells.j0 k l0 a1 true) = some r := by rw [if_neg (show ¬ (false = true) by decide)] at H; exact H
      clear H
      have H := H1
      clear H1
      have H' := Aside0.mk H
      clear H
      go_wp2_with (first | ((with_reducible refine gate_callee (f := 57) rfl ?_); refine goesL_ (some 16) rfl rfl Try.func57 (by kernel_rfl) rfl #[.slice A0 l0.length c0] rfl (by (try simp only [List.map_toArray, List.map_cons, List.map_nil]); first | done | rfl | (simp only [List.length_drop, List.length_take]; rfl)) ?_; (with_reducible refine (roadbooklaw13_few.calls k _ _ l0 false _ ?side1 ?side2 A4.out).mono ?_); (case side1 => repeat (first | exact (Kd.C_below HR0.out HB.out) | (with_reducible refine Kd.C_alloc ?_ _) | (with_reducible refine Kd.C_drewN ?_ _) | (with_reducible refine Kd.C_drew ?_))); (case side2 => exact HC0.out); rintro e w7 ⟨rfl, hb⟩; refine ⟨_, rfl, ?_⟩; have n0_ := Aside0.mk (below_step (by repeat (first | (with_reducible first | exact HB.out | apply below_alloc | apply pw_below_drewN | apply below_drew1) | exact HB.out)) hb); clear HB; have HB := n0_; clear n0_; (try clear hb); (try clear hb2); (try clear hk); (try clear hi)))
      go_meet
      case rel => exact ⟨_, (true), (by first | rfl | (simp; done) | (simp [*]; done)), H', ⟨by first | omega | exact Nat.le_refl _⟩, ⟨by repeat (first | (with_reducible first | exact HB.out | apply below_alloc | apply pw_below_drewN | apply below_drew1) | exact HB.out)⟩⟩
  case rest =>
    clear HC3
    try clear c1
    obtain ⟨kq, x22_2, rfl, HA, HJ2, HB⟩ := hcut
    cases kq with
    | zero => exact absurd HA.out (by simp [roadbooklaw13_ExtTells.j0])
    | succ kj2 =>
      have H := HA.out
      clear HA
      simp only [roadbooklaw13_ExtTells.j0] at H
      by_cases c8 : x22_2 = true
      · subst c8
        have H1 : ((roadbooklaw13_awake.f kj2).bind fun t198 => (some t198)) = some r := by rw [if_pos rfl] at H; exact H
        clear H
        have H := H1
        clear H1
        replace H := Option.bind_eq_some_iff.mp H
        obtain ⟨t198, A90, H⟩ := H
        replace H : (some t198) = some r := H
        have A9 := Aside0.mk A90
        clear A90
        obtain rfl := Option.some.inj H
        go_wp2_with (first | ((with_reducible refine gate_callee (f := 45) rfl ?_); refine goesL_ (some 23) rfl rfl Try.func45 (by kernel_rfl) rfl #[] rfl (by (try simp only [List.map_toArray, List.map_cons, List.map_nil]); first | done | rfl | (simp only [List.length_drop, List.length_take]; rfl)) ?_; (with_reducible refine (roadbooklaw13_awake.calls kj2  t198 _ A9.out).mono ?_); rintro e w10 ⟨rfl, hb⟩; refine ⟨_, rfl, ?_⟩; have n0_ := Aside0.mk (below_step (by repeat (first | (with_reducible first | exact HB.out | apply below_alloc | apply pw_below_drewN | apply below_drew1) | exact HB.out)) hb); clear HB; have HB := n0_; clear n0_; (try clear hb); (try clear hb2); (try clear hk); (try clear hi)))
        go_ret
        exact ⟨by first | rfl | (simp [errW_none, errW_some] <;> rfl) | (simp [*, errW_none, errW_some] <;> rfl), by repeat (first | (with_reducible first | exact HB.out | apply below_alloc | apply pw_below_drewN | apply below_drew1) | exact HB.out)⟩
      · replace c8 := Bool.eq_false_iff.mpr c8
        subst c8
        have H1 : ((ext_Put.f kj2 l0).bind fun bt199 => ((roadbookref13_Put.f kj2 l0).bind fun bt201 => ((ext_Get.f kj2 a1).bind fun bt203 => ((roadbookref13_Get.f kj2 a1).bind fun bt208 => ((roadbooklaw13_awake.f kj2).bind fun t213 => (if t213 = true then ((ext_Right.f kj2 l0).bind fun t214 => ((roadbookref13_Right.f kj2 l0).bind fun t215 => (if (t214 == t215) = true then (if bt199.1.toList = bt201.1.toList then (if (bt199.2 == bt201.2) = true then ((roadbookref07_Same.f kj2 0 0 0 (⟨#[]⟩ : ByteArray) 0 0 (⟨#[]⟩ : ByteArray) 0 0 (⟨#[]⟩ : ByteArray) 0 (⟨#[]⟩ : ByteArray) 0 0 0 0 0 0 0 (⟨#[]⟩ : ByteArray) (⟨#[]⟩ : ByteArray) ([] : List (S61)) 0 (⟨#[]⟩ : ByteArray) bt203.1 0 0 0 (⟨#[]⟩ : ByteArray) 0 0 (⟨#[]⟩ : ByteArray) 0 0 (⟨#[]⟩ : ByteArray) 0 (⟨#[]⟩ : ByteArray) 0 0 0 0 0 0 0 (⟨#[]⟩ : ByteArray) (⟨#[]⟩ : ByteArray) ([] : List (S61)) 0 (⟨#[]⟩ : ByteArray) bt208.1).bind fun t216 => (if t216 = true then (if bt203.2.1 = bt208.2.1 then (some (bt203.2.2 == bt208.2.2)) else (some false)) else (some false))) else (some false)) else (some false)) else (some false)))) else (some false))))))) = some r := by rw [if_neg (show ¬ (false = true) by decide)] at H; exact H
        clear H
        have H := H1
        clear H1
        replace H := Option.bind_eq_some_iff.mp H
        obtain ⟨⟨t199, t200⟩, A110, H⟩ := H
        replace H : ((roadbookref13_Put.f kj2 l0).bind fun bt201 => ((ext_Get.f kj2 a1).bind fun bt203 => ((roadbookref13_Get.f kj2 a1).bind fun bt208 => ((roadbooklaw13_awake.f kj2).bind fun t213 => (if t213 = true then ((ext_Right.f kj2 l0).bind fun t214 => ((roadbookref13_Right.f kj2 l0).bind fun t215 => (if (t214 == t215) = true then (if t199.toList = bt201.1.toList then (if (t200 == bt201.2) = true then ((roadbookref07_Same.f kj2 0 0 0 (⟨#[]⟩ : ByteArray) 0 0 (⟨#[]⟩ : ByteArray) 0 0 (⟨#[]⟩ : ByteArray) 0 (⟨#[]⟩ : ByteArray) 0 0 0 0 0 0 0 (⟨#[]⟩ : ByteArray) (⟨#[]⟩ : ByteArray) ([] : List (S61)) 0 (⟨#[]⟩ : ByteArray) bt203.1 0 0 0 (⟨#[]⟩ : ByteArray) 0 0 (⟨#[]⟩ : ByteArray) 0 0 (⟨#[]⟩ : ByteArray) 0 (⟨#[]⟩ : ByteArray) 0 0 0 0 0 0 0 (⟨#[]⟩ : ByteArray) (⟨#[]⟩ : ByteArray) ([] : List (S61)) 0 (⟨#[]⟩ : ByteArray) bt208.1).bind fun t216 => (if t216 = true then (if bt203.2.1 = bt208.2.1 then (some (bt203.2.2 == bt208.2.2)) else (some false)) else (some false))) else (some false)) else (some false)) else (some false)))) else (some false)))))) = some r := H
        have A11 := Aside0.mk A110
        clear A110
        replace H := Option.bind_eq_some_iff.mp H
        obtain ⟨⟨t201, t202⟩, A120, H⟩ := H
        replace H : ((ext_Get.f kj2 a1).bind fun bt203 => ((roadbookref13_Get.f kj2 a1).bind fun bt208 => ((roadbooklaw13_awake.f kj2).bind fun t213 => (if t213 = true then ((ext_Right.f kj2 l0).bind fun t214 => ((roadbookref13_Right.f kj2 l0).bind fun t215 => (if (t214 == t215) = true then (if t199.toList = t201.toList then (if (t200 == t202) = true then ((roadbookref07_Same.f kj2 0 0 0 (⟨#[]⟩ : ByteArray) 0 0 (⟨#[]⟩ : ByteArray) 0 0 (⟨#[]⟩ : ByteArray) 0 (⟨#[]⟩ : ByteArray) 0 0 0 0 0 0 0 (⟨#[]⟩ : ByteArray) (⟨#[]⟩ : ByteArray) ([] : List (S61)) 0 (⟨#[]⟩ : ByteArray) bt203.1 0 0 0 (⟨#[]⟩ : ByteArray) 0 0 (⟨#[]⟩ : ByteArray) 0 0 (⟨#[]⟩ : ByteArray) 0 (⟨#[]⟩ : ByteArray) 0 0 0 0 0 0 0 (⟨#[]⟩ : ByteArray) (⟨#[]⟩ : ByteArray) ([] : List (S61)) 0 (⟨#[]⟩ : ByteArray) bt208.1).bind fun t216 => (if t216 = true then (if bt203.2.1 = bt208.2.1 then (some (bt203.2.2 == bt208.2.2)) else (some false)) else (some false))) else (some false)) else (some false)) else (some false)))) else (some false))))) = some r := H
        have A12 := Aside0.mk A120
        clear A120
        replace H := Option.bind_eq_some_iff.mp H
        obtain ⟨⟨t203, t204, t205⟩, A130, H⟩ := H
        replace H : ((roadbookref13_Get.f kj2 a1).bind fun bt208 => ((roadbooklaw13_awake.f kj2).bind fun t213 => (if t213 = true then ((ext_Right.f kj2 l0).bind fun t214 => ((roadbookref13_Right.f kj2 l0).bind fun t215 => (if (t214 == t215) = true then (if t199.toList = t201.toList then (if (t200 == t202) = true then ((roadbookref07_Same.f kj2 0 0 0 (⟨#[]⟩ : ByteArray) 0 0 (⟨#[]⟩ : ByteArray) 0 0 (⟨#[]⟩ : ByteArray) 0 (⟨#[]⟩ : ByteArray) 0 0 0 0 0 0 0 (⟨#[]⟩ : ByteArray) (⟨#[]⟩ : ByteArray) ([] : List (S61)) 0 (⟨#[]⟩ : ByteArray) t203 0 0 0 (⟨#[]⟩ : ByteArray) 0 0 (⟨#[]⟩ : ByteArray) 0 0 (⟨#[]⟩ : ByteArray) 0 (⟨#[]⟩ : ByteArray) 0 0 0 0 0 0 0 (⟨#[]⟩ : ByteArray) (⟨#[]⟩ : ByteArray) ([] : List (S61)) 0 (⟨#[]⟩ : ByteArray) bt208.1).bind fun t216 => (if t216 = true then (if t204 = bt208.2.1 then (some (t205 == bt208.2.2)) else (some false)) else (some false))) else (some false)) else (some false)) else (some false)))) else (some false)))) = some r := H
        have A13 := Aside0.mk A130
        clear A130
        replace H := Option.bind_eq_some_iff.mp H
        obtain ⟨⟨t208, t209, t210⟩, A140, H⟩ := H
        replace H : ((roadbooklaw13_awake.f kj2).bind fun t213 => (if t213 = true then ((ext_Right.f kj2 l0).bind fun t214 => ((roadbookref13_Right.f kj2 l0).bind fun t215 => (if (t214 == t215) = true then (if t199.toList = t201.toList then (if (t200 == t202) = true then ((roadbookref07_Same.f kj2 0 0 0 (⟨#[]⟩ : ByteArray) 0 0 (⟨#[]⟩ : ByteArray) 0 0 (⟨#[]⟩ : ByteArray) 0 (⟨#[]⟩ : ByteArray) 0 0 0 0 0 0 0 (⟨#[]⟩ : ByteArray) (⟨#[]⟩ : ByteArray) ([] : List (S61)) 0 (⟨#[]⟩ : ByteArray) t203 0 0 0 (⟨#[]⟩ : ByteArray) 0 0 (⟨#[]⟩ : ByteArray) 0 0 (⟨#[]⟩ : ByteArray) 0 (⟨#[]⟩ : ByteArray) 0 0 0 0 0 0 0 (⟨#[]⟩ : ByteArray) (⟨#[]⟩ : ByteArray) ([] : List (S61)) 0 (⟨#[]⟩ : ByteArray) t208).bind fun t216 => (if t216 = true then (if t204 = t209 then (some (t205 == t210)) else (some false)) else (some false))) else (some false)) else (some false)) else (some false)))) else (some false))) = some r := H
        have A14 := Aside0.mk A140
        clear A140
        replace H := Option.bind_eq_some_iff.mp H
        obtain ⟨t213, A150, H⟩ := H
        replace H : (if t213 = true then ((ext_Right.f kj2 l0).bind fun t214 => ((roadbookref13_Right.f kj2 l0).bind fun t215 => (if (t214 == t215) = true then (if t199.toList = t201.toList then (if (t200 == t202) = true then ((roadbookref07_Same.f kj2 0 0 0 (⟨#[]⟩ : ByteArray) 0 0 (⟨#[]⟩ : ByteArray) 0 0 (⟨#[]⟩ : ByteArray) 0 (⟨#[]⟩ : ByteArray) 0 0 0 0 0 0 0 (⟨#[]⟩ : ByteArray) (⟨#[]⟩ : ByteArray) ([] : List (S61)) 0 (⟨#[]⟩ : ByteArray) t203 0 0 0 (⟨#[]⟩ : ByteArray) 0 0 (⟨#[]⟩ : ByteArray) 0 0 (⟨#[]⟩ : ByteArray) 0 (⟨#[]⟩ : ByteArray) 0 0 0 0 0 0 0 (⟨#[]⟩ : ByteArray) (⟨#[]⟩ : ByteArray) ([] : List (S61)) 0 (⟨#[]⟩ : ByteArray) t208).bind fun t216 => (if t216 = true then (if t204 = t209 then (some (t205 == t210)) else (some false)) else (some false))) else (some false)) else (some false)) else (some false)))) else (some false)) = some r := H
        have A15 := Aside0.mk A150
        clear A150
        by_cases c16 : t213 = true
        · subst c16
          have H1 : ((ext_Right.f kj2 l0).bind fun t214 => ((roadbookref13_Right.f kj2 l0).bind fun t215 => (if (t214 == t215) = true then (if t199.toList = t201.toList then (if (t200 == t202) = true then ((roadbookref07_Same.f kj2 0 0 0 (⟨#[]⟩ : ByteArray) 0 0 (⟨#[]⟩ : ByteArray) 0 0 (⟨#[]⟩ : ByteArray) 0 (⟨#[]⟩ : ByteArray) 0 0 0 0 0 0 0 (⟨#[]⟩ : ByteArray) (⟨#[]⟩ : ByteArray) ([] : List (S61)) 0 (⟨#[]⟩ : ByteArray) t203 0 0 0 (⟨#[]⟩ : ByteArray) 0 0 (⟨#[]⟩ : ByteArray) 0 0 (⟨#[]⟩ : ByteArray) 0 (⟨#[]⟩ : ByteArray) 0 0 0 0 0 0 0 (⟨#[]⟩ : ByteArray) (⟨#[]⟩ : ByteArray) ([] : List (S61)) 0 (⟨#[]⟩ : ByteArray) t208).bind fun t216 => (if t216 = true then (if t204 = t209 then (some (t205 == t210)) else (some false)) else (some false))) else (some false)) else (some false)) else (some false)))) = some r := by rw [if_pos rfl] at H; exact H
          clear H
          have H := H1
          clear H1
          replace H := Option.bind_eq_some_iff.mp H
          obtain ⟨t214, A170, H⟩ := H
          replace H : ((roadbookref13_Right.f kj2 l0).bind fun t215 => (if (t214 == t215) = true then (if t199.toList = t201.toList then (if (t200 == t202) = true then ((roadbookref07_Same.f kj2 0 0 0 (⟨#[]⟩ : ByteArray) 0 0 (⟨#[]⟩ : ByteArray) 0 0 (⟨#[]⟩ : ByteArray) 0 (⟨#[]⟩ : ByteArray) 0 0 0 0 0 0 0 (⟨#[]⟩ : ByteArray) (⟨#[]⟩ : ByteArray) ([] : List (S61)) 0 (⟨#[]⟩ : ByteArray) t203 0 0 0 (⟨#[]⟩ : ByteArray) 0 0 (⟨#[]⟩ : ByteArray) 0 0 (⟨#[]⟩ : ByteArray) 0 (⟨#[]⟩ : ByteArray) 0 0 0 0 0 0 0 (⟨#[]⟩ : ByteArray) (⟨#[]⟩ : ByteArray) ([] : List (S61)) 0 (⟨#[]⟩ : ByteArray) t208).bind fun t216 => (if t216 = true then (if t204 = t209 then (some (t205 == t210)) else (some false)) else (some false))) else (some false)) else (some false)) else (some false))) = some r := H
          have A17 := Aside0.mk A170
          clear A170
          replace H := Option.bind_eq_some_iff.mp H
          obtain ⟨t215, A180, H⟩ := H
          replace H : (if (t214 == t215) = true then (if t199.toList = t201.toList then (if (t200 == t202) = true then ((roadbookref07_Same.f kj2 0 0 0 (⟨#[]⟩ : ByteArray) 0 0 (⟨#[]⟩ : ByteArray) 0 0 (⟨#[]⟩ : ByteArray) 0 (⟨#[]⟩ : ByteArray) 0 0 0 0 0 0 0 (⟨#[]⟩ : ByteArray) (⟨#[]⟩ : ByteArray) ([] : List (S61)) 0 (⟨#[]⟩ : ByteArray) t203 0 0 0 (⟨#[]⟩ : ByteArray) 0 0 (⟨#[]⟩ : ByteArray) 0 0 (⟨#[]⟩ : ByteArray) 0 (⟨#[]⟩ : ByteArray) 0 0 0 0 0 0 0 (⟨#[]⟩ : ByteArray) (⟨#[]⟩ : ByteArray) ([] : List (S61)) 0 (⟨#[]⟩ : ByteArray) t208).bind fun t216 => (if t216 = true then (if t204 = t209 then (some (t205 == t210)) else (some false)) else (some false))) else (some false)) else (some false)) else (some false)) = some r := H
          have A18 := Aside0.mk A180
          clear A180
          by_cases c19 : (t214 == t215) = true
          · rw [if_pos c19] at H
            have c19b0 : (t214 == t215) = true := c19
            (try (have c19b1 : decide (t214 = t215) = true := by simpa using c19))
            (try (have c19b2 : (t214 == t215) = true := by simpa using c19))
            clear c19
            by_cases c20 : t199.toList = t201.toList
            · rw [if_pos c20] at H
              have c20b0 : (t199.toList == t201.toList) = true := beq_iff_eq.mpr c20
              have c20b1 : (t199.toList != t201.toList) = false := bne_eq_false_iff_eq.mpr c20
              clear c20
              by_cases c21 : (t200 == t202) = true
              · rw [if_pos c21] at H
                have c21b0 : (t200 == t202) = true := c21
                (try (have c21b1 : decide (t200 = t202) = true := by simpa using c21))
                (try (have c21b2 : (t200 == t202) = true := by simpa using c21))
                clear c21
                replace H := Option.bind_eq_some_iff.mp H
                obtain ⟨t216, A220, H⟩ := H
                replace H : (if t216 = true then (if t204 = t209 then (some (t205 == t210)) else (some false)) else (some false)) = some r := H
                have A22 := Aside0.mk A220
                clear A220
                by_cases c23 : t216 = true
                · subst c23
                  have H1 : (if t204 = t209 then (some (t205 == t210)) else (some false)) = some r := by rw [if_pos rfl] at H; exact H
                  clear H
                  have H := H1
                  clear H1
                  by_cases c24 : t204 = t209
                  · rw [if_pos c24] at H
                    have c24b0 : (t204 == t209) = true := beq_iff_eq.mpr c24
                    have c24b1 : (t204 != t209) = false := bne_eq_false_iff_eq.mpr c24
                    clear c24
                    obtain rfl := Option.some.inj H
                    go_wp2_with (first | ((with_reducible refine gate_callee (f := 58) rfl ?_); refine goesL_ (some 26) rfl rfl Try.func58 (by kernel_rfl) rfl #[.slice A0 l0.length c0] rfl (by (try simp only [List.map_toArray, List.map_cons, List.map_nil]); first | done | rfl | (simp only [List.length_drop, List.length_take]; rfl)) ?_; (with_reducible refine (ext_Put.calls kj2 _ _ l0 t199 t200 _ ?side1 ?side2 A11.out).mono ?_); (case side1 => repeat (first | exact (Kd.C_below HR0.out HB.out) | (with_reducible refine Kd.C_alloc ?_ _) | (with_reducible refine Kd.C_drewN ?_ _) | (with_reducible refine Kd.C_drew ?_))); (case side2 => exact HC0.out); rintro e w25 ⟨rfl, hb⟩; refine ⟨_, rfl, ?_⟩; have n0_ := Aside0.mk (below_step (by repeat (first | (with_reducible first | exact HB.out | apply below_alloc | apply pw_below_drewN | apply below_drew1) | exact HB.out)) hb); clear HB; have HB := n0_; clear n0_; (try clear hb); (try clear hb2); (try clear hk); (try clear hi)) | ((with_reducible refine gate_callee (f := 59) rfl ?_); refine goesL_ (some 31) rfl rfl Try.func59 (by kernel_rfl) rfl #[.slice A0 l0.length c0] rfl (by (try simp only [List.map_toArray, List.map_cons, List.map_nil]); first | done | rfl | (simp only [List.length_drop, List.length_take]; rfl)) ?_; (with_reducible refine (roadbookref13_Put.calls kj2 _ _ l0 t201 t202 _ ?side1 ?side2 A12.out).mono ?_); (case side1 => repeat (first | exact (Kd.C_below HR0.out HB.out) | (with_reducible refine Kd.C_alloc ?_ _) | (with_reducible refine Kd.C_drewN ?_ _) | (with_reducible refine Kd.C_drew ?_))); (case side2 => exact HC0.out); rintro e w26 ⟨rfl, hb⟩; refine ⟨_, rfl, ?_⟩; have n0_ := Aside0.mk (below_step (by repeat (first | (with_reducible first | exact HB.out | apply below_alloc | apply pw_below_drewN | apply below_drew1) | exact HB.out)) hb); clear HB; have HB := n0_; clear n0_; (try clear hb); (try clear hb2); (try clear hk); (try clear hi)) | ((with_reducible refine gate_callee (f := 46) rfl ?_); refine goesL_ (some 36) rfl rfl Try.func46 (by kernel_rfl) rfl #[.string a1] rfl (by (try simp only [List.map_toArray, List.map_cons, List.map_nil]); first | done | rfl | (simp only [List.length_drop, List.length_take]; rfl)) ?_; (with_reducible refine (ext_Get.calls kj2 a1 t203 t204 t205 _ A13.out).mono ?_); rintro e w27 ⟨v206, rfl, ho0, hb⟩; refine ⟨_, rfl, ?_⟩; have n0_ := Aside0.mk (Kd.R_lower ho0 (below_size (by repeat (first | (with_reducible first | exact HB.out | apply below_alloc | apply pw_below_drewN | apply below_drew1) | exact HB.out)))); have n1_ := Aside0.mk (below_step (by repeat (first | (with_reducible first | exact HB.out | apply below_alloc | apply pw_below_drewN | apply below_drew1) | exact HB.out)) hb); clear HB; have HO207 := n0_; have HB := n1_; clear n0_ n1_; (try clear hb); (try clear hb2); (try clear hk); (try clear hi); (try clear ho0)) | ((with_reducible refine gate_callee (f := 60) rfl ?_); refine goesL_ (some 42) rfl rfl Try.func60 (by kernel_rfl) rfl #[.string a1] rfl (by (try simp only [List.map_toArray, List.map_cons, List.map_nil]); first | done | rfl | (simp only [List.length_drop, List.length_take]; rfl)) ?_; (with_reducible refine (roadbookref13_Get.calls kj2 a1 t208 t209 t210 _ A14.out).mono ?_); rintro e w28 ⟨v211, rfl, ho0, hb⟩; refine ⟨_, rfl, ?_⟩; have n0_ := Aside0.mk (Kd.R_elder' (by (with_reducible repeat (first | apply Kd.R_alloc | apply Kd.R_drewN | apply Kd.R_drew)); exact HO207.out) (Kd.R_base ho0) hb); have n1_ := Aside0.mk (Kd.R_lower (Kd.R_new' ho0 (Kd.R_lt (by (with_reducible repeat (first | apply Kd.R_alloc | apply Kd.R_drewN | apply Kd.R_drew)); exact HO207.out))) (below_size (by repeat (first | (with_reducible first | exact HB.out | apply below_alloc | apply pw_below_drewN | apply below_drew1) | exact HB.out)))); have n2_ := Aside0.mk (below_step (by repeat (first | (with_reducible first | exact HB.out | apply below_alloc | apply pw_below_drewN | apply below_drew1) | exact HB.out)) hb); clear HO207; clear HB; have HO207 := n0_; have HO212 := n1_; have HB := n2_; clear n0_ n1_ n2_; (try clear hb); (try clear hb2); (try clear hk); (try clear hi); (try clear ho0)) | ((with_reducible refine gate_callee (f := 45) rfl ?_); refine goesL_ (some 46) rfl rfl Try.func45 (by kernel_rfl) rfl #[] rfl (by (try simp only [List.map_toArray, List.map_cons, List.map_nil]); first | done | rfl | (simp only [List.length_drop, List.length_take]; rfl)) ?_; (with_reducible refine (roadbooklaw13_awake.calls kj2  true _ A15.out).mono ?_); rintro e w29 ⟨rfl, hb⟩; refine ⟨_, rfl, ?_⟩; have n0_ := Aside0.mk (Kd.R_below (by (with_reducible repeat (first | apply Kd.R_alloc | apply Kd.R_drewN | apply Kd.R_drew)); exact HO207.out) hb); have n1_ := Aside0.mk (Kd.R_below (by (with_reducible repeat (first | apply Kd.R_alloc | apply Kd.R_drewN | apply Kd.R_drew)); exact HO212.out) hb); have n2_ := Aside0.mk (below_step (by repeat (first | (with_reducible first | exact HB.out | apply below_alloc | apply pw_below_drewN | apply below_drew1) | exact HB.out)) hb); clear HO207; clear HO212; clear HB; have HO207 := n0_; have HO212 := n1_; have HB := n2_; clear n0_ n1_ n2_; (try clear hb); (try clear hb2); (try clear hk); (try clear hi)) | (go_at_call 61; (with_reducible refine (ext_Right.calls kj2 _ _ l0 t214 _ ?side1 ?side2 A17.out).mono ?_); (case side1 => repeat (first | exact (Kd.C_below HR0.out HB.out) | (with_reducible refine Kd.C_alloc ?_ _) | (with_reducible refine Kd.C_drewN ?_ _) | (with_reducible refine Kd.C_drew ?_))); (case side2 => exact HC0.out); rintro e w30 ⟨rfl, hb⟩; have n0_ := Aside0.mk (Kd.R_below (by (with_reducible repeat (first | apply Kd.R_alloc | apply Kd.R_drewN | apply Kd.R_drew)); exact HO207.out) hb); have n1_ := Aside0.mk (Kd.R_below (by (with_reducible repeat (first | apply Kd.R_alloc | apply Kd.R_drewN | apply Kd.R_drew)); exact HO212.out) hb); have n2_ := Aside0.mk (below_step (by repeat (first | (with_reducible first | exact HB.out | apply below_alloc | apply pw_below_drewN | apply below_drew1) | exact HB.out)) hb); clear HO207; clear HO212; clear HB; have HO207 := n0_; have HO212 := n1_; have HB := n2_; clear n0_ n1_ n2_; (try clear hb); (try clear hb2); (try clear hk); (try clear hi)) | (go_at_call 62; (with_reducible refine (roadbookref13_Right.calls kj2 _ _ l0 t215 _ ?side1 ?side2 A18.out).mono ?_); (case side1 => repeat (first | exact (Kd.C_below HR0.out HB.out) | (with_reducible refine Kd.C_alloc ?_ _) | (with_reducible refine Kd.C_drewN ?_ _) | (with_reducible refine Kd.C_drew ?_))); (case side2 => exact HC0.out); rintro e w' ⟨rfl, ⟨nd, rfl⟩⟩; obtain ⟨Ao31, co31, eo31⟩ := Kd.R_slice HO207.out; subst eo31; obtain ⟨Ao32, co32, eo32⟩ := Kd.R_slice HO212.out; subst eo32) | (go_at_call 47; (refine (roadbookref07_Same.calls kj2 0 0 0 (⟨#[]⟩ : ByteArray) 0 0 (⟨#[]⟩ : ByteArray) 0 0 (⟨#[]⟩ : ByteArray) 0 (⟨#[]⟩ : ByteArray) 0 0 0 0 0 0 0 (⟨#[]⟩ : ByteArray) (⟨#[]⟩ : ByteArray) _ _ ([] : List (S61)) 0 (⟨#[]⟩ : ByteArray) _ _ t203 0 0 0 (⟨#[]⟩ : ByteArray) 0 0 (⟨#[]⟩ : ByteArray) 0 0 (⟨#[]⟩ : ByteArray) 0 (⟨#[]⟩ : ByteArray) 0 0 0 0 0 0 0 (⟨#[]⟩ : ByteArray) (⟨#[]⟩ : ByteArray) _ _ ([] : List (S61)) 0 (⟨#[]⟩ : ByteArray) _ _ t208 true _ ?side1 ?side2 ?side3 ?side4 ?side5 ?side6 ?side7 ?side8 A22.out).mono ?_); (case side1 => exact Kd.C_nil _ _); (case side2 => exact Nat.le_refl _); (case side3 => repeat (first | exact (Kd.R_reads' HO207.out).2.2 | (with_reducible refine Kd.C_alloc ?_ _) | (with_reducible refine Kd.C_drewN ?_ _) | (with_reducible refine Kd.C_drew ?_))); (case side4 => exact (Kd.R_reads' HO207.out).2.1); (case side5 => exact Kd.C_nil _ _); (case side6 => exact Nat.le_refl _); (case side7 => repeat (first | exact (Kd.R_reads' HO212.out).2.2 | (with_reducible refine Kd.C_alloc ?_ _) | (with_reducible refine Kd.C_drewN ?_ _) | (with_reducible refine Kd.C_drew ?_))); (case side8 => exact (Kd.R_reads' HO212.out).2.1); rintro e w33 ⟨rfl, hb⟩; have n0_ := Aside0.mk (Kd.R_below (by (with_reducible repeat (first | apply Kd.R_alloc | apply Kd.R_drewN | apply Kd.R_drew)); exact HO207.out) hb); have n1_ := Aside0.mk (Kd.R_below (by (with_reducible repeat (first | apply Kd.R_alloc | apply Kd.R_drewN | apply Kd.R_drew)); exact HO212.out) hb); have n2_ := Aside0.mk (below_step (by repeat (first | (with_reducible first | exact HB.out | apply below_alloc | apply pw_below_drewN | apply below_drew1) | exact HB.out)) hb); clear HO207; clear HO212; clear HB; have HO207 := n0_; have HO212 := n1_; have HB := n2_; clear n0_ n1_ n2_; (try clear hb); (try clear hb2); (try clear hk); (try clear hi)))
                    go_ret
                    exact ⟨by first | rfl | (simp [errW_none, errW_some] <;> rfl) | (simp [*, errW_none, errW_some] <;> rfl), by repeat (first | (with_reducible first | exact HB.out | apply below_alloc | apply pw_below_drewN | apply below_drew1) | exact HB.out)⟩
                  · rw [if_neg c24] at H
                    have c24b0 : (t204 == t209) = false := beq_eq_false_iff_ne.mpr c24
                    have c24b1 : (t204 != t209) = true := bne_iff_ne.mpr c24
                    exact absurd (Option.some.inj H) (by rw [hr_.out]; exact Bool.false_ne_true)
                · replace c23 := Bool.eq_false_iff.mpr c23
                  subst c23
                  have H1 : (some false) = some r := by rw [if_neg (show ¬ (false = true) by decide)] at H; exact H
                  clear H
                  have H := H1
                  clear H1
                  exact absurd (Option.some.inj H) (by rw [hr_.out]; exact Bool.false_ne_true)
              · rw [if_neg c21] at H
                have c21b0 : (t200 == t202) = false := by first | exact Bool.eq_false_iff.mpr c21 | simpa using c21
                (try (have c21b1 : decide (t200 = t202) = false := by simpa using c21))
                (try (have c21b2 : (t200 == t202) = false := by simpa using c21))
                (try (have c21b3 : ¬ (t200 = t202) := by simpa using c21))
                clear c21
                exact absurd (Option.some.inj H) (by rw [hr_.out]; exact Bool.false_ne_true)
            · rw [if_neg c20] at H
              have c20b0 : (t199.toList == t201.toList) = false := beq_eq_false_iff_ne.mpr c20
              have c20b1 : (t199.toList != t201.toList) = true := bne_iff_ne.mpr c20
              exact absurd (Option.some.inj H) (by rw [hr_.out]; exact Bool.false_ne_true)
          · rw [if_neg c19] at H
            have c19b0 : (t214 == t215) = false := by first | exact Bool.eq_false_iff.mpr c19 | simpa using c19
            (try (have c19b1 : decide (t214 = t215) = false := by simpa using c19))
            (try (have c19b2 : (t214 == t215) = false := by simpa using c19))
            (try (have c19b3 : ¬ (t214 = t215) := by simpa using c19))
            clear c19
            exact absurd (Option.some.inj H) (by rw [hr_.out]; exact Bool.false_ne_true)
        · replace c16 := Bool.eq_false_iff.mpr c16
          subst c16
          have H1 : (some false) = some r := by rw [if_neg (show ¬ (false = true) by decide)] at H; exact H
          clear H
          have H := H1
          clear H1
          exact absurd (Option.some.inj H) (by rw [hr_.out]; exact Bool.false_ne_true)

end Go.Proofs.Ytelcciekdoccfaa.PExtTells
