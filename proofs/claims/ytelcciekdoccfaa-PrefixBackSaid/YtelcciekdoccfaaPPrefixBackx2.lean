-- Written by mp.py, a program of this work (wip/tools), out of the translation; Lean checks it.
import Derived.Test.YtelcciekdoccfaaPPrefixBackx0
import Derived.Test.YtelcciekdoccfaaPPrefixBackx1
namespace Go.Proofs.Ytelcciekdoccfaa.PPrefixBack
open Go.RowKit Go.Proofs.YtelcciekdoccfaaW.PrintWords Go.Proofs.YtelcciekdoccfaaW.PrintLast Go.Proofs.YtelcciekdoccfaaW.PrintMore
attribute [local go_sem] max2_int min2_int max_two min_two max_three min_three max_four min_four   -- for this text's walks alone
set_option linter.unusedVariables false
set_option linter.unusedSimpArgs false

/-! ### roadbooklaw04_awake: function 24 -/
def roadbooklaw04_awake.f (k : Nat)  : Option (Bool) := (prefix_Right.f (⟨#[10, 1, 2, 0]⟩ : ByteArray) 23).bind fun t115 => (if t115 = true then ((prefix_Right.f (⟨#[10, 1, 2, 0]⟩ : ByteArray) 22).bind fun t116 => (if t116 = true then (some false) else ((prefix_Least.f 23).bind fun t117 => (if t117 = 3 then ((prefix_Cut.f (⟨#[10, 1, 2, 0]⟩ : ByteArray) 23).bind fun t118 => (if t118.toList = ([10, 1, 2] : List UInt8) then ((prefix_Fill.f (⟨#[10]⟩ : ByteArray) 4).bind fun t119 => (if t119.toList = ([10, 0, 0, 0] : List UInt8) then ((prefix_Lead.f k (⟨#[97, 98, 99]⟩ : ByteArray) (⟨#[97, 98, 100]⟩ : ByteArray)).bind fun t120 => (some (t120 == 2))) else (some false))) else (some false))) else (some false))))) else (some false))
theorem roadbooklaw04_awake.mono : ∀ k, LeO (roadbooklaw04_awake.f k ) (roadbooklaw04_awake.f (k + 1) ) := by
  intro  k
  unfold roadbooklaw04_awake.f
  repeat' first
      | (with_reducible exact prefix_Lead.mono _ _ _)
      | (with_reducible exact LeO.refl _)
      | (with_reducible exact LeO.none _)
      | (with_reducible refine LeO.ite ?_ ?_)
      | (with_reducible refine LeO.bind ?_ (fun _ => ?_))
      | exact prefix_Lead.mono _ _ _
      | exact LeO.none _
      | refine LeO.ite ?_ ?_
      | refine LeO.bind ?_ (fun _ => ?_)
set_option maxHeartbeats 8000000 in
set_option maxRecDepth 100000 in
theorem roadbooklaw04_awake.calls (k : Nat)  (r : Bool) (w : World) (h : roadbooklaw04_awake.f k  = some r) :
    Calls Try.prog 24 #[] w fun e w' => e = .returned (.bool r) ∧ Below w.heap.size w w' := by
  have HB := Aside0.mk (Below.refl w.heap.size w)
  have H : ((prefix_Right.f (⟨#[10, 1, 2, 0]⟩ : ByteArray) 23).bind fun t115 => (if t115 = true then ((prefix_Right.f (⟨#[10, 1, 2, 0]⟩ : ByteArray) 22).bind fun t116 => (if t116 = true then (some false) else ((prefix_Least.f 23).bind fun t117 => (if t117 = 3 then ((prefix_Cut.f (⟨#[10, 1, 2, 0]⟩ : ByteArray) 23).bind fun t118 => (if t118.toList = ([10, 1, 2] : List UInt8) then ((prefix_Fill.f (⟨#[10]⟩ : ByteArray) 4).bind fun t119 => (if t119.toList = ([10, 0, 0, 0] : List UInt8) then ((prefix_Lead.f k (⟨#[97, 98, 99]⟩ : ByteArray) (⟨#[97, 98, 100]⟩ : ByteArray)).bind fun t120 => (some (t120 == 2))) else (some false))) else (some false))) else (some false))))) else (some false))) = some r := h
  clear h
  replace H := Option.bind_eq_some_iff.mp H
  obtain ⟨t115, A10, H⟩ := H
  replace H : (if t115 = true then ((prefix_Right.f (⟨#[10, 1, 2, 0]⟩ : ByteArray) 22).bind fun t116 => (if t116 = true then (some false) else ((prefix_Least.f 23).bind fun t117 => (if t117 = 3 then ((prefix_Cut.f (⟨#[10, 1, 2, 0]⟩ : ByteArray) 23).bind fun t118 => (if t118.toList = ([10, 1, 2] : List UInt8) then ((prefix_Fill.f (⟨#[10]⟩ : ByteArray) 4).bind fun t119 => (if t119.toList = ([10, 0, 0, 0] : List UInt8) then ((prefix_Lead.f k (⟨#[97, 98, 99]⟩ : ByteArray) (⟨#[97, 98, 100]⟩ : ByteArray)).bind fun t120 => (some (t120 == 2))) else (some false))) else (some false))) else (some false))))) else (some false)) = some r := H
  have A1 := Aside0.mk A10
  clear A10
  by_cases c2 : t115 = true
  · subst c2
    have H1 : ((prefix_Right.f (⟨#[10, 1, 2, 0]⟩ : ByteArray) 22).bind fun t116 => (if t116 = true then (some false) else ((prefix_Least.f 23).bind fun t117 => (if t117 = 3 then ((prefix_Cut.f (⟨#[10, 1, 2, 0]⟩ : ByteArray) 23).bind fun t118 => (if t118.toList = ([10, 1, 2] : List UInt8) then ((prefix_Fill.f (⟨#[10]⟩ : ByteArray) 4).bind fun t119 => (if t119.toList = ([10, 0, 0, 0] : List UInt8) then ((prefix_Lead.f k (⟨#[97, 98, 99]⟩ : ByteArray) (⟨#[97, 98, 100]⟩ : ByteArray)).bind fun t120 => (some (t120 == 2))) else (some false))) else (some false))) else (some false))))) = some r := by rw [if_pos rfl] at H; exact H
    clear H
    have H := H1
    clear H1
    replace H := Option.bind_eq_some_iff.mp H
    obtain ⟨t116, A30, H⟩ := H
    replace H : (if t116 = true then (some false) else ((prefix_Least.f 23).bind fun t117 => (if t117 = 3 then ((prefix_Cut.f (⟨#[10, 1, 2, 0]⟩ : ByteArray) 23).bind fun t118 => (if t118.toList = ([10, 1, 2] : List UInt8) then ((prefix_Fill.f (⟨#[10]⟩ : ByteArray) 4).bind fun t119 => (if t119.toList = ([10, 0, 0, 0] : List UInt8) then ((prefix_Lead.f k (⟨#[97, 98, 99]⟩ : ByteArray) (⟨#[97, 98, 100]⟩ : ByteArray)).bind fun t120 => (some (t120 == 2))) else (some false))) else (some false))) else (some false)))) = some r := H
    have A3 := Aside0.mk A30
    clear A30
    by_cases c4 : t116 = true
    · subst c4
      have H1 : (some false) = some r := by rw [if_pos rfl] at H; exact H
      clear H
      have H := H1
      clear H1
      obtain rfl := Option.some.inj H
      go_enter Try.func24, Try.ntmps24
      go_wp2_with (first | ((with_reducible refine gate_callee (f := 25) rfl ?_); refine goesL_ (some 3) rfl rfl Try.func25 (by kernel_rfl) rfl #[.string (⟨#[10, 1, 2, 0]⟩ : ByteArray), .int .i64 23] rfl (by (try simp only [List.map_toArray, List.map_cons, List.map_nil]); first | done | rfl | (simp only [List.length_drop, List.length_take]; rfl)) ?_; (with_reducible refine (prefix_Right.calls (⟨#[10, 1, 2, 0]⟩ : ByteArray) 23 true _ A1.out).mono ?_); rintro e w5 ⟨rfl, hb⟩; refine ⟨_, rfl, ?_⟩; have n0_ := Aside0.mk (below_step (by repeat (first | (with_reducible first | exact HB.out | apply below_alloc | apply pw_below_drewN | apply below_drew1) | exact HB.out)) hb); clear HB; have HB := n0_; clear n0_; (try clear hb); (try clear hb2); (try clear hk); (try clear hi)) | (go_at_call 25; (with_reducible refine (prefix_Right.calls (⟨#[10, 1, 2, 0]⟩ : ByteArray) 22 true _ A3.out).mono ?_); rintro e w6 ⟨rfl, hb⟩; have n0_ := Aside0.mk (below_step (by repeat (first | (with_reducible first | exact HB.out | apply below_alloc | apply pw_below_drewN | apply below_drew1) | exact HB.out)) hb); clear HB; have HB := n0_; clear n0_; (try clear hb); (try clear hb2); (try clear hk); (try clear hi)))
      go_ret
      exact ⟨by first | rfl | (simp [errW_none, errW_some] <;> rfl) | (simp [*, errW_none, errW_some] <;> rfl), by repeat (first | (with_reducible first | exact HB.out | apply below_alloc | apply pw_below_drewN | apply below_drew1) | exact HB.out)⟩
    · replace c4 := Bool.eq_false_iff.mpr c4
      subst c4
      have H1 : ((prefix_Least.f 23).bind fun t117 => (if t117 = 3 then ((prefix_Cut.f (⟨#[10, 1, 2, 0]⟩ : ByteArray) 23).bind fun t118 => (if t118.toList = ([10, 1, 2] : List UInt8) then ((prefix_Fill.f (⟨#[10]⟩ : ByteArray) 4).bind fun t119 => (if t119.toList = ([10, 0, 0, 0] : List UInt8) then ((prefix_Lead.f k (⟨#[97, 98, 99]⟩ : ByteArray) (⟨#[97, 98, 100]⟩ : ByteArray)).bind fun t120 => (some (t120 == 2))) else (some false))) else (some false))) else (some false))) = some r := by rw [if_neg (show ¬ (false = true) by decide)] at H; exact H
      clear H
      have H := H1
      clear H1
      replace H := Option.bind_eq_some_iff.mp H
      obtain ⟨t117, A70, H⟩ := H
      replace H : (if t117 = 3 then ((prefix_Cut.f (⟨#[10, 1, 2, 0]⟩ : ByteArray) 23).bind fun t118 => (if t118.toList = ([10, 1, 2] : List UInt8) then ((prefix_Fill.f (⟨#[10]⟩ : ByteArray) 4).bind fun t119 => (if t119.toList = ([10, 0, 0, 0] : List UInt8) then ((prefix_Lead.f k (⟨#[97, 98, 99]⟩ : ByteArray) (⟨#[97, 98, 100]⟩ : ByteArray)).bind fun t120 => (some (t120 == 2))) else (some false))) else (some false))) else (some false)) = some r := H
      have A7 := Aside0.mk A70
      clear A70
      by_cases c8 : t117 = 3
      · rw [if_pos c8] at H
        have c8b0 : (t117 == 3) = true := beq_iff_eq.mpr c8
        have c8b1 : (t117 != 3) = false := bne_eq_false_iff_eq.mpr c8
        clear c8
        replace H := Option.bind_eq_some_iff.mp H
        obtain ⟨t118, A90, H⟩ := H
        replace H : (if t118.toList = ([10, 1, 2] : List UInt8) then ((prefix_Fill.f (⟨#[10]⟩ : ByteArray) 4).bind fun t119 => (if t119.toList = ([10, 0, 0, 0] : List UInt8) then ((prefix_Lead.f k (⟨#[97, 98, 99]⟩ : ByteArray) (⟨#[97, 98, 100]⟩ : ByteArray)).bind fun t120 => (some (t120 == 2))) else (some false))) else (some false)) = some r := H
        have A9 := Aside0.mk A90
        clear A90
        by_cases c10 : t118.toList = ([10, 1, 2] : List UInt8)
        · rw [if_pos c10] at H
          have c10b0 : (t118.toList == ([10, 1, 2] : List UInt8)) = true := beq_iff_eq.mpr c10
          have c10b1 : (t118.toList != ([10, 1, 2] : List UInt8)) = false := bne_eq_false_iff_eq.mpr c10
          clear c10
          replace H := Option.bind_eq_some_iff.mp H
          obtain ⟨t119, A110, H⟩ := H
          replace H : (if t119.toList = ([10, 0, 0, 0] : List UInt8) then ((prefix_Lead.f k (⟨#[97, 98, 99]⟩ : ByteArray) (⟨#[97, 98, 100]⟩ : ByteArray)).bind fun t120 => (some (t120 == 2))) else (some false)) = some r := H
          have A11 := Aside0.mk A110
          clear A110
          by_cases c12 : t119.toList = ([10, 0, 0, 0] : List UInt8)
          · rw [if_pos c12] at H
            have c12b0 : (t119.toList == ([10, 0, 0, 0] : List UInt8)) = true := beq_iff_eq.mpr c12
            have c12b1 : (t119.toList != ([10, 0, 0, 0] : List UInt8)) = false := bne_eq_false_iff_eq.mpr c12
            clear c12
            replace H := Option.bind_eq_some_iff.mp H
            obtain ⟨t120, A130, H⟩ := H
            replace H : (some (t120 == 2)) = some r := H
            have A13 := Aside0.mk A130
            clear A130
            obtain rfl := Option.some.inj H
            go_enter Try.func24, Try.ntmps24
            go_wp2_with (first | ((with_reducible refine gate_callee (f := 25) rfl ?_); refine goesL_ (some 3) rfl rfl Try.func25 (by kernel_rfl) rfl #[.string (⟨#[10, 1, 2, 0]⟩ : ByteArray), .int .i64 23] rfl (by (try simp only [List.map_toArray, List.map_cons, List.map_nil]); first | done | rfl | (simp only [List.length_drop, List.length_take]; rfl)) ?_; (with_reducible refine (prefix_Right.calls (⟨#[10, 1, 2, 0]⟩ : ByteArray) 23 true _ A1.out).mono ?_); rintro e w14 ⟨rfl, hb⟩; refine ⟨_, rfl, ?_⟩; have n0_ := Aside0.mk (below_step (by repeat (first | (with_reducible first | exact HB.out | apply below_alloc | apply pw_below_drewN | apply below_drew1) | exact HB.out)) hb); clear HB; have HB := n0_; clear n0_; (try clear hb); (try clear hb2); (try clear hk); (try clear hi)) | (go_at_call 25; (with_reducible refine (prefix_Right.calls (⟨#[10, 1, 2, 0]⟩ : ByteArray) 22 false _ A3.out).mono ?_); rintro e w15 ⟨rfl, hb⟩; have n0_ := Aside0.mk (below_step (by repeat (first | (with_reducible first | exact HB.out | apply below_alloc | apply pw_below_drewN | apply below_drew1) | exact HB.out)) hb); clear HB; have HB := n0_; clear n0_; (try clear hb); (try clear hb2); (try clear hk); (try clear hi)) | (go_at_call 27; (with_reducible refine (prefix_Least.calls 23 t117 _ A7.out).mono ?_); rintro e w16 ⟨rfl, hb⟩; have n0_ := Aside0.mk (below_step (by repeat (first | (with_reducible first | exact HB.out | apply below_alloc | apply pw_below_drewN | apply below_drew1) | exact HB.out)) hb); clear HB; have HB := n0_; clear n0_; (try clear hb); (try clear hb2); (try clear hk); (try clear hi)) | (go_at_call 29; (with_reducible refine (prefix_Cut.calls (⟨#[10, 1, 2, 0]⟩ : ByteArray) 23 t118 _ A9.out).mono ?_); rintro e w17 ⟨rfl, hb⟩; have n0_ := Aside0.mk (below_step (by repeat (first | (with_reducible first | exact HB.out | apply below_alloc | apply pw_below_drewN | apply below_drew1) | exact HB.out)) hb); clear HB; have HB := n0_; clear n0_; (try clear hb); (try clear hb2); (try clear hk); (try clear hi)) | (go_at_call 31; (with_reducible refine (prefix_Fill.calls (⟨#[10]⟩ : ByteArray) 4 t119 _ A11.out).mono ?_); rintro e w18 ⟨rfl, hb⟩; have n0_ := Aside0.mk (below_step (by repeat (first | (with_reducible first | exact HB.out | apply below_alloc | apply pw_below_drewN | apply below_drew1) | exact HB.out)) hb); clear HB; have HB := n0_; clear n0_; (try clear hb); (try clear hb2); (try clear hk); (try clear hi)) | (go_at_call 33; (with_reducible refine (prefix_Lead.calls k (⟨#[97, 98, 99]⟩ : ByteArray) (⟨#[97, 98, 100]⟩ : ByteArray) t120 _ A13.out).mono ?_); rintro e w19 ⟨rfl, hb⟩; have n0_ := Aside0.mk (below_step (by repeat (first | (with_reducible first | exact HB.out | apply below_alloc | apply pw_below_drewN | apply below_drew1) | exact HB.out)) hb); clear HB; have HB := n0_; clear n0_; (try clear hb); (try clear hb2); (try clear hk); (try clear hi)))
            go_ret
            exact ⟨by first | rfl | (simp [errW_none, errW_some] <;> rfl) | (simp [*, errW_none, errW_some] <;> rfl), by repeat (first | (with_reducible first | exact HB.out | apply below_alloc | apply pw_below_drewN | apply below_drew1) | exact HB.out)⟩
          · rw [if_neg c12] at H
            have c12b0 : (t119.toList == ([10, 0, 0, 0] : List UInt8)) = false := beq_eq_false_iff_ne.mpr c12
            have c12b1 : (t119.toList != ([10, 0, 0, 0] : List UInt8)) = true := bne_iff_ne.mpr c12
            obtain rfl := Option.some.inj H
            go_enter Try.func24, Try.ntmps24
            go_wp2_with (first | ((with_reducible refine gate_callee (f := 25) rfl ?_); refine goesL_ (some 3) rfl rfl Try.func25 (by kernel_rfl) rfl #[.string (⟨#[10, 1, 2, 0]⟩ : ByteArray), .int .i64 23] rfl (by (try simp only [List.map_toArray, List.map_cons, List.map_nil]); first | done | rfl | (simp only [List.length_drop, List.length_take]; rfl)) ?_; (with_reducible refine (prefix_Right.calls (⟨#[10, 1, 2, 0]⟩ : ByteArray) 23 true _ A1.out).mono ?_); rintro e w20 ⟨rfl, hb⟩; refine ⟨_, rfl, ?_⟩; have n0_ := Aside0.mk (below_step (by repeat (first | (with_reducible first | exact HB.out | apply below_alloc | apply pw_below_drewN | apply below_drew1) | exact HB.out)) hb); clear HB; have HB := n0_; clear n0_; (try clear hb); (try clear hb2); (try clear hk); (try clear hi)) | (go_at_call 25; (with_reducible refine (prefix_Right.calls (⟨#[10, 1, 2, 0]⟩ : ByteArray) 22 false _ A3.out).mono ?_); rintro e w21 ⟨rfl, hb⟩; have n0_ := Aside0.mk (below_step (by repeat (first | (with_reducible first | exact HB.out | apply below_alloc | apply pw_below_drewN | apply below_drew1) | exact HB.out)) hb); clear HB; have HB := n0_; clear n0_; (try clear hb); (try clear hb2); (try clear hk); (try clear hi)) | (go_at_call 27; (with_reducible refine (prefix_Least.calls 23 t117 _ A7.out).mono ?_); rintro e w22 ⟨rfl, hb⟩; have n0_ := Aside0.mk (below_step (by repeat (first | (with_reducible first | exact HB.out | apply below_alloc | apply pw_below_drewN | apply below_drew1) | exact HB.out)) hb); clear HB; have HB := n0_; clear n0_; (try clear hb); (try clear hb2); (try clear hk); (try clear hi)) | (go_at_call 29; (with_reducible refine (prefix_Cut.calls (⟨#[10, 1, 2, 0]⟩ : ByteArray) 23 t118 _ A9.out).mono ?_); rintro e w23 ⟨rfl, hb⟩; have n0_ := Aside0.mk (below_step (by repeat (first | (with_reducible first | exact HB.out | apply below_alloc | apply pw_below_drewN | apply below_drew1) | exact HB.out)) hb); clear HB; have HB := n0_; clear n0_; (try clear hb); (try clear hb2); (try clear hk); (try clear hi)) | (go_at_call 31; (with_reducible refine (prefix_Fill.calls (⟨#[10]⟩ : ByteArray) 4 t119 _ A11.out).mono ?_); rintro e w24 ⟨rfl, hb⟩; have n0_ := Aside0.mk (below_step (by repeat (first | (with_reducible first | exact HB.out | apply below_alloc | apply pw_below_drewN | apply below_drew1) | exact HB.out)) hb); clear HB; have HB := n0_; clear n0_; (try clear hb); (try clear hb2); (try clear hk); (try clear hi)))
            go_ret
            exact ⟨by first | rfl | (simp [errW_none, errW_some] <;> rfl) | (simp [*, errW_none, errW_some] <;> rfl), by repeat (first | (with_reducible first | exact HB.out | apply below_alloc | apply pw_below_drewN | apply below_drew1) | exact HB.out)⟩
        · rw [if_neg c10] at H
          have c10b0 : (t118.toList == ([10, 1, 2] : List UInt8)) = false := beq_eq_false_iff_ne.mpr c10
          have c10b1 : (t118.toList != ([10, 1, 2] : List UInt8)) = true := bne_iff_ne.mpr c10
          obtain rfl := Option.some.inj H
          go_enter Try.func24, Try.ntmps24
          go_wp2_with (first | ((with_reducible refine gate_callee (f := 25) rfl ?_); refine goesL_ (some 3) rfl rfl Try.func25 (by kernel_rfl) rfl #[.string (⟨#[10, 1, 2, 0]⟩ : ByteArray), .int .i64 23] rfl (by (try simp only [List.map_toArray, List.map_cons, List.map_nil]); first | done | rfl | (simp only [List.length_drop, List.length_take]; rfl)) ?_; (with_reducible refine (prefix_Right.calls (⟨#[10, 1, 2, 0]⟩ : ByteArray) 23 true _ A1.out).mono ?_); rintro e w25 ⟨rfl, hb⟩; refine ⟨_, rfl, ?_⟩; have n0_ := Aside0.mk (below_step (by repeat (first | (with_reducible first | exact HB.out | apply below_alloc | apply pw_below_drewN | apply below_drew1) | exact HB.out)) hb); clear HB; have HB := n0_; clear n0_; (try clear hb); (try clear hb2); (try clear hk); (try clear hi)) | (go_at_call 25; (with_reducible refine (prefix_Right.calls (⟨#[10, 1, 2, 0]⟩ : ByteArray) 22 false _ A3.out).mono ?_); rintro e w26 ⟨rfl, hb⟩; have n0_ := Aside0.mk (below_step (by repeat (first | (with_reducible first | exact HB.out | apply below_alloc | apply pw_below_drewN | apply below_drew1) | exact HB.out)) hb); clear HB; have HB := n0_; clear n0_; (try clear hb); (try clear hb2); (try clear hk); (try clear hi)) | (go_at_call 27; (with_reducible refine (prefix_Least.calls 23 t117 _ A7.out).mono ?_); rintro e w27 ⟨rfl, hb⟩; have n0_ := Aside0.mk (below_step (by repeat (first | (with_reducible first | exact HB.out | apply below_alloc | apply pw_below_drewN | apply below_drew1) | exact HB.out)) hb); clear HB; have HB := n0_; clear n0_; (try clear hb); (try clear hb2); (try clear hk); (try clear hi)) | (go_at_call 29; (with_reducible refine (prefix_Cut.calls (⟨#[10, 1, 2, 0]⟩ : ByteArray) 23 t118 _ A9.out).mono ?_); rintro e w28 ⟨rfl, hb⟩; have n0_ := Aside0.mk (below_step (by repeat (first | (with_reducible first | exact HB.out | apply below_alloc | apply pw_below_drewN | apply below_drew1) | exact HB.out)) hb); clear HB; have HB := n0_; clear n0_; (try clear hb); (try clear hb2); (try clear hk); (try clear hi)))
          go_ret
          exact ⟨by first | rfl | (simp [errW_none, errW_some] <;> rfl) | (simp [*, errW_none, errW_some] <;> rfl), by repeat (first | (with_reducible first | exact HB.out | apply below_alloc | apply pw_below_drewN | apply below_drew1) | exact HB.out)⟩
      · rw [if_neg c8] at H
        have c8b0 : (t117 == 3) = false := beq_eq_false_iff_ne.mpr c8
        have c8b1 : (t117 != 3) = true := bne_iff_ne.mpr c8
        obtain rfl := Option.some.inj H
        go_enter Try.func24, Try.ntmps24
        go_wp2_with (first | ((with_reducible refine gate_callee (f := 25) rfl ?_); refine goesL_ (some 3) rfl rfl Try.func25 (by kernel_rfl) rfl #[.string (⟨#[10, 1, 2, 0]⟩ : ByteArray), .int .i64 23] rfl (by (try simp only [List.map_toArray, List.map_cons, List.map_nil]); first | done | rfl | (simp only [List.length_drop, List.length_take]; rfl)) ?_; (with_reducible refine (prefix_Right.calls (⟨#[10, 1, 2, 0]⟩ : ByteArray) 23 true _ A1.out).mono ?_); rintro e w29 ⟨rfl, hb⟩; refine ⟨_, rfl, ?_⟩; have n0_ := Aside0.mk (below_step (by repeat (first | (with_reducible first | exact HB.out | apply below_alloc | apply pw_below_drewN | apply below_drew1) | exact HB.out)) hb); clear HB; have HB := n0_; clear n0_; (try clear hb); (try clear hb2); (try clear hk); (try clear hi)) | (go_at_call 25; (with_reducible refine (prefix_Right.calls (⟨#[10, 1, 2, 0]⟩ : ByteArray) 22 false _ A3.out).mono ?_); rintro e w30 ⟨rfl, hb⟩; have n0_ := Aside0.mk (below_step (by repeat (first | (with_reducible first | exact HB.out | apply below_alloc | apply pw_below_drewN | apply below_drew1) | exact HB.out)) hb); clear HB; have HB := n0_; clear n0_; (try clear hb); (try clear hb2); (try clear hk); (try clear hi)) | (go_at_call 27; (with_reducible refine (prefix_Least.calls 23 t117 _ A7.out).mono ?_); rintro e w31 ⟨rfl, hb⟩; have n0_ := Aside0.mk (below_step (by repeat (first | (with_reducible first | exact HB.out | apply below_alloc | apply pw_below_drewN | apply below_drew1) | exact HB.out)) hb); clear HB; have HB := n0_; clear n0_; (try clear hb); (try clear hb2); (try clear hk); (try clear hi)))
        go_ret
        exact ⟨by first | rfl | (simp [errW_none, errW_some] <;> rfl) | (simp [*, errW_none, errW_some] <;> rfl), by repeat (first | (with_reducible first | exact HB.out | apply below_alloc | apply pw_below_drewN | apply below_drew1) | exact HB.out)⟩
  · replace c2 := Bool.eq_false_iff.mpr c2
    subst c2
    have H1 : (some false) = some r := by rw [if_neg (show ¬ (false = true) by decide)] at H; exact H
    clear H
    have H := H1
    clear H1
    obtain rfl := Option.some.inj H
    go_enter Try.func24, Try.ntmps24
    go_wp2_with (first | ((with_reducible refine gate_callee (f := 25) rfl ?_); refine goesL_ (some 3) rfl rfl Try.func25 (by kernel_rfl) rfl #[.string (⟨#[10, 1, 2, 0]⟩ : ByteArray), .int .i64 23] rfl (by (try simp only [List.map_toArray, List.map_cons, List.map_nil]); first | done | rfl | (simp only [List.length_drop, List.length_take]; rfl)) ?_; (with_reducible refine (prefix_Right.calls (⟨#[10, 1, 2, 0]⟩ : ByteArray) 23 false _ A1.out).mono ?_); rintro e w32 ⟨rfl, hb⟩; refine ⟨_, rfl, ?_⟩; have n0_ := Aside0.mk (below_step (by repeat (first | (with_reducible first | exact HB.out | apply below_alloc | apply pw_below_drewN | apply below_drew1) | exact HB.out)) hb); clear HB; have HB := n0_; clear n0_; (try clear hb); (try clear hb2); (try clear hk); (try clear hi)))
    go_ret
    exact ⟨by first | rfl | (simp [errW_none, errW_some] <;> rfl) | (simp [*, errW_none, errW_some] <;> rfl), by repeat (first | (with_reducible first | exact HB.out | apply below_alloc | apply pw_below_drewN | apply below_drew1) | exact HB.out)⟩

/-! ### roadbooklaw04_PrefixBack: function 6 -/
def roadbooklaw04_PrefixBack.j0 : Nat → ByteArray → Int → Bool → Option (Bool)
  | 0, _, _, _ => none
  | k + 1, x0, x1, x15 => if x15 = true then ((roadbooklaw04_awake.f k).bind fun t121 => (if t121 = true then ((prefix_Right.f x0 (wrap64 (x1))).bind fun t122 => (some (!t122))) else (some false))) else (if (wrap64 ((wrap64 (8 * (x0.size : Int))) + 1)) = 0 then (none) else ((roadbookref03_Keep.f k x0 (Int.tmod (wrap64 (x1)) (wrap64 ((wrap64 (8 * (x0.size : Int))) + 1)))).bind fun t123 => ((prefix_Cut.f x0 (Int.tmod (wrap64 (x1)) (wrap64 ((wrap64 (8 * (x0.size : Int))) + 1)))).bind fun t124 => ((roadbooklaw04_awake.f k).bind fun t125 => (if t125 = true then ((prefix_Right.f t123 (Int.tmod (wrap64 (x1)) (wrap64 ((wrap64 (8 * (x0.size : Int))) + 1)))).bind fun t126 => (if t126 = true then ((prefix_Cut.f t123 (Int.tmod (wrap64 (x1)) (wrap64 ((wrap64 (8 * (x0.size : Int))) + 1)))).bind fun t127 => (if t127.toList = t124.toList then ((prefix_Fill.f t124 (x0.size : Int)).bind fun t128 => (if t128.toList = t123.toList then ((prefix_Least.f (Int.tmod (wrap64 (x1)) (wrap64 ((wrap64 (8 * (x0.size : Int))) + 1)))).bind fun t129 => (some ((t124.size : Int) == t129))) else (some false))) else (some false))) else (some false))) else (some false))))))
def roadbooklaw04_PrefixBack.f (k : Nat) (a0 : ByteArray) (a1 : Int) : Option (Bool) := if (a0.size : Int) = 4 then (roadbooklaw04_PrefixBack.j0 k a0 a1 false) else (roadbooklaw04_PrefixBack.j0 k a0 a1 ((a0.size : Int) != 16))
theorem roadbooklaw04_PrefixBack.mono_l : ∀ k, (∀ y0 y1 y2, LeO (roadbooklaw04_PrefixBack.j0 k y0 y1 y2) (roadbooklaw04_PrefixBack.j0 (k + 1) y0 y1 y2))
  | 0 => fun _ _ _ r h => by simp [roadbooklaw04_PrefixBack.j0] at h
  | k + 1 => by
    have ih0 := roadbooklaw04_PrefixBack.mono_l k
    · intro y0 y1 y2
      unfold roadbooklaw04_PrefixBack.j0
      repeat' first
      | (with_reducible exact ih0 _ _ _)
      | (with_reducible exact roadbooklaw04_awake.mono _)
      | (with_reducible exact roadbookref03_Keep.mono _ _ _)
      | (with_reducible exact LeO.refl _)
      | (with_reducible exact LeO.none _)
      | (with_reducible refine LeO.ite ?_ ?_)
      | (with_reducible refine LeO.bind ?_ (fun _ => ?_))
      | exact ih0 _ _ _
      | exact roadbooklaw04_awake.mono _
      | exact roadbookref03_Keep.mono _ _ _
      | exact LeO.none _
      | refine LeO.ite ?_ ?_
      | refine LeO.bind ?_ (fun _ => ?_)
theorem roadbooklaw04_PrefixBack.mono : ∀ a0 a1 k, LeO (roadbooklaw04_PrefixBack.f k a0 a1) (roadbooklaw04_PrefixBack.f (k + 1) a0 a1) := by
  intro a0 a1 k
  have ih0 := roadbooklaw04_PrefixBack.mono_l k
  unfold roadbooklaw04_PrefixBack.f
  repeat' first
      | (with_reducible exact ih0 _ _ _)
      | (with_reducible exact roadbooklaw04_awake.mono _)
      | (with_reducible exact roadbookref03_Keep.mono _ _ _)
      | (with_reducible exact LeO.refl _)
      | (with_reducible exact LeO.none _)
      | (with_reducible refine LeO.ite ?_ ?_)
      | (with_reducible refine LeO.bind ?_ (fun _ => ?_))
      | exact ih0 _ _ _
      | exact roadbooklaw04_awake.mono _
      | exact roadbookref03_Keep.mono _ _ _
      | exact LeO.none _
      | refine LeO.ite ?_ ?_
      | refine LeO.bind ?_ (fun _ => ?_)
set_option maxHeartbeats 8000000 in
set_option maxRecDepth 100000 in
theorem roadbooklaw04_PrefixBack.calls (k : Nat) (a0 : ByteArray) (a1 : Int) (r : Bool) (w : World) (h : roadbooklaw04_PrefixBack.f k a0 a1 = some r) :
    Calls Try.prog 6 #[.string a0, .int .u8 a1] w fun e w' => e = .returned (.bool r) ∧ Below w.heap.size w w' := by
  have HB := Aside0.mk (Below.refl w.heap.size w)
  have H : (if (a0.size : Int) = 4 then (roadbooklaw04_PrefixBack.j0 k a0 a1 false) else (roadbooklaw04_PrefixBack.j0 k a0 a1 ((a0.size : Int) != 16))) = some r := h
  clear h
  have HC3 := Aside0.mk H
  clear H
  go_enter Try.func6, Try.ntmps6
  go_upto_region 1 with (fail)
  go_cut [15] (fun v15 wc => ∃ (kq : Nat) (x15_2 : Bool), v15 = .bool x15_2 ∧ Aside0 (roadbooklaw04_PrefixBack.j0 kq a0 a1 x15_2 = some r) ∧ Aside0 (kq ≤ k) ∧ Aside0 (Below w.heap.size w wc))
  case first =>
    have H := HC3.out
    clear HC3
    by_cases c4 : (a0.size : Int) = 4
    · rw [if_pos c4] at H
      have c4b0 : ((a0.size : Int) == 4) = true := beq_iff_eq.mpr c4
      have c4b1 : ((a0.size : Int) != 4) = false := bne_eq_false_iff_eq.mpr c4
      clear c4
      (first | rw [c4b0] | (simp only [i64_w, i32_w]; rw [c4b0]) | skip)
      have H' := Aside0.mk H
      clear H
      go_wp2
      go_meet
      case rel => exact ⟨_, (false), (by first | rfl | (simp; done) | (simp [*]; done)), H', ⟨by first | omega | exact Nat.le_refl _⟩, ⟨by repeat (first | (with_reducible first | exact HB.out | apply below_alloc | apply pw_below_drewN | apply below_drew1) | exact HB.out)⟩⟩
    · rw [if_neg c4] at H
      have c4b0 : ((a0.size : Int) == 4) = false := beq_eq_false_iff_ne.mpr c4
      have c4b1 : ((a0.size : Int) != 4) = true := bne_iff_ne.mpr c4
      (first | rw [c4b0] | (simp only [i64_w, i32_w]; rw [c4b0]) | skip)
      have H' := Aside0.mk H
      clear H
      go_wp2
      go_meet
      case rel => exact ⟨_, (((a0.size : Int) != 16)), (by first | rfl | (simp; done) | (simp [*]; done)), H', ⟨by first | omega | exact Nat.le_refl _⟩, ⟨by repeat (first | (with_reducible first | exact HB.out | apply below_alloc | apply pw_below_drewN | apply below_drew1) | exact HB.out)⟩⟩
  case rest =>
    clear HC3
    try clear p2
    try clear c4
    try clear c4b0
    try clear c4b1
    obtain ⟨kq, x15_2, rfl, HA, HJ2, HB⟩ := hcut
    cases kq with
    | zero => exact absurd HA.out (by simp [roadbooklaw04_PrefixBack.j0])
    | succ kj2 =>
      have H := HA.out
      clear HA
      simp only [roadbooklaw04_PrefixBack.j0] at H
      by_cases c5 : x15_2 = true
      · subst c5
        have H1 : ((roadbooklaw04_awake.f kj2).bind fun t121 => (if t121 = true then ((prefix_Right.f a0 (wrap64 (a1))).bind fun t122 => (some (!t122))) else (some false))) = some r := by rw [if_pos rfl] at H; exact H
        clear H
        have H := H1
        clear H1
        replace H := Option.bind_eq_some_iff.mp H
        obtain ⟨t121, A60, H⟩ := H
        replace H : (if t121 = true then ((prefix_Right.f a0 (wrap64 (a1))).bind fun t122 => (some (!t122))) else (some false)) = some r := H
        have A6 := Aside0.mk A60
        clear A60
        by_cases c7 : t121 = true
        · subst c7
          have H1 : ((prefix_Right.f a0 (wrap64 (a1))).bind fun t122 => (some (!t122))) = some r := by rw [if_pos rfl] at H; exact H
          clear H
          have H := H1
          clear H1
          replace H := Option.bind_eq_some_iff.mp H
          obtain ⟨t122, A80, H⟩ := H
          replace H : (some (!t122)) = some r := H
          have A8 := Aside0.mk A80
          clear A80
          obtain rfl := Option.some.inj H
          go_wp2_with (first | ((with_reducible refine gate_callee (f := 24) rfl ?_); refine goesL_ (some 16) rfl rfl Try.func24 (by kernel_rfl) rfl #[] rfl (by (try simp only [List.map_toArray, List.map_cons, List.map_nil]); first | done | rfl | (simp only [List.length_drop, List.length_take]; rfl)) ?_; (with_reducible refine (roadbooklaw04_awake.calls kj2  true _ A6.out).mono ?_); rintro e w9 ⟨rfl, hb⟩; refine ⟨_, rfl, ?_⟩; have n0_ := Aside0.mk (below_step (by repeat (first | (with_reducible first | exact HB.out | apply below_alloc | apply pw_below_drewN | apply below_drew1) | exact HB.out)) hb); clear HB; have HB := n0_; clear n0_; (try clear hb); (try clear hb2); (try clear hk); (try clear hi)) | (go_at_call 25; (with_reducible refine (prefix_Right.calls a0 (wrap64 (a1)) t122 _ A8.out).mono ?_); rintro e w10 ⟨rfl, hb⟩; have n0_ := Aside0.mk (below_step (by repeat (first | (with_reducible first | exact HB.out | apply below_alloc | apply pw_below_drewN | apply below_drew1) | exact HB.out)) hb); clear HB; have HB := n0_; clear n0_; (try clear hb); (try clear hb2); (try clear hk); (try clear hi)))
          go_ret
          exact ⟨by first | rfl | (simp [errW_none, errW_some] <;> rfl) | (simp [*, errW_none, errW_some] <;> rfl), by repeat (first | (with_reducible first | exact HB.out | apply below_alloc | apply pw_below_drewN | apply below_drew1) | exact HB.out)⟩
        · replace c7 := Bool.eq_false_iff.mpr c7
          subst c7
          have H1 : (some false) = some r := by rw [if_neg (show ¬ (false = true) by decide)] at H; exact H
          clear H
          have H := H1
          clear H1
          obtain rfl := Option.some.inj H
          go_wp2_with (first | ((with_reducible refine gate_callee (f := 24) rfl ?_); refine goesL_ (some 16) rfl rfl Try.func24 (by kernel_rfl) rfl #[] rfl (by (try simp only [List.map_toArray, List.map_cons, List.map_nil]); first | done | rfl | (simp only [List.length_drop, List.length_take]; rfl)) ?_; (with_reducible refine (roadbooklaw04_awake.calls kj2  false _ A6.out).mono ?_); rintro e w11 ⟨rfl, hb⟩; refine ⟨_, rfl, ?_⟩; have n0_ := Aside0.mk (below_step (by repeat (first | (with_reducible first | exact HB.out | apply below_alloc | apply pw_below_drewN | apply below_drew1) | exact HB.out)) hb); clear HB; have HB := n0_; clear n0_; (try clear hb); (try clear hb2); (try clear hk); (try clear hi)))
          go_ret
          exact ⟨by first | rfl | (simp [errW_none, errW_some] <;> rfl) | (simp [*, errW_none, errW_some] <;> rfl), by repeat (first | (with_reducible first | exact HB.out | apply below_alloc | apply pw_below_drewN | apply below_drew1) | exact HB.out)⟩
      · replace c5 := Bool.eq_false_iff.mpr c5
        subst c5
        have H1 : (if (wrap64 ((wrap64 (8 * (a0.size : Int))) + 1)) = 0 then (none) else ((roadbookref03_Keep.f kj2 a0 (Int.tmod (wrap64 (a1)) (wrap64 ((wrap64 (8 * (a0.size : Int))) + 1)))).bind fun t123 => ((prefix_Cut.f a0 (Int.tmod (wrap64 (a1)) (wrap64 ((wrap64 (8 * (a0.size : Int))) + 1)))).bind fun t124 => ((roadbooklaw04_awake.f kj2).bind fun t125 => (if t125 = true then ((prefix_Right.f t123 (Int.tmod (wrap64 (a1)) (wrap64 ((wrap64 (8 * (a0.size : Int))) + 1)))).bind fun t126 => (if t126 = true then ((prefix_Cut.f t123 (Int.tmod (wrap64 (a1)) (wrap64 ((wrap64 (8 * (a0.size : Int))) + 1)))).bind fun t127 => (if t127.toList = t124.toList then ((prefix_Fill.f t124 (a0.size : Int)).bind fun t128 => (if t128.toList = t123.toList then ((prefix_Least.f (Int.tmod (wrap64 (a1)) (wrap64 ((wrap64 (8 * (a0.size : Int))) + 1)))).bind fun t129 => (some ((t124.size : Int) == t129))) else (some false))) else (some false))) else (some false))) else (some false)))))) = some r := by rw [if_neg (show ¬ (false = true) by decide)] at H; exact H
        clear H
        have H := H1
        clear H1
        by_cases c12 : (wrap64 ((wrap64 (8 * (a0.size : Int))) + 1)) = 0
        · rw [if_pos c12] at H
          exact absurd H (by simp)
        · rw [if_neg c12] at H
          have c12b0 : ((wrap64 ((wrap64 (8 * (a0.size : Int))) + 1)) == 0) = false := beq_eq_false_iff_ne.mpr c12
          have c12b1 : ((wrap64 ((wrap64 (8 * (a0.size : Int))) + 1)) != 0) = true := bne_iff_ne.mpr c12
          replace H := Option.bind_eq_some_iff.mp H
          obtain ⟨t123, A130, H⟩ := H
          replace H : ((prefix_Cut.f a0 (Int.tmod (wrap64 (a1)) (wrap64 ((wrap64 (8 * (a0.size : Int))) + 1)))).bind fun t124 => ((roadbooklaw04_awake.f kj2).bind fun t125 => (if t125 = true then ((prefix_Right.f t123 (Int.tmod (wrap64 (a1)) (wrap64 ((wrap64 (8 * (a0.size : Int))) + 1)))).bind fun t126 => (if t126 = true then ((prefix_Cut.f t123 (Int.tmod (wrap64 (a1)) (wrap64 ((wrap64 (8 * (a0.size : Int))) + 1)))).bind fun t127 => (if t127.toList = t124.toList then ((prefix_Fill.f t124 (a0.size : Int)).bind fun t128 => (if t128.toList = t123.toList then ((prefix_Least.f (Int.tmod (wrap64 (a1)) (wrap64 ((wrap64 (8 * (a0.size : Int))) + 1)))).bind fun t129 => (some ((t124.size : Int) == t129))) else (some false))) else (some false))) else (some false))) else (some false)))) = some r := H
          have A13 := Aside0.mk A130
          clear A130
          replace H := Option.bind_eq_some_iff.mp H
          obtain ⟨t124, A140, H⟩ := H
          replace H : ((roadbooklaw04_awake.f kj2).bind fun t125 => (if t125 = true then ((prefix_Right.f t123 (Int.tmod (wrap64 (a1)) (wrap64 ((wrap64 (8 * (a0.size : Int))) + 1)))).bind fun t126 => (if t126 = true then ((prefix_Cut.f t123 (Int.tmod (wrap64 (a1)) (wrap64 ((wrap64 (8 * (a0.size : Int))) + 1)))).bind fun t127 => (if t127.toList = t124.toList then ((prefix_Fill.f t124 (a0.size : Int)).bind fun t128 => (if t128.toList = t123.toList then ((prefix_Least.f (Int.tmod (wrap64 (a1)) (wrap64 ((wrap64 (8 * (a0.size : Int))) + 1)))).bind fun t129 => (some ((t124.size : Int) == t129))) else (some false))) else (some false))) else (some false))) else (some false))) = some r := H
          have A14 := Aside0.mk A140
          clear A140
          replace H := Option.bind_eq_some_iff.mp H
          obtain ⟨t125, A150, H⟩ := H
          replace H : (if t125 = true then ((prefix_Right.f t123 (Int.tmod (wrap64 (a1)) (wrap64 ((wrap64 (8 * (a0.size : Int))) + 1)))).bind fun t126 => (if t126 = true then ((prefix_Cut.f t123 (Int.tmod (wrap64 (a1)) (wrap64 ((wrap64 (8 * (a0.size : Int))) + 1)))).bind fun t127 => (if t127.toList = t124.toList then ((prefix_Fill.f t124 (a0.size : Int)).bind fun t128 => (if t128.toList = t123.toList then ((prefix_Least.f (Int.tmod (wrap64 (a1)) (wrap64 ((wrap64 (8 * (a0.size : Int))) + 1)))).bind fun t129 => (some ((t124.size : Int) == t129))) else (some false))) else (some false))) else (some false))) else (some false)) = some r := H
          have A15 := Aside0.mk A150
          clear A150
          by_cases c16 : t125 = true
          · subst c16
            have H1 : ((prefix_Right.f t123 (Int.tmod (wrap64 (a1)) (wrap64 ((wrap64 (8 * (a0.size : Int))) + 1)))).bind fun t126 => (if t126 = true then ((prefix_Cut.f t123 (Int.tmod (wrap64 (a1)) (wrap64 ((wrap64 (8 * (a0.size : Int))) + 1)))).bind fun t127 => (if t127.toList = t124.toList then ((prefix_Fill.f t124 (a0.size : Int)).bind fun t128 => (if t128.toList = t123.toList then ((prefix_Least.f (Int.tmod (wrap64 (a1)) (wrap64 ((wrap64 (8 * (a0.size : Int))) + 1)))).bind fun t129 => (some ((t124.size : Int) == t129))) else (some false))) else (some false))) else (some false))) = some r := by rw [if_pos rfl] at H; exact H
            clear H
            have H := H1
            clear H1
            replace H := Option.bind_eq_some_iff.mp H
            obtain ⟨t126, A170, H⟩ := H
            replace H : (if t126 = true then ((prefix_Cut.f t123 (Int.tmod (wrap64 (a1)) (wrap64 ((wrap64 (8 * (a0.size : Int))) + 1)))).bind fun t127 => (if t127.toList = t124.toList then ((prefix_Fill.f t124 (a0.size : Int)).bind fun t128 => (if t128.toList = t123.toList then ((prefix_Least.f (Int.tmod (wrap64 (a1)) (wrap64 ((wrap64 (8 * (a0.size : Int))) + 1)))).bind fun t129 => (some ((t124.size : Int) == t129))) else (some false))) else (some false))) else (some false)) = some r := H
            have A17 := Aside0.mk A170
            clear A170
            by_cases c18 : t126 = true
            · subst c18
              have H1 : ((prefix_Cut.f t123 (Int.tmod (wrap64 (a1)) (wrap64 ((wrap64 (8 * (a0.size : Int))) + 1)))).bind fun t127 => (if t127.toList = t124.toList then ((prefix_Fill.f t124 (a0.size : Int)).bind fun t128 => (if t128.toList = t123.toList then ((prefix_Least.f (Int.tmod (wrap64 (a1)) (wrap64 ((wrap64 (8 * (a0.size : Int))) + 1)))).bind fun t129 => (some ((t124.size : Int) == t129))) else (some false))) else (some false))) = some r := by rw [if_pos rfl] at H; exact H
              clear H
              have H := H1
              clear H1
              replace H := Option.bind_eq_some_iff.mp H
              obtain ⟨t127, A190, H⟩ := H
              replace H : (if t127.toList = t124.toList then ((prefix_Fill.f t124 (a0.size : Int)).bind fun t128 => (if t128.toList = t123.toList then ((prefix_Least.f (Int.tmod (wrap64 (a1)) (wrap64 ((wrap64 (8 * (a0.size : Int))) + 1)))).bind fun t129 => (some ((t124.size : Int) == t129))) else (some false))) else (some false)) = some r := H
              have A19 := Aside0.mk A190
              clear A190
              by_cases c20 : t127.toList = t124.toList
              · rw [if_pos c20] at H
                have c20b0 : (t127.toList == t124.toList) = true := beq_iff_eq.mpr c20
                have c20b1 : (t127.toList != t124.toList) = false := bne_eq_false_iff_eq.mpr c20
                clear c20
                replace H := Option.bind_eq_some_iff.mp H
                obtain ⟨t128, A210, H⟩ := H
                replace H : (if t128.toList = t123.toList then ((prefix_Least.f (Int.tmod (wrap64 (a1)) (wrap64 ((wrap64 (8 * (a0.size : Int))) + 1)))).bind fun t129 => (some ((t124.size : Int) == t129))) else (some false)) = some r := H
                have A21 := Aside0.mk A210
                clear A210
                by_cases c22 : t128.toList = t123.toList
                · rw [if_pos c22] at H
                  have c22b0 : (t128.toList == t123.toList) = true := beq_iff_eq.mpr c22
                  have c22b1 : (t128.toList != t123.toList) = false := bne_eq_false_iff_eq.mpr c22
                  clear c22
                  replace H := Option.bind_eq_some_iff.mp H
                  obtain ⟨t129, A230, H⟩ := H
                  replace H : (some ((t124.size : Int) == t129)) = some r := H
                  have A23 := Aside0.mk A230
                  clear A230
                  obtain rfl := Option.some.inj H
                  go_wp2_with (first | ((with_reducible refine gate_callee (f := 19) rfl ?_); refine goesL_ (some 33) rfl rfl Try.func19 (by kernel_rfl) rfl #[.string a0, .int .i64 (Int.tmod (wrap64 (a1)) (wrap64 ((wrap64 (8 * (a0.size : Int))) + 1)))] rfl (by (try simp only [List.map_toArray, List.map_cons, List.map_nil]); first | done | rfl | (simp only [List.length_drop, List.length_take]; rfl)) ?_; (with_reducible refine (roadbookref03_Keep.calls kj2 a0 (Int.tmod (wrap64 (a1)) (wrap64 ((wrap64 (8 * (a0.size : Int))) + 1))) t123 _ A13.out).mono ?_); rintro e w24 ⟨rfl, hb⟩; refine ⟨_, rfl, ?_⟩; have n0_ := Aside0.mk (below_step (by repeat (first | (with_reducible first | exact HB.out | apply below_alloc | apply pw_below_drewN | apply below_drew1) | exact HB.out)) hb); clear HB; have HB := n0_; clear n0_; (try clear hb); (try clear hb2); (try clear hk); (try clear hi)) | ((with_reducible refine gate_callee (f := 29) rfl ?_); refine goesL_ (some 36) rfl rfl Try.func29 (by kernel_rfl) rfl #[.string a0, .int .i64 (Int.tmod (wrap64 (a1)) (wrap64 ((wrap64 (8 * (a0.size : Int))) + 1)))] rfl (by (try simp only [List.map_toArray, List.map_cons, List.map_nil]); first | done | rfl | (simp only [List.length_drop, List.length_take]; rfl)) ?_; (with_reducible refine (prefix_Cut.calls a0 (Int.tmod (wrap64 (a1)) (wrap64 ((wrap64 (8 * (a0.size : Int))) + 1))) t124 _ A14.out).mono ?_); rintro e w25 ⟨rfl, hb⟩; refine ⟨_, rfl, ?_⟩; have n0_ := Aside0.mk (below_step (by repeat (first | (with_reducible first | exact HB.out | apply below_alloc | apply pw_below_drewN | apply below_drew1) | exact HB.out)) hb); clear HB; have HB := n0_; clear n0_; (try clear hb); (try clear hb2); (try clear hk); (try clear hi)) | ((with_reducible refine gate_callee (f := 24) rfl ?_); refine goesL_ (some 37) rfl rfl Try.func24 (by kernel_rfl) rfl #[] rfl (by (try simp only [List.map_toArray, List.map_cons, List.map_nil]); first | done | rfl | (simp only [List.length_drop, List.length_take]; rfl)) ?_; (with_reducible refine (roadbooklaw04_awake.calls kj2  true _ A15.out).mono ?_); rintro e w26 ⟨rfl, hb⟩; refine ⟨_, rfl, ?_⟩; have n0_ := Aside0.mk (below_step (by repeat (first | (with_reducible first | exact HB.out | apply below_alloc | apply pw_below_drewN | apply below_drew1) | exact HB.out)) hb); clear HB; have HB := n0_; clear n0_; (try clear hb); (try clear hb2); (try clear hk); (try clear hi)) | (go_at_call 25; (with_reducible refine (prefix_Right.calls t123 (Int.tmod (wrap64 (a1)) (wrap64 ((wrap64 (8 * (a0.size : Int))) + 1))) true _ A17.out).mono ?_); rintro e w27 ⟨rfl, hb⟩; have n0_ := Aside0.mk (below_step (by repeat (first | (with_reducible first | exact HB.out | apply below_alloc | apply pw_below_drewN | apply below_drew1) | exact HB.out)) hb); clear HB; have HB := n0_; clear n0_; (try clear hb); (try clear hb2); (try clear hk); (try clear hi)) | (go_at_call 29; (with_reducible refine (prefix_Cut.calls t123 (Int.tmod (wrap64 (a1)) (wrap64 ((wrap64 (8 * (a0.size : Int))) + 1))) t127 _ A19.out).mono ?_); rintro e w28 ⟨rfl, hb⟩; have n0_ := Aside0.mk (below_step (by repeat (first | (with_reducible first | exact HB.out | apply below_alloc | apply pw_below_drewN | apply below_drew1) | exact HB.out)) hb); clear HB; have HB := n0_; clear n0_; (try clear hb); (try clear hb2); (try clear hk); (try clear hi)) | (go_at_call 31; (with_reducible refine (prefix_Fill.calls t124 (a0.size : Int) t128 _ A21.out).mono ?_); rintro e w29 ⟨rfl, hb⟩; have n0_ := Aside0.mk (below_step (by repeat (first | (with_reducible first | exact HB.out | apply below_alloc | apply pw_below_drewN | apply below_drew1) | exact HB.out)) hb); clear HB; have HB := n0_; clear n0_; (try clear hb); (try clear hb2); (try clear hk); (try clear hi)) | (go_at_call 27; (with_reducible refine (prefix_Least.calls (Int.tmod (wrap64 (a1)) (wrap64 ((wrap64 (8 * (a0.size : Int))) + 1))) t129 _ A23.out).mono ?_); rintro e w30 ⟨rfl, hb⟩; have n0_ := Aside0.mk (below_step (by repeat (first | (with_reducible first | exact HB.out | apply below_alloc | apply pw_below_drewN | apply below_drew1) | exact HB.out)) hb); clear HB; have HB := n0_; clear n0_; (try clear hb); (try clear hb2); (try clear hk); (try clear hi)))
                  go_ret
                  exact ⟨by first | rfl | (simp [errW_none, errW_some] <;> rfl) | (simp [*, errW_none, errW_some] <;> rfl), by repeat (first | (with_reducible first | exact HB.out | apply below_alloc | apply pw_below_drewN | apply below_drew1) | exact HB.out)⟩
                · rw [if_neg c22] at H
                  have c22b0 : (t128.toList == t123.toList) = false := beq_eq_false_iff_ne.mpr c22
                  have c22b1 : (t128.toList != t123.toList) = true := bne_iff_ne.mpr c22
                  obtain rfl := Option.some.inj H
                  go_wp2_with (first | ((with_reducible refine gate_callee (f := 19) rfl ?_); refine goesL_ (some 33) rfl rfl Try.func19 (by kernel_rfl) rfl #[.string a0, .int .i64 (Int.tmod (wrap64 (a1)) (wrap64 ((wrap64 (8 * (a0.size : Int))) + 1)))] rfl (by (try simp only [List.map_toArray, List.map_cons, List.map_nil]); first | done | rfl | (simp only [List.length_drop, List.length_take]; rfl)) ?_; (with_reducible refine (roadbookref03_Keep.calls kj2 a0 (Int.tmod (wrap64 (a1)) (wrap64 ((wrap64 (8 * (a0.size : Int))) + 1))) t123 _ A13.out).mono ?_); rintro e w31 ⟨rfl, hb⟩; refine ⟨_, rfl, ?_⟩; have n0_ := Aside0.mk (below_step (by repeat (first | (with_reducible first | exact HB.out | apply below_alloc | apply pw_below_drewN | apply below_drew1) | exact HB.out)) hb); clear HB; have HB := n0_; clear n0_; (try clear hb); (try clear hb2); (try clear hk); (try clear hi)) | ((with_reducible refine gate_callee (f := 29) rfl ?_); refine goesL_ (some 36) rfl rfl Try.func29 (by kernel_rfl) rfl #[.string a0, .int .i64 (Int.tmod (wrap64 (a1)) (wrap64 ((wrap64 (8 * (a0.size : Int))) + 1)))] rfl (by (try simp only [List.map_toArray, List.map_cons, List.map_nil]); first | done | rfl | (simp only [List.length_drop, List.length_take]; rfl)) ?_; (with_reducible refine (prefix_Cut.calls a0 (Int.tmod (wrap64 (a1)) (wrap64 ((wrap64 (8 * (a0.size : Int))) + 1))) t124 _ A14.out).mono ?_); rintro e w32 ⟨rfl, hb⟩; refine ⟨_, rfl, ?_⟩; have n0_ := Aside0.mk (below_step (by repeat (first | (with_reducible first | exact HB.out | apply below_alloc | apply pw_below_drewN | apply below_drew1) | exact HB.out)) hb); clear HB; have HB := n0_; clear n0_; (try clear hb); (try clear hb2); (try clear hk); (try clear hi)) | ((with_reducible refine gate_callee (f := 24) rfl ?_); refine goesL_ (some 37) rfl rfl Try.func24 (by kernel_rfl) rfl #[] rfl (by (try simp only [List.map_toArray, List.map_cons, List.map_nil]); first | done | rfl | (simp only [List.length_drop, List.length_take]; rfl)) ?_; (with_reducible refine (roadbooklaw04_awake.calls kj2  true _ A15.out).mono ?_); rintro e w33 ⟨rfl, hb⟩; refine ⟨_, rfl, ?_⟩; have n0_ := Aside0.mk (below_step (by repeat (first | (with_reducible first | exact HB.out | apply below_alloc | apply pw_below_drewN | apply below_drew1) | exact HB.out)) hb); clear HB; have HB := n0_; clear n0_; (try clear hb); (try clear hb2); (try clear hk); (try clear hi)) | (go_at_call 25; (with_reducible refine (prefix_Right.calls t123 (Int.tmod (wrap64 (a1)) (wrap64 ((wrap64 (8 * (a0.size : Int))) + 1))) true _ A17.out).mono ?_); rintro e w34 ⟨rfl, hb⟩; have n0_ := Aside0.mk (below_step (by repeat (first | (with_reducible first | exact HB.out | apply below_alloc | apply pw_below_drewN | apply below_drew1) | exact HB.out)) hb); clear HB; have HB := n0_; clear n0_; (try clear hb); (try clear hb2); (try clear hk); (try clear hi)) | (go_at_call 29; (with_reducible refine (prefix_Cut.calls t123 (Int.tmod (wrap64 (a1)) (wrap64 ((wrap64 (8 * (a0.size : Int))) + 1))) t127 _ A19.out).mono ?_); rintro e w35 ⟨rfl, hb⟩; have n0_ := Aside0.mk (below_step (by repeat (first | (with_reducible first | exact HB.out | apply below_alloc | apply pw_below_drewN | apply below_drew1) | exact HB.out)) hb); clear HB; have HB := n0_; clear n0_; (try clear hb); (try clear hb2); (try clear hk); (try clear hi)) | (go_at_call 31; (with_reducible refine (prefix_Fill.calls t124 (a0.size : Int) t128 _ A21.out).mono ?_); rintro e w36 ⟨rfl, hb⟩; have n0_ := Aside0.mk (below_step (by repeat (first | (with_reducible first | exact HB.out | apply below_alloc | apply pw_below_drewN | apply below_drew1) | exact HB.out)) hb); clear HB; have HB := n0_; clear n0_; (try clear hb); (try clear hb2); (try clear hk); (try clear hi)))
                  go_ret
                  exact ⟨by first | rfl | (simp [errW_none, errW_some] <;> rfl) | (simp [*, errW_none, errW_some] <;> rfl), by repeat (first | (with_reducible first | exact HB.out | apply below_alloc | apply pw_below_drewN | apply below_drew1) | exact HB.out)⟩
              · rw [if_neg c20] at H
                have c20b0 : (t127.toList == t124.toList) = false := beq_eq_false_iff_ne.mpr c20
                have c20b1 : (t127.toList != t124.toList) = true := bne_iff_ne.mpr c20
                obtain rfl := Option.some.inj H
                go_wp2_with (first | ((with_reducible refine gate_callee (f := 19) rfl ?_); refine goesL_ (some 33) rfl rfl Try.func19 (by kernel_rfl) rfl #[.string a0, .int .i64 (Int.tmod (wrap64 (a1)) (wrap64 ((wrap64 (8 * (a0.size : Int))) + 1)))] rfl (by (try simp only [List.map_toArray, List.map_cons, List.map_nil]); first | done | rfl | (simp only [List.length_drop, List.length_take]; rfl)) ?_; (with_reducible refine (roadbookref03_Keep.calls kj2 a0 (Int.tmod (wrap64 (a1)) (wrap64 ((wrap64 (8 * (a0.size : Int))) + 1))) t123 _ A13.out).mono ?_); rintro e w37 ⟨rfl, hb⟩; refine ⟨_, rfl, ?_⟩; have n0_ := Aside0.mk (below_step (by repeat (first | (with_reducible first | exact HB.out | apply below_alloc | apply pw_below_drewN | apply below_drew1) | exact HB.out)) hb); clear HB; have HB := n0_; clear n0_; (try clear hb); (try clear hb2); (try clear hk); (try clear hi)) | ((with_reducible refine gate_callee (f := 29) rfl ?_); refine goesL_ (some 36) rfl rfl Try.func29 (by kernel_rfl) rfl #[.string a0, .int .i64 (Int.tmod (wrap64 (a1)) (wrap64 ((wrap64 (8 * (a0.size : Int))) + 1)))] rfl (by (try simp only [List.map_toArray, List.map_cons, List.map_nil]); first | done | rfl | (simp only [List.length_drop, List.length_take]; rfl)) ?_; (with_reducible refine (prefix_Cut.calls a0 (Int.tmod (wrap64 (a1)) (wrap64 ((wrap64 (8 * (a0.size : Int))) + 1))) t124 _ A14.out).mono ?_); rintro e w38 ⟨rfl, hb⟩; refine ⟨_, rfl, ?_⟩; have n0_ := Aside0.mk (below_step (by repeat (first | (with_reducible first | exact HB.out | apply below_alloc | apply pw_below_drewN | apply below_drew1) | exact HB.out)) hb); clear HB; have HB := n0_; clear n0_; (try clear hb); (try clear hb2); (try clear hk); (try clear hi)) | ((with_reducible refine gate_callee (f := 24) rfl ?_); refine goesL_ (some 37) rfl rfl Try.func24 (by kernel_rfl) rfl #[] rfl (by (try simp only [List.map_toArray, List.map_cons, List.map_nil]); first | done | rfl | (simp only [List.length_drop, List.length_take]; rfl)) ?_; (with_reducible refine (roadbooklaw04_awake.calls kj2  true _ A15.out).mono ?_); rintro e w39 ⟨rfl, hb⟩; refine ⟨_, rfl, ?_⟩; have n0_ := Aside0.mk (below_step (by repeat (first | (with_reducible first | exact HB.out | apply below_alloc | apply pw_below_drewN | apply below_drew1) | exact HB.out)) hb); clear HB; have HB := n0_; clear n0_; (try clear hb); (try clear hb2); (try clear hk); (try clear hi)) | (go_at_call 25; (with_reducible refine (prefix_Right.calls t123 (Int.tmod (wrap64 (a1)) (wrap64 ((wrap64 (8 * (a0.size : Int))) + 1))) true _ A17.out).mono ?_); rintro e w40 ⟨rfl, hb⟩; have n0_ := Aside0.mk (below_step (by repeat (first | (with_reducible first | exact HB.out | apply below_alloc | apply pw_below_drewN | apply below_drew1) | exact HB.out)) hb); clear HB; have HB := n0_; clear n0_; (try clear hb); (try clear hb2); (try clear hk); (try clear hi)) | (go_at_call 29; (with_reducible refine (prefix_Cut.calls t123 (Int.tmod (wrap64 (a1)) (wrap64 ((wrap64 (8 * (a0.size : Int))) + 1))) t127 _ A19.out).mono ?_); rintro e w41 ⟨rfl, hb⟩; have n0_ := Aside0.mk (below_step (by repeat (first | (with_reducible first | exact HB.out | apply below_alloc | apply pw_below_drewN | apply below_drew1) | exact HB.out)) hb); clear HB; have HB := n0_; clear n0_; (try clear hb); (try clear hb2); (try clear hk); (try clear hi)))
                go_ret
                exact ⟨by first | rfl | (simp [errW_none, errW_some] <;> rfl) | (simp [*, errW_none, errW_some] <;> rfl), by repeat (first | (with_reducible first | exact HB.out | apply below_alloc | apply pw_below_drewN | apply below_drew1) | exact HB.out)⟩
            · replace c18 := Bool.eq_false_iff.mpr c18
              subst c18
              have H1 : (some false) = some r := by rw [if_neg (show ¬ (false = true) by decide)] at H; exact H
              clear H
              have H := H1
              clear H1
              obtain rfl := Option.some.inj H
              go_wp2_with (first | ((with_reducible refine gate_callee (f := 19) rfl ?_); refine goesL_ (some 33) rfl rfl Try.func19 (by kernel_rfl) rfl #[.string a0, .int .i64 (Int.tmod (wrap64 (a1)) (wrap64 ((wrap64 (8 * (a0.size : Int))) + 1)))] rfl (by (try simp only [List.map_toArray, List.map_cons, List.map_nil]); first | done | rfl | (simp only [List.length_drop, List.length_take]; rfl)) ?_; (with_reducible refine (roadbookref03_Keep.calls kj2 a0 (Int.tmod (wrap64 (a1)) (wrap64 ((wrap64 (8 * (a0.size : Int))) + 1))) t123 _ A13.out).mono ?_); rintro e w42 ⟨rfl, hb⟩; refine ⟨_, rfl, ?_⟩; have n0_ := Aside0.mk (below_step (by repeat (first | (with_reducible first | exact HB.out | apply below_alloc | apply pw_below_drewN | apply below_drew1) | exact HB.out)) hb); clear HB; have HB := n0_; clear n0_; (try clear hb); (try clear hb2); (try clear hk); (try clear hi)) | ((with_reducible refine gate_callee (f := 29) rfl ?_); refine goesL_ (some 36) rfl rfl Try.func29 (by kernel_rfl) rfl #[.string a0, .int .i64 (Int.tmod (wrap64 (a1)) (wrap64 ((wrap64 (8 * (a0.size : Int))) + 1)))] rfl (by (try simp only [List.map_toArray, List.map_cons, List.map_nil]); first | done | rfl | (simp only [List.length_drop, List.length_take]; rfl)) ?_; (with_reducible refine (prefix_Cut.calls a0 (Int.tmod (wrap64 (a1)) (wrap64 ((wrap64 (8 * (a0.size : Int))) + 1))) t124 _ A14.out).mono ?_); rintro e w43 ⟨rfl, hb⟩; refine ⟨_, rfl, ?_⟩; have n0_ := Aside0.mk (below_step (by repeat (first | (with_reducible first | exact HB.out | apply below_alloc | apply pw_below_drewN | apply below_drew1) | exact HB.out)) hb); clear HB; have HB := n0_; clear n0_; (try clear hb); (try clear hb2); (try clear hk); (try clear hi)) | ((with_reducible refine gate_callee (f := 24) rfl ?_); refine goesL_ (some 37) rfl rfl Try.func24 (by kernel_rfl) rfl #[] rfl (by (try simp only [List.map_toArray, List.map_cons, List.map_nil]); first | done | rfl | (simp only [List.length_drop, List.length_take]; rfl)) ?_; (with_reducible refine (roadbooklaw04_awake.calls kj2  true _ A15.out).mono ?_); rintro e w44 ⟨rfl, hb⟩; refine ⟨_, rfl, ?_⟩; have n0_ := Aside0.mk (below_step (by repeat (first | (with_reducible first | exact HB.out | apply below_alloc | apply pw_below_drewN | apply below_drew1) | exact HB.out)) hb); clear HB; have HB := n0_; clear n0_; (try clear hb); (try clear hb2); (try clear hk); (try clear hi)) | (go_at_call 25; (with_reducible refine (prefix_Right.calls t123 (Int.tmod (wrap64 (a1)) (wrap64 ((wrap64 (8 * (a0.size : Int))) + 1))) false _ A17.out).mono ?_); rintro e w45 ⟨rfl, hb⟩; have n0_ := Aside0.mk (below_step (by repeat (first | (with_reducible first | exact HB.out | apply below_alloc | apply pw_below_drewN | apply below_drew1) | exact HB.out)) hb); clear HB; have HB := n0_; clear n0_; (try clear hb); (try clear hb2); (try clear hk); (try clear hi)))
              go_ret
              exact ⟨by first | rfl | (simp [errW_none, errW_some] <;> rfl) | (simp [*, errW_none, errW_some] <;> rfl), by repeat (first | (with_reducible first | exact HB.out | apply below_alloc | apply pw_below_drewN | apply below_drew1) | exact HB.out)⟩
          · replace c16 := Bool.eq_false_iff.mpr c16
            subst c16
            have H1 : (some false) = some r := by rw [if_neg (show ¬ (false = true) by decide)] at H; exact H
            clear H
            have H := H1
            clear H1
            obtain rfl := Option.some.inj H
            go_wp2_with (first | ((with_reducible refine gate_callee (f := 19) rfl ?_); refine goesL_ (some 33) rfl rfl Try.func19 (by kernel_rfl) rfl #[.string a0, .int .i64 (Int.tmod (wrap64 (a1)) (wrap64 ((wrap64 (8 * (a0.size : Int))) + 1)))] rfl (by (try simp only [List.map_toArray, List.map_cons, List.map_nil]); first | done | rfl | (simp only [List.length_drop, List.length_take]; rfl)) ?_; (with_reducible refine (roadbookref03_Keep.calls kj2 a0 (Int.tmod (wrap64 (a1)) (wrap64 ((wrap64 (8 * (a0.size : Int))) + 1))) t123 _ A13.out).mono ?_); rintro e w46 ⟨rfl, hb⟩; refine ⟨_, rfl, ?_⟩; have n0_ := Aside0.mk (below_step (by repeat (first | (with_reducible first | exact HB.out | apply below_alloc | apply pw_below_drewN | apply below_drew1) | exact HB.out)) hb); clear HB; have HB := n0_; clear n0_; (try clear hb); (try clear hb2); (try clear hk); (try clear hi)) | ((with_reducible refine gate_callee (f := 29) rfl ?_); refine goesL_ (some 36) rfl rfl Try.func29 (by kernel_rfl) rfl #[.string a0, .int .i64 (Int.tmod (wrap64 (a1)) (wrap64 ((wrap64 (8 * (a0.size : Int))) + 1)))] rfl (by (try simp only [List.map_toArray, List.map_cons, List.map_nil]); first | done | rfl | (simp only [List.length_drop, List.length_take]; rfl)) ?_; (with_reducible refine (prefix_Cut.calls a0 (Int.tmod (wrap64 (a1)) (wrap64 ((wrap64 (8 * (a0.size : Int))) + 1))) t124 _ A14.out).mono ?_); rintro e w47 ⟨rfl, hb⟩; refine ⟨_, rfl, ?_⟩; have n0_ := Aside0.mk (below_step (by repeat (first | (with_reducible first | exact HB.out | apply below_alloc | apply pw_below_drewN | apply below_drew1) | exact HB.out)) hb); clear HB; have HB := n0_; clear n0_; (try clear hb); (try clear hb2); (try clear hk); (try clear hi)) | ((with_reducible refine gate_callee (f := 24) rfl ?_); refine goesL_ (some 37) rfl rfl Try.func24 (by kernel_rfl) rfl #[] rfl (by (try simp only [List.map_toArray, List.map_cons, List.map_nil]); first | done | rfl | (simp only [List.length_drop, List.length_take]; rfl)) ?_; (with_reducible refine (roadbooklaw04_awake.calls kj2  false _ A15.out).mono ?_); rintro e w48 ⟨rfl, hb⟩; refine ⟨_, rfl, ?_⟩; have n0_ := Aside0.mk (below_step (by repeat (first | (with_reducible first | exact HB.out | apply below_alloc | apply pw_below_drewN | apply below_drew1) | exact HB.out)) hb); clear HB; have HB := n0_; clear n0_; (try clear hb); (try clear hb2); (try clear hk); (try clear hi)))
            go_ret
            exact ⟨by first | rfl | (simp [errW_none, errW_some] <;> rfl) | (simp [*, errW_none, errW_some] <;> rfl), by repeat (first | (with_reducible first | exact HB.out | apply below_alloc | apply pw_below_drewN | apply below_drew1) | exact HB.out)⟩

/-- THE ONE PURE STATEMENT of roadbooklaw04_PrefixBack: yours. -/
def roadbooklaw04_PrefixBack.Pure : Prop := ∀ (a0 : ByteArray) (a1 : Int), a0.size ≤ 140737488351232 → (Lit.int .u8 a1).wf = true → ∃ k, roadbooklaw04_PrefixBack.f k a0 a1 = some true
theorem roadbooklaw04_PrefixBack.walk (P : roadbooklaw04_PrefixBack.Pure) (a0 : ByteArray) (a1 : Int) (w : World) (w0 : a0.size ≤ 140737488351232) (w1 : (Lit.int .u8 a1).wf = true) :
    Calls Try.prog 6 #[.string a0, .int .u8 a1] w fun e w' => e = .returned (.bool true) ∧ Below w.heap.size w w' := by
  obtain ⟨k, h⟩ := P a0 a1 w0 w1
  refine (roadbooklaw04_PrefixBack.calls k a0 a1 true w h).mono ?_
  rintro e w' ⟨rfl, hd⟩
  exact ⟨rfl, hd⟩

end Go.Proofs.Ytelcciekdoccfaa.PPrefixBack
