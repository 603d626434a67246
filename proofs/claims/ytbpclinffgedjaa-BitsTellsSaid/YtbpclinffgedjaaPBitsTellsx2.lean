-- Written by mp.py, a program of this work (wip/tools), out of the translation; Lean checks it.
import Derived.Test.YtbpclinffgedjaaPBitsTellsx0
import Derived.Test.YtbpclinffgedjaaPBitsTellsx1
namespace Go.Proofs.Ytbpclinffgedjaa.PBitsTells
open Go.RowKit Go.Proofs.YtbpclinffgedjaaW.PrintWords Go.Proofs.YtbpclinffgedjaaW.PrintLast Go.Proofs.YtbpclinffgedjaaW.PrintMore
attribute [local go_sem] max2_int min2_int max_two min_two max_three min_three max_four min_four   -- for this text's walks alone
set_option linter.unusedVariables false
set_option linter.unusedSimpArgs false

/-! ### roadbookref03_Alike: function 37 -/
def roadbookref03_Alike.l0 : Nat → ByteArray → ByteArray → Int → Option (Int)
  | 0, _, _, _ => none
  | k + 1, x0, x1, x5 => if x5 < (wrap64 (8 * (x0.size : Int))) then (if x5 < (wrap64 (8 * (x1.size : Int))) then ((roadbookref03_Bit.f x0 x5).bind fun t117 => ((roadbookref03_Bit.f x1 x5).bind fun t118 => (if (t117 == t118) = true then (roadbookref03_Alike.l0 k x0 x1 (wrap64 (x5 + 1))) else (some x5)))) else (some x5)) else (some x5)
def roadbookref03_Alike.f (k : Nat) (a0 : ByteArray) (a1 : ByteArray) : Option (Int) := roadbookref03_Alike.l0 k a0 a1 0
theorem roadbookref03_Alike.mono_l : ∀ k, (∀ y0 y1 y2, LeO (roadbookref03_Alike.l0 k y0 y1 y2) (roadbookref03_Alike.l0 (k + 1) y0 y1 y2))
  | 0 => fun _ _ _ r h => by simp [roadbookref03_Alike.l0] at h
  | k + 1 => by
    have ih0 := roadbookref03_Alike.mono_l k
    · intro y0 y1 y2
      unfold roadbookref03_Alike.l0
      repeat' first
      | (with_reducible exact ih0 _ _ _)
      | (with_reducible exact LeO.refl _)
      | (with_reducible exact LeO.none _)
      | (with_reducible refine LeO.ite ?_ ?_)
      | (with_reducible refine LeO.bind ?_ (fun _ => ?_))
      | exact ih0 _ _ _
      | exact LeO.none _
      | refine LeO.ite ?_ ?_
      | refine LeO.bind ?_ (fun _ => ?_)
theorem roadbookref03_Alike.mono : ∀ a0 a1 k, LeO (roadbookref03_Alike.f k a0 a1) (roadbookref03_Alike.f (k + 1) a0 a1) := by
  intro a0 a1 k
  have ih0 := roadbookref03_Alike.mono_l k
  unfold roadbookref03_Alike.f
  repeat' first
      | (with_reducible exact ih0 _ _ _)
      | (with_reducible exact LeO.refl _)
      | (with_reducible exact LeO.none _)
      | (with_reducible refine LeO.ite ?_ ?_)
      | (with_reducible refine LeO.bind ?_ (fun _ => ?_))
      | exact ih0 _ _ _
      | exact LeO.none _
      | refine LeO.ite ?_ ?_
      | refine LeO.bind ?_ (fun _ => ?_)
set_option maxHeartbeats 8000000 in
set_option maxRecDepth 100000 in
theorem roadbookref03_Alike.calls (k : Nat) (a0 : ByteArray) (a1 : ByteArray) (r : Int) (w : World) (h : roadbookref03_Alike.f k a0 a1 = some r) :
    Calls Try.prog 37 #[.string a0, .string a1] w fun e w' => e = .returned (.int .i64 r) ∧ Drawn0 w w' := by
  have H : (roadbookref03_Alike.l0 k a0 a1 0) = some r := h
  clear h
  have H' := Aside0.mk H
  clear H
  go_enter Try.func37, Try.ntmps37
  go_wp2
  go_loopg [5] k (fun kq v5 w' => ∃ (x5_1 : Int), v5 = .int .i64 x5_1 ∧ Aside0 (roadbookref03_Alike.l0 kq a0 a1 x5_1 = some r) ∧ Aside0 (kq ≤ k) ∧ Drawn0 w w')
  case atStart => exact ⟨(0), (by first | rfl | (simp; done) | (simp [*]; done)), H', ⟨Nat.le_refl _⟩, by repeat (first | exact Drawn0.refl _ | apply Drawn0.step)⟩
  case round =>
    clear H'
    try clear p2
    obtain ⟨x5_1, rfl, HA, HK1, ⟨m1, rfl⟩⟩ := hrel
    cases gk with
    | zero => exact absurd HA.out (by simp [roadbookref03_Alike.l0])
    | succ k1 =>
      have H := HA.out
      clear HA
      simp only [roadbookref03_Alike.l0] at H
      by_cases c3 : x5_1 < (wrap64 (8 * (a0.size : Int)))
      · rw [if_pos c3] at H
        have c3b0 : decide (x5_1 < (wrap64 (8 * (a0.size : Int)))) = true := decide_eq_true c3
        clear c3
        by_cases c4 : x5_1 < (wrap64 (8 * (a1.size : Int)))
        · rw [if_pos c4] at H
          have c4b0 : decide (x5_1 < (wrap64 (8 * (a1.size : Int)))) = true := decide_eq_true c4
          clear c4
          replace H := Option.bind_eq_some_iff.mp H
          obtain ⟨t117, A50, H⟩ := H
          replace H : ((roadbookref03_Bit.f a1 x5_1).bind fun t118 => (if (t117 == t118) = true then (roadbookref03_Alike.l0 k1 a0 a1 (wrap64 (x5_1 + 1))) else (some x5_1))) = some r := H
          have A5 := Aside0.mk A50
          clear A50
          replace H := Option.bind_eq_some_iff.mp H
          obtain ⟨t118, A60, H⟩ := H
          replace H : (if (t117 == t118) = true then (roadbookref03_Alike.l0 k1 a0 a1 (wrap64 (x5_1 + 1))) else (some x5_1)) = some r := H
          have A6 := Aside0.mk A60
          clear A60
          by_cases c7 : (t117 == t118) = true
          · rw [if_pos c7] at H
            have c7b0 : (t117 == t118) = true := c7
            (try (have c7b1 : decide (t117 = t118) = true := by simpa using c7))
            (try (have c7b2 : (t117 == t118) = true := by simpa using c7))
            clear c7
            have H' := Aside0.mk H
            clear H
            go_wp2_with (first | (go_at_call 31; (with_reducible refine (roadbookref03_Bit.calls a0 x5_1 t117 _ A5.out).mono ?_); rintro e w' ⟨rfl, ⟨nd, rfl⟩⟩) | (go_at_call 31; (with_reducible refine (roadbookref03_Bit.calls a1 x5_1 t118 _ A6.out).mono ?_); rintro e w' ⟨rfl, ⟨nd, rfl⟩⟩))
            go_roundg k1
            case measure => have := HK1.out; omega
            case rel => exact ⟨(wrap64 (x5_1 + 1)), (by first | rfl | (simp; done) | (simp [*]; done)), H', ⟨by have := HK1.out; omega⟩, by repeat (first | exact Drawn0.refl _ | apply Drawn0.step)⟩
          · rw [if_neg c7] at H
            have c7b0 : (t117 == t118) = false := by simpa using c7
            (try (have c7b1 : decide (t117 = t118) = false := by simpa using c7))
            (try (have c7b2 : (t117 == t118) = false := by simpa using c7))
            (try (have c7b3 : ¬ (t117 = t118) := by simpa using c7))
            clear c7
            obtain rfl := Option.some.inj H
            go_wp2_with (first | (go_at_call 31; (with_reducible refine (roadbookref03_Bit.calls a0 x5_1 t117 _ A5.out).mono ?_); rintro e w' ⟨rfl, ⟨nd, rfl⟩⟩) | (go_at_call 31; (with_reducible refine (roadbookref03_Bit.calls a1 x5_1 t118 _ A6.out).mono ?_); rintro e w' ⟨rfl, ⟨nd, rfl⟩⟩))
            go_ret
            exact ⟨by first | rfl | (simp; done) | (simp [*]; done), by repeat (first | exact Drawn0.refl _ | apply Drawn0.step)⟩
        · rw [if_neg c4] at H
          have c4b0 : decide (x5_1 < (wrap64 (8 * (a1.size : Int)))) = false := decide_eq_false c4
          clear c4
          obtain rfl := Option.some.inj H
          go_wp2
          go_ret
          exact ⟨by first | rfl | (simp; done) | (simp [*]; done), by repeat (first | exact Drawn0.refl _ | apply Drawn0.step)⟩
      · rw [if_neg c3] at H
        have c3b0 : decide (x5_1 < (wrap64 (8 * (a0.size : Int)))) = false := decide_eq_false c3
        clear c3
        obtain rfl := Option.some.inj H
        go_wp2
        go_ret
        exact ⟨by first | rfl | (simp; done) | (simp [*]; done), by repeat (first | exact Drawn0.refl _ | apply Drawn0.step)⟩

/-! ### roadbooklaw03_BitsTells: function 8 -/
def roadbooklaw03_BitsTells.j0 : Nat → ByteArray → ByteArray → Int → Bool → Option (Bool)
  | 0, _, _, _, _ => none
  | k + 1, x0, x1, x2, x14 => if x14 = true then ((roadbooklaw03_awake.f k).bind fun t119 => (some t119)) else ((roadbooklaw03_awake.f k).bind fun t120 => (if t120 = true then ((bits_Bit.f x0 x2).bind fun t121 => ((roadbookref03_Bit.f x0 x2).bind fun t122 => (if (t121 == t122) = true then ((bits_Keep.f x0 x2).bind fun t123 => ((roadbookref03_Keep.f k x0 x2).bind fun t124 => (if t123.toList = t124.toList then ((bits_Clean.f x0 x2).bind fun t125 => ((roadbookref03_Clean.f k x0 x2).bind fun t126 => (if (t125 == t126) = true then ((bits_Alike.f k x0 x1).bind fun t127 => ((roadbookref03_Alike.f k x0 x1).bind fun t128 => (some (t127 == t128)))) else (some false)))) else (some false)))) else (some false)))) else (some false)))
def roadbooklaw03_BitsTells.f (k : Nat) (a0 : ByteArray) (a1 : ByteArray) (a2 : Int) : Option (Bool) := if (a0.size : Int) > 100 then (roadbooklaw03_BitsTells.j0 k a0 a1 a2 true) else (roadbooklaw03_BitsTells.j0 k a0 a1 a2 (decide ((a1.size : Int) > 100)))
theorem roadbooklaw03_BitsTells.mono_l : ∀ k, (∀ y0 y1 y2 y3, LeO (roadbooklaw03_BitsTells.j0 k y0 y1 y2 y3) (roadbooklaw03_BitsTells.j0 (k + 1) y0 y1 y2 y3))
  | 0 => fun _ _ _ _ r h => by simp [roadbooklaw03_BitsTells.j0] at h
  | k + 1 => by
    have ih0 := roadbooklaw03_BitsTells.mono_l k
    · intro y0 y1 y2 y3
      unfold roadbooklaw03_BitsTells.j0
      repeat' first
      | (with_reducible exact ih0 _ _ _ _)
      | (with_reducible exact bits_Alike.mono _ _ _)
      | (with_reducible exact roadbooklaw03_awake.mono _)
      | (with_reducible exact roadbookref03_Alike.mono _ _ _)
      | (with_reducible exact roadbookref03_Clean.mono _ _ _)
      | (with_reducible exact roadbookref03_Keep.mono _ _ _)
      | (with_reducible exact LeO.refl _)
      | (with_reducible exact LeO.none _)
      | (with_reducible refine LeO.ite ?_ ?_)
      | (with_reducible refine LeO.bind ?_ (fun _ => ?_))
      | exact ih0 _ _ _ _
      | exact bits_Alike.mono _ _ _
      | exact roadbooklaw03_awake.mono _
      | exact roadbookref03_Alike.mono _ _ _
      | exact roadbookref03_Clean.mono _ _ _
      | exact roadbookref03_Keep.mono _ _ _
      | exact LeO.none _
      | refine LeO.ite ?_ ?_
      | refine LeO.bind ?_ (fun _ => ?_)
theorem roadbooklaw03_BitsTells.mono : ∀ a0 a1 a2 k, LeO (roadbooklaw03_BitsTells.f k a0 a1 a2) (roadbooklaw03_BitsTells.f (k + 1) a0 a1 a2) := by
  intro a0 a1 a2 k
  have ih0 := roadbooklaw03_BitsTells.mono_l k
  unfold roadbooklaw03_BitsTells.f
  repeat' first
      | (with_reducible exact ih0 _ _ _ _)
      | (with_reducible exact bits_Alike.mono _ _ _)
      | (with_reducible exact roadbooklaw03_awake.mono _)
      | (with_reducible exact roadbookref03_Alike.mono _ _ _)
      | (with_reducible exact roadbookref03_Clean.mono _ _ _)
      | (with_reducible exact roadbookref03_Keep.mono _ _ _)
      | (with_reducible exact LeO.refl _)
      | (with_reducible exact LeO.none _)
      | (with_reducible refine LeO.ite ?_ ?_)
      | (with_reducible refine LeO.bind ?_ (fun _ => ?_))
      | exact ih0 _ _ _ _
      | exact bits_Alike.mono _ _ _
      | exact roadbooklaw03_awake.mono _
      | exact roadbookref03_Alike.mono _ _ _
      | exact roadbookref03_Clean.mono _ _ _
      | exact roadbookref03_Keep.mono _ _ _
      | exact LeO.none _
      | refine LeO.ite ?_ ?_
      | refine LeO.bind ?_ (fun _ => ?_)
set_option maxHeartbeats 8000000 in
set_option maxRecDepth 100000 in
theorem roadbooklaw03_BitsTells.calls (k : Nat) (a0 : ByteArray) (a1 : ByteArray) (a2 : Int) (r : Bool) (w : World) (h : roadbooklaw03_BitsTells.f k a0 a1 a2 = some r) :
    Calls Try.prog 8 #[.string a0, .string a1, .int .i64 a2] w fun e w' => e = .returned (.bool r) ∧ Below w.heap.size w w' := by
  have HB := Aside0.mk (Below.refl w.heap.size w)
  have H : (if (a0.size : Int) > 100 then (roadbooklaw03_BitsTells.j0 k a0 a1 a2 true) else (roadbooklaw03_BitsTells.j0 k a0 a1 a2 (decide ((a1.size : Int) > 100)))) = some r := h
  clear h
  have HC4 := Aside0.mk H
  clear H
  go_enter Try.func8, Try.ntmps8
  go_upto_region 1 with (fail)
  go_cut [14] (fun v14 wc => ∃ (kq : Nat) (x14_3 : Bool), v14 = .bool x14_3 ∧ Aside0 (roadbooklaw03_BitsTells.j0 kq a0 a1 a2 x14_3 = some r) ∧ Aside0 (kq ≤ k) ∧ Aside0 (Below w.heap.size w wc))
  case first =>
    have H := HC4.out
    clear HC4
    by_cases c5 : (a0.size : Int) > 100
    · rw [if_pos c5] at H
      have c5b0 : decide (100 < (a0.size : Int)) = true := decide_eq_true c5
      have c5b1 : decide (100 < a0.size) = true := decide_eq_true (by omega)
      clear c5
      (first | rw [c5b0] | (simp only [i64_w, i32_w]; rw [c5b0]) | skip)
      have H' := Aside0.mk H
      clear H
      go_wp2
      go_meet
      case rel => exact ⟨_, (true), (by first | rfl | (simp; done) | (simp [*]; done)), H', ⟨by first | omega | exact Nat.le_refl _⟩, ⟨by repeat (first | (with_reducible first | exact HB.out | apply below_alloc | apply pw_below_drewN | apply below_drew1) | exact HB.out)⟩⟩
    · rw [if_neg c5] at H
      have c5b0 : decide (100 < (a0.size : Int)) = false := decide_eq_false c5
      have c5b1 : decide (100 < a0.size) = false := decide_eq_false (by omega)
      clear c5
      (first | rw [c5b0] | (simp only [i64_w, i32_w]; rw [c5b0]) | skip)
      have H' := Aside0.mk H
      clear H
      go_wp2
      go_meet
      case rel => exact ⟨_, (decide ((a1.size : Int) > 100)), (by first | rfl | (simp; done) | (simp [*]; done)), H', ⟨by first | omega | exact Nat.le_refl _⟩, ⟨by repeat (first | (with_reducible first | exact HB.out | apply below_alloc | apply pw_below_drewN | apply below_drew1) | exact HB.out)⟩⟩
  case rest =>
    clear HC4
    try clear p2
    try clear c5
    try clear c5b0
    try clear c5b1
    obtain ⟨kq, x14_3, rfl, HA, HJ3, HB⟩ := hcut
    cases kq with
    | zero => exact absurd HA.out (by simp [roadbooklaw03_BitsTells.j0])
    | succ kj3 =>
      have H := HA.out
      clear HA
      simp only [roadbooklaw03_BitsTells.j0] at H
      by_cases c6 : x14_3 = true
      · subst c6
        have H1 : ((roadbooklaw03_awake.f kj3).bind fun t119 => (some t119)) = some r := by rw [if_pos rfl] at H; exact H
        clear H
        have H := H1
        clear H1
        replace H := Option.bind_eq_some_iff.mp H
        obtain ⟨t119, A70, H⟩ := H
        replace H : (some t119) = some r := H
        have A7 := Aside0.mk A70
        clear A70
        obtain rfl := Option.some.inj H
        go_wp2_with (first | ((with_reducible refine gate_callee (f := 29) rfl ?_); refine goesL_ (some 15) rfl rfl Try.func29 (by kernel_rfl) rfl #[] rfl (by (try simp only [List.map_toArray, List.map_cons, List.map_nil]); first | done | rfl | (simp only [List.length_drop, List.length_take]; rfl)) ?_; (with_reducible refine (roadbooklaw03_awake.calls kj3  t119 _ A7.out).mono ?_); rintro e w8 ⟨rfl, hb⟩; refine ⟨_, rfl, ?_⟩; have n0_ := Aside0.mk (below_step (by repeat (first | (with_reducible first | exact HB.out | apply below_alloc | apply pw_below_drewN | apply below_drew1) | exact HB.out)) hb); clear HB; have HB := n0_; clear n0_; (try clear hb); (try clear hb2); (try clear hk); (try clear hi)))
        go_ret
        exact ⟨by first | rfl | (simp [errW_none, errW_some] <;> rfl) | (simp [*, errW_none, errW_some] <;> rfl), by repeat (first | (with_reducible first | exact HB.out | apply below_alloc | apply pw_below_drewN | apply below_drew1) | exact HB.out)⟩
      · replace c6 := Bool.eq_false_iff.mpr c6
        subst c6
        have H1 : ((roadbooklaw03_awake.f kj3).bind fun t120 => (if t120 = true then ((bits_Bit.f a0 a2).bind fun t121 => ((roadbookref03_Bit.f a0 a2).bind fun t122 => (if (t121 == t122) = true then ((bits_Keep.f a0 a2).bind fun t123 => ((roadbookref03_Keep.f kj3 a0 a2).bind fun t124 => (if t123.toList = t124.toList then ((bits_Clean.f a0 a2).bind fun t125 => ((roadbookref03_Clean.f kj3 a0 a2).bind fun t126 => (if (t125 == t126) = true then ((bits_Alike.f kj3 a0 a1).bind fun t127 => ((roadbookref03_Alike.f kj3 a0 a1).bind fun t128 => (some (t127 == t128)))) else (some false)))) else (some false)))) else (some false)))) else (some false))) = some r := by rw [if_neg (show ¬ (false = true) by decide)] at H; exact H
        clear H
        have H := H1
        clear H1
        replace H := Option.bind_eq_some_iff.mp H
        obtain ⟨t120, A90, H⟩ := H
        replace H : (if t120 = true then ((bits_Bit.f a0 a2).bind fun t121 => ((roadbookref03_Bit.f a0 a2).bind fun t122 => (if (t121 == t122) = true then ((bits_Keep.f a0 a2).bind fun t123 => ((roadbookref03_Keep.f kj3 a0 a2).bind fun t124 => (if t123.toList = t124.toList then ((bits_Clean.f a0 a2).bind fun t125 => ((roadbookref03_Clean.f kj3 a0 a2).bind fun t126 => (if (t125 == t126) = true then ((bits_Alike.f kj3 a0 a1).bind fun t127 => ((roadbookref03_Alike.f kj3 a0 a1).bind fun t128 => (some (t127 == t128)))) else (some false)))) else (some false)))) else (some false)))) else (some false)) = some r := H
        have A9 := Aside0.mk A90
        clear A90
        by_cases c10 : t120 = true
        · subst c10
          have H1 : ((bits_Bit.f a0 a2).bind fun t121 => ((roadbookref03_Bit.f a0 a2).bind fun t122 => (if (t121 == t122) = true then ((bits_Keep.f a0 a2).bind fun t123 => ((roadbookref03_Keep.f kj3 a0 a2).bind fun t124 => (if t123.toList = t124.toList then ((bits_Clean.f a0 a2).bind fun t125 => ((roadbookref03_Clean.f kj3 a0 a2).bind fun t126 => (if (t125 == t126) = true then ((bits_Alike.f kj3 a0 a1).bind fun t127 => ((roadbookref03_Alike.f kj3 a0 a1).bind fun t128 => (some (t127 == t128)))) else (some false)))) else (some false)))) else (some false)))) = some r := by rw [if_pos rfl] at H; exact H
          clear H
          have H := H1
          clear H1
          replace H := Option.bind_eq_some_iff.mp H
          obtain ⟨t121, A110, H⟩ := H
          replace H : ((roadbookref03_Bit.f a0 a2).bind fun t122 => (if (t121 == t122) = true then ((bits_Keep.f a0 a2).bind fun t123 => ((roadbookref03_Keep.f kj3 a0 a2).bind fun t124 => (if t123.toList = t124.toList then ((bits_Clean.f a0 a2).bind fun t125 => ((roadbookref03_Clean.f kj3 a0 a2).bind fun t126 => (if (t125 == t126) = true then ((bits_Alike.f kj3 a0 a1).bind fun t127 => ((roadbookref03_Alike.f kj3 a0 a1).bind fun t128 => (some (t127 == t128)))) else (some false)))) else (some false)))) else (some false))) = some r := H
          have A11 := Aside0.mk A110
          clear A110
          replace H := Option.bind_eq_some_iff.mp H
          obtain ⟨t122, A120, H⟩ := H
          replace H : (if (t121 == t122) = true then ((bits_Keep.f a0 a2).bind fun t123 => ((roadbookref03_Keep.f kj3 a0 a2).bind fun t124 => (if t123.toList = t124.toList then ((bits_Clean.f a0 a2).bind fun t125 => ((roadbookref03_Clean.f kj3 a0 a2).bind fun t126 => (if (t125 == t126) = true then ((bits_Alike.f kj3 a0 a1).bind fun t127 => ((roadbookref03_Alike.f kj3 a0 a1).bind fun t128 => (some (t127 == t128)))) else (some false)))) else (some false)))) else (some false)) = some r := H
          have A12 := Aside0.mk A120
          clear A120
          by_cases c13 : (t121 == t122) = true
          · rw [if_pos c13] at H
            have c13b0 : (t121 == t122) = true := c13
            (try (have c13b1 : decide (t121 = t122) = true := by simpa using c13))
            (try (have c13b2 : (t121 == t122) = true := by simpa using c13))
            clear c13
            replace H := Option.bind_eq_some_iff.mp H
            obtain ⟨t123, A140, H⟩ := H
            replace H : ((roadbookref03_Keep.f kj3 a0 a2).bind fun t124 => (if t123.toList = t124.toList then ((bits_Clean.f a0 a2).bind fun t125 => ((roadbookref03_Clean.f kj3 a0 a2).bind fun t126 => (if (t125 == t126) = true then ((bits_Alike.f kj3 a0 a1).bind fun t127 => ((roadbookref03_Alike.f kj3 a0 a1).bind fun t128 => (some (t127 == t128)))) else (some false)))) else (some false))) = some r := H
            have A14 := Aside0.mk A140
            clear A140
            replace H := Option.bind_eq_some_iff.mp H
            obtain ⟨t124, A150, H⟩ := H
            replace H : (if t123.toList = t124.toList then ((bits_Clean.f a0 a2).bind fun t125 => ((roadbookref03_Clean.f kj3 a0 a2).bind fun t126 => (if (t125 == t126) = true then ((bits_Alike.f kj3 a0 a1).bind fun t127 => ((roadbookref03_Alike.f kj3 a0 a1).bind fun t128 => (some (t127 == t128)))) else (some false)))) else (some false)) = some r := H
            have A15 := Aside0.mk A150
            clear A150
            by_cases c16 : t123.toList = t124.toList
            · rw [if_pos c16] at H
              have c16b0 : (t123.toList == t124.toList) = true := beq_iff_eq.mpr c16
              have c16b1 : (t123.toList != t124.toList) = false := bne_eq_false_iff_eq.mpr c16
              clear c16
              replace H := Option.bind_eq_some_iff.mp H
              obtain ⟨t125, A170, H⟩ := H
              replace H : ((roadbookref03_Clean.f kj3 a0 a2).bind fun t126 => (if (t125 == t126) = true then ((bits_Alike.f kj3 a0 a1).bind fun t127 => ((roadbookref03_Alike.f kj3 a0 a1).bind fun t128 => (some (t127 == t128)))) else (some false))) = some r := H
              have A17 := Aside0.mk A170
              clear A170
              replace H := Option.bind_eq_some_iff.mp H
              obtain ⟨t126, A180, H⟩ := H
              replace H : (if (t125 == t126) = true then ((bits_Alike.f kj3 a0 a1).bind fun t127 => ((roadbookref03_Alike.f kj3 a0 a1).bind fun t128 => (some (t127 == t128)))) else (some false)) = some r := H
              have A18 := Aside0.mk A180
              clear A180
              by_cases c19 : (t125 == t126) = true
              · rw [if_pos c19] at H
                have c19b0 : (t125 == t126) = true := c19
                (try (have c19b1 : decide (t125 = t126) = true := by simpa using c19))
                (try (have c19b2 : (t125 == t126) = true := by simpa using c19))
                clear c19
                replace H := Option.bind_eq_some_iff.mp H
                obtain ⟨t127, A200, H⟩ := H
                replace H : ((roadbookref03_Alike.f kj3 a0 a1).bind fun t128 => (some (t127 == t128))) = some r := H
                have A20 := Aside0.mk A200
                clear A200
                replace H := Option.bind_eq_some_iff.mp H
                obtain ⟨t128, A210, H⟩ := H
                replace H : (some (t127 == t128)) = some r := H
                have A21 := Aside0.mk A210
                clear A210
                obtain rfl := Option.some.inj H
                go_wp2_with (first | ((with_reducible refine gate_callee (f := 29) rfl ?_); refine goesL_ (some 16) rfl rfl Try.func29 (by kernel_rfl) rfl #[] rfl (by (try simp only [List.map_toArray, List.map_cons, List.map_nil]); first | done | rfl | (simp only [List.length_drop, List.length_take]; rfl)) ?_; (with_reducible refine (roadbooklaw03_awake.calls kj3  true _ A9.out).mono ?_); rintro e w22 ⟨rfl, hb⟩; refine ⟨_, rfl, ?_⟩; have n0_ := Aside0.mk (below_step (by repeat (first | (with_reducible first | exact HB.out | apply below_alloc | apply pw_below_drewN | apply below_drew1) | exact HB.out)) hb); clear HB; have HB := n0_; clear n0_; (try clear hb); (try clear hb2); (try clear hk); (try clear hi)) | (go_at_call 30; (with_reducible refine (bits_Bit.calls a0 a2 t121 _ A11.out).mono ?_); rintro e w' ⟨rfl, ⟨nd, rfl⟩⟩) | (go_at_call 31; (with_reducible refine (roadbookref03_Bit.calls a0 a2 t122 _ A12.out).mono ?_); rintro e w' ⟨rfl, ⟨nd, rfl⟩⟩) | (go_at_call 32; (with_reducible refine (bits_Keep.calls a0 a2 t123 _ A14.out).mono ?_); rintro e w23 ⟨rfl, hb⟩; have n0_ := Aside0.mk (below_step (by repeat (first | (with_reducible first | exact HB.out | apply below_alloc | apply pw_below_drewN | apply below_drew1) | exact HB.out)) hb); clear HB; have HB := n0_; clear n0_; (try clear hb); (try clear hb2); (try clear hk); (try clear hi)) | (go_at_call 33; (with_reducible refine (roadbookref03_Keep.calls kj3 a0 a2 t124 _ A15.out).mono ?_); rintro e w24 ⟨rfl, hb⟩; have n0_ := Aside0.mk (below_step (by repeat (first | (with_reducible first | exact HB.out | apply below_alloc | apply pw_below_drewN | apply below_drew1) | exact HB.out)) hb); clear HB; have HB := n0_; clear n0_; (try clear hb); (try clear hb2); (try clear hk); (try clear hi)) | (go_at_call 34; (with_reducible refine (bits_Clean.calls a0 a2 t125 _ A17.out).mono ?_); rintro e w25 ⟨rfl, hb⟩; have n0_ := Aside0.mk (below_step (by repeat (first | (with_reducible first | exact HB.out | apply below_alloc | apply pw_below_drewN | apply below_drew1) | exact HB.out)) hb); clear HB; have HB := n0_; clear n0_; (try clear hb); (try clear hb2); (try clear hk); (try clear hi)) | (go_at_call 35; (with_reducible refine (roadbookref03_Clean.calls kj3 a0 a2 t126 _ A18.out).mono ?_); rintro e w26 ⟨rfl, hb⟩; have n0_ := Aside0.mk (below_step (by repeat (first | (with_reducible first | exact HB.out | apply below_alloc | apply pw_below_drewN | apply below_drew1) | exact HB.out)) hb); clear HB; have HB := n0_; clear n0_; (try clear hb); (try clear hb2); (try clear hk); (try clear hi)) | (go_at_call 36; (with_reducible refine (bits_Alike.calls kj3 a0 a1 t127 _ A20.out).mono ?_); rintro e w27 ⟨rfl, hb⟩; have n0_ := Aside0.mk (below_step (by repeat (first | (with_reducible first | exact HB.out | apply below_alloc | apply pw_below_drewN | apply below_drew1) | exact HB.out)) hb); clear HB; have HB := n0_; clear n0_; (try clear hb); (try clear hb2); (try clear hk); (try clear hi)) | (go_at_call 37; (with_reducible refine (roadbookref03_Alike.calls kj3 a0 a1 t128 _ A21.out).mono ?_); rintro e w' ⟨rfl, ⟨nd, rfl⟩⟩))
                go_ret
                exact ⟨by first | rfl | (simp [errW_none, errW_some] <;> rfl) | (simp [*, errW_none, errW_some] <;> rfl), by repeat (first | (with_reducible first | exact HB.out | apply below_alloc | apply pw_below_drewN | apply below_drew1) | exact HB.out)⟩
              · rw [if_neg c19] at H
                have c19b0 : (t125 == t126) = false := by simpa using c19
                (try (have c19b1 : decide (t125 = t126) = false := by simpa using c19))
                (try (have c19b2 : (t125 == t126) = false := by simpa using c19))
                (try (have c19b3 : ¬ (t125 = t126) := by simpa using c19))
                clear c19
                obtain rfl := Option.some.inj H
                go_wp2_with (first | ((with_reducible refine gate_callee (f := 29) rfl ?_); refine goesL_ (some 16) rfl rfl Try.func29 (by kernel_rfl) rfl #[] rfl (by (try simp only [List.map_toArray, List.map_cons, List.map_nil]); first | done | rfl | (simp only [List.length_drop, List.length_take]; rfl)) ?_; (with_reducible refine (roadbooklaw03_awake.calls kj3  true _ A9.out).mono ?_); rintro e w28 ⟨rfl, hb⟩; refine ⟨_, rfl, ?_⟩; have n0_ := Aside0.mk (below_step (by repeat (first | (with_reducible first | exact HB.out | apply below_alloc | apply pw_below_drewN | apply below_drew1) | exact HB.out)) hb); clear HB; have HB := n0_; clear n0_; (try clear hb); (try clear hb2); (try clear hk); (try clear hi)) | (go_at_call 30; (with_reducible refine (bits_Bit.calls a0 a2 t121 _ A11.out).mono ?_); rintro e w' ⟨rfl, ⟨nd, rfl⟩⟩) | (go_at_call 31; (with_reducible refine (roadbookref03_Bit.calls a0 a2 t122 _ A12.out).mono ?_); rintro e w' ⟨rfl, ⟨nd, rfl⟩⟩) | (go_at_call 32; (with_reducible refine (bits_Keep.calls a0 a2 t123 _ A14.out).mono ?_); rintro e w29 ⟨rfl, hb⟩; have n0_ := Aside0.mk (below_step (by repeat (first | (with_reducible first | exact HB.out | apply below_alloc | apply pw_below_drewN | apply below_drew1) | exact HB.out)) hb); clear HB; have HB := n0_; clear n0_; (try clear hb); (try clear hb2); (try clear hk); (try clear hi)) | (go_at_call 33; (with_reducible refine (roadbookref03_Keep.calls kj3 a0 a2 t124 _ A15.out).mono ?_); rintro e w30 ⟨rfl, hb⟩; have n0_ := Aside0.mk (below_step (by repeat (first | (with_reducible first | exact HB.out | apply below_alloc | apply pw_below_drewN | apply below_drew1) | exact HB.out)) hb); clear HB; have HB := n0_; clear n0_; (try clear hb); (try clear hb2); (try clear hk); (try clear hi)) | (go_at_call 34; (with_reducible refine (bits_Clean.calls a0 a2 t125 _ A17.out).mono ?_); rintro e w31 ⟨rfl, hb⟩; have n0_ := Aside0.mk (below_step (by repeat (first | (with_reducible first | exact HB.out | apply below_alloc | apply pw_below_drewN | apply below_drew1) | exact HB.out)) hb); clear HB; have HB := n0_; clear n0_; (try clear hb); (try clear hb2); (try clear hk); (try clear hi)) | (go_at_call 35; (with_reducible refine (roadbookref03_Clean.calls kj3 a0 a2 t126 _ A18.out).mono ?_); rintro e w32 ⟨rfl, hb⟩; have n0_ := Aside0.mk (below_step (by repeat (first | (with_reducible first | exact HB.out | apply below_alloc | apply pw_below_drewN | apply below_drew1) | exact HB.out)) hb); clear HB; have HB := n0_; clear n0_; (try clear hb); (try clear hb2); (try clear hk); (try clear hi)))
                go_ret
                exact ⟨by first | rfl | (simp [errW_none, errW_some] <;> rfl) | (simp [*, errW_none, errW_some] <;> rfl), by repeat (first | (with_reducible first | exact HB.out | apply below_alloc | apply pw_below_drewN | apply below_drew1) | exact HB.out)⟩
            · rw [if_neg c16] at H
              have c16b0 : (t123.toList == t124.toList) = false := beq_eq_false_iff_ne.mpr c16
              have c16b1 : (t123.toList != t124.toList) = true := bne_iff_ne.mpr c16
              obtain rfl := Option.some.inj H
              go_wp2_with (first | ((with_reducible refine gate_callee (f := 29) rfl ?_); refine goesL_ (some 16) rfl rfl Try.func29 (by kernel_rfl) rfl #[] rfl (by (try simp only [List.map_toArray, List.map_cons, List.map_nil]); first | done | rfl | (simp only [List.length_drop, List.length_take]; rfl)) ?_; (with_reducible refine (roadbooklaw03_awake.calls kj3  true _ A9.out).mono ?_); rintro e w33 ⟨rfl, hb⟩; refine ⟨_, rfl, ?_⟩; have n0_ := Aside0.mk (below_step (by repeat (first | (with_reducible first | exact HB.out | apply below_alloc | apply pw_below_drewN | apply below_drew1) | exact HB.out)) hb); clear HB; have HB := n0_; clear n0_; (try clear hb); (try clear hb2); (try clear hk); (try clear hi)) | (go_at_call 30; (with_reducible refine (bits_Bit.calls a0 a2 t121 _ A11.out).mono ?_); rintro e w' ⟨rfl, ⟨nd, rfl⟩⟩) | (go_at_call 31; (with_reducible refine (roadbookref03_Bit.calls a0 a2 t122 _ A12.out).mono ?_); rintro e w' ⟨rfl, ⟨nd, rfl⟩⟩) | (go_at_call 32; (with_reducible refine (bits_Keep.calls a0 a2 t123 _ A14.out).mono ?_); rintro e w34 ⟨rfl, hb⟩; have n0_ := Aside0.mk (below_step (by repeat (first | (with_reducible first | exact HB.out | apply below_alloc | apply pw_below_drewN | apply below_drew1) | exact HB.out)) hb); clear HB; have HB := n0_; clear n0_; (try clear hb); (try clear hb2); (try clear hk); (try clear hi)) | (go_at_call 33; (with_reducible refine (roadbookref03_Keep.calls kj3 a0 a2 t124 _ A15.out).mono ?_); rintro e w35 ⟨rfl, hb⟩; have n0_ := Aside0.mk (below_step (by repeat (first | (with_reducible first | exact HB.out | apply below_alloc | apply pw_below_drewN | apply below_drew1) | exact HB.out)) hb); clear HB; have HB := n0_; clear n0_; (try clear hb); (try clear hb2); (try clear hk); (try clear hi)))
              go_ret
              exact ⟨by first | rfl | (simp [errW_none, errW_some] <;> rfl) | (simp [*, errW_none, errW_some] <;> rfl), by repeat (first | (with_reducible first | exact HB.out | apply below_alloc | apply pw_below_drewN | apply below_drew1) | exact HB.out)⟩
          · rw [if_neg c13] at H
            have c13b0 : (t121 == t122) = false := by simpa using c13
            (try (have c13b1 : decide (t121 = t122) = false := by simpa using c13))
            (try (have c13b2 : (t121 == t122) = false := by simpa using c13))
            (try (have c13b3 : ¬ (t121 = t122) := by simpa using c13))
            clear c13
            obtain rfl := Option.some.inj H
            go_wp2_with (first | ((with_reducible refine gate_callee (f := 29) rfl ?_); refine goesL_ (some 16) rfl rfl Try.func29 (by kernel_rfl) rfl #[] rfl (by (try simp only [List.map_toArray, List.map_cons, List.map_nil]); first | done | rfl | (simp only [List.length_drop, List.length_take]; rfl)) ?_; (with_reducible refine (roadbooklaw03_awake.calls kj3  true _ A9.out).mono ?_); rintro e w36 ⟨rfl, hb⟩; refine ⟨_, rfl, ?_⟩; have n0_ := Aside0.mk (below_step (by repeat (first | (with_reducible first | exact HB.out | apply below_alloc | apply pw_below_drewN | apply below_drew1) | exact HB.out)) hb); clear HB; have HB := n0_; clear n0_; (try clear hb); (try clear hb2); (try clear hk); (try clear hi)) | (go_at_call 30; (with_reducible refine (bits_Bit.calls a0 a2 t121 _ A11.out).mono ?_); rintro e w' ⟨rfl, ⟨nd, rfl⟩⟩) | (go_at_call 31; (with_reducible refine (roadbookref03_Bit.calls a0 a2 t122 _ A12.out).mono ?_); rintro e w' ⟨rfl, ⟨nd, rfl⟩⟩))
            go_ret
            exact ⟨by first | rfl | (simp [errW_none, errW_some] <;> rfl) | (simp [*, errW_none, errW_some] <;> rfl), by repeat (first | (with_reducible first | exact HB.out | apply below_alloc | apply pw_below_drewN | apply below_drew1) | exact HB.out)⟩
        · replace c10 := Bool.eq_false_iff.mpr c10
          subst c10
          have H1 : (some false) = some r := by rw [if_neg (show ¬ (false = true) by decide)] at H; exact H
          clear H
          have H := H1
          clear H1
          obtain rfl := Option.some.inj H
          go_wp2_with (first | ((with_reducible refine gate_callee (f := 29) rfl ?_); refine goesL_ (some 16) rfl rfl Try.func29 (by kernel_rfl) rfl #[] rfl (by (try simp only [List.map_toArray, List.map_cons, List.map_nil]); first | done | rfl | (simp only [List.length_drop, List.length_take]; rfl)) ?_; (with_reducible refine (roadbooklaw03_awake.calls kj3  false _ A9.out).mono ?_); rintro e w37 ⟨rfl, hb⟩; refine ⟨_, rfl, ?_⟩; have n0_ := Aside0.mk (below_step (by repeat (first | (with_reducible first | exact HB.out | apply below_alloc | apply pw_below_drewN | apply below_drew1) | exact HB.out)) hb); clear HB; have HB := n0_; clear n0_; (try clear hb); (try clear hb2); (try clear hk); (try clear hi)))
          go_ret
          exact ⟨by first | rfl | (simp [errW_none, errW_some] <;> rfl) | (simp [*, errW_none, errW_some] <;> rfl), by repeat (first | (with_reducible first | exact HB.out | apply below_alloc | apply pw_below_drewN | apply below_drew1) | exact HB.out)⟩

/-- THE ONE PURE STATEMENT of roadbooklaw03_BitsTells: yours. -/
def roadbooklaw03_BitsTells.Pure : Prop := ∀ (a0 : ByteArray) (a1 : ByteArray) (a2 : Int), a0.size ≤ 140737488351232 → a1.size ≤ 140737488351232 → (Lit.int .i64 a2).wf = true → ∃ k, roadbooklaw03_BitsTells.f k a0 a1 a2 = some true
theorem roadbooklaw03_BitsTells.walk (P : roadbooklaw03_BitsTells.Pure) (a0 : ByteArray) (a1 : ByteArray) (a2 : Int) (w : World) (w0 : a0.size ≤ 140737488351232) (w1 : a1.size ≤ 140737488351232) (w2 : (Lit.int .i64 a2).wf = true) :
    Calls Try.prog 8 #[.string a0, .string a1, .int .i64 a2] w fun e w' => e = .returned (.bool true) ∧ Below w.heap.size w w' := by
  obtain ⟨k, h⟩ := P a0 a1 a2 w0 w1 w2
  refine (roadbooklaw03_BitsTells.calls k a0 a1 a2 true w h).mono ?_
  rintro e w' ⟨rfl, hd⟩
  exact ⟨rfl, hd⟩

end Go.Proofs.Ytbpclinffgedjaa.PBitsTells
