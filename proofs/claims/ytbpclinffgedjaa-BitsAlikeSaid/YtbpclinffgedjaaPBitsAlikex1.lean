-- Written by mp.py, a program of this work (wip/tools), out of the translation; Lean checks it.
import Derived.Test.YtbpclinffgedjaaPBitsAlikex0
namespace Go.Proofs.Ytbpclinffgedjaa.PBitsAlike
open Go.RowKit Go.Proofs.YtbpclinffgedjaaW.PrintWords Go.Proofs.YtbpclinffgedjaaW.PrintLast Go.Proofs.YtbpclinffgedjaaW.PrintMore
attribute [local go_sem] max2_int min2_int max_two min_two max_three min_three max_four min_four   -- for this text's walks alone
set_option linter.unusedVariables false
set_option linter.unusedSimpArgs false

/-! ### bits_Bit: function 30 -/
def bits_Bit.f (a0 : ByteArray) (a1 : Int) : Option (Bool) := if a1 ≥ 0 then (if a1 < (wrap64 (8 * (a0.size : Int))) then (if 0 ≤ (a1 / 8) then (if (a1 / 8) < (a0.size : Int) then (if 0 ≤ (IntKind.u64.wrap (Go.bits .and .i64 a1 7)) then (some ((Go.bits .and .u8 (bt a0 (a1 / 8)) (shr .u8 128 (IntKind.u64.wrap (Go.bits .and .i64 a1 7)))) != 0)) else (none)) else (none)) else (none)) else (some false)) else (some false)
set_option maxHeartbeats 8000000 in
set_option maxRecDepth 100000 in
theorem bits_Bit.calls (a0 : ByteArray) (a1 : Int) (r : Bool) (w : World) (h : bits_Bit.f a0 a1 = some r) :
    Calls Try.prog 30 #[.string a0, .int .i64 a1] w fun e w' => e = .returned (.bool r) ∧ Drawn0 w w' := by
  have H : (if a1 ≥ 0 then (if a1 < (wrap64 (8 * (a0.size : Int))) then (if 0 ≤ (a1 / 8) then (if (a1 / 8) < (a0.size : Int) then (if 0 ≤ (IntKind.u64.wrap (Go.bits .and .i64 a1 7)) then (some ((Go.bits .and .u8 (bt a0 (a1 / 8)) (shr .u8 128 (IntKind.u64.wrap (Go.bits .and .i64 a1 7)))) != 0)) else (none)) else (none)) else (none)) else (some false)) else (some false)) = some r := h
  clear h
  by_cases c3 : a1 ≥ 0
  · rw [if_pos c3] at H
    have c3b0 : decide (0 ≤ a1) = true := decide_eq_true c3
    clear c3
    by_cases c4 : a1 < (wrap64 (8 * (a0.size : Int)))
    · rw [if_pos c4] at H
      have c4b0 : decide (a1 < (wrap64 (8 * (a0.size : Int)))) = true := decide_eq_true c4
      clear c4
      obtain ⟨ji5, hji5⟩ : ∃ j_ : Int, (a1 / 8) = j_ := ⟨_, rfl⟩
      replace H : (if 0 ≤ (ji5) then (if (ji5) < (a0.size : Int) then (if 0 ≤ (IntKind.u64.wrap (Go.bits .and .i64 a1 7)) then (some ((Go.bits .and .u8 (bt a0 (ji5)) (shr .u8 128 (IntKind.u64.wrap (Go.bits .and .i64 a1 7)))) != 0)) else (none)) else (none)) else (none)) = some r := by first | (rw [hji5] at H; exact H) | (simp only [hji5] at H ⊢; exact H)
      by_cases c6 : 0 ≤ (ji5)
      · rw [if_pos c6] at H
        have c6b0 : decide (0 ≤ (ji5)) = true := decide_eq_true c6
        clear c6
        by_cases c7 : (ji5) < (a0.size : Int)
        · rw [if_pos c7] at H
          have c7b0 : decide ((ji5) < (a0.size : Int)) = true := decide_eq_true c7
          clear c7
          obtain ⟨ji9, hji9⟩ : ∃ j_ : Int, (IntKind.u64.wrap (Go.bits .and .i64 a1 7)) = j_ := ⟨_, rfl⟩
          replace H : (if 0 ≤ (ji9) then (some ((Go.bits .and .u8 (bt a0 (ji5)) (shr .u8 128 (ji9))) != 0)) else (none)) = some r := by first | (rw [hji9] at H; exact H) | (simp only [hji9] at H ⊢; exact H)
          by_cases c10 : 0 ≤ (ji9)
          · rw [if_pos c10] at H
            have c10b0 := eq_true c10
            have c10b1 : decide (0 ≤ (ji9)) = true := decide_eq_true c10
            clear c10
            obtain ⟨ji11, hji11⟩ : ∃ j_ : Int, (shr .u8 128 (ji9)) = j_ := ⟨_, rfl⟩
            replace H : (some ((Go.bits .and .u8 (bt a0 (ji5)) (ji11)) != 0)) = some r := by first | (rw [hji11] at H; exact H) | (simp only [hji11] at H ⊢; exact H)
            have hji11_ : (128 / 2 ^ min (ji9).toNat 8) = ji11 := hji11
            have hji11z : (ji9) ≤ 8 → (128 / 2 ^ (ji9).toNat) = ji11 := shr_small hji11
            obtain rfl := Option.some.inj H
            have p8 : 0 ≤ ((ji5) : Int) := of_decide_eq_true (by first | (with_reducible assumption) | assumption)
            have q8 : (ji5) < (a0.size : Int) := of_decide_eq_true (by first | (with_reducible assumption) | assumption)
            have hx8 := bt_at a0 (ji5)
            replace p8 := eq_true p8
            replace q8 := eq_true q8
            go_enter Try.func30, Try.ntmps30
            go_wp2
            go_ret
            exact ⟨by first | rfl | (simp; done) | (simp only [← hji5, ← hji9, ← hji11] <;> (first | rfl | simp)) | (simp [*]; done), by repeat (first | exact Drawn0.refl _ | apply Drawn0.step)⟩
          · rw [if_neg c10] at H
            exact absurd H (by simp)
        · rw [if_neg c7] at H
          exact absurd H (by simp)
      · rw [if_neg c6] at H
        exact absurd H (by simp)
    · rw [if_neg c4] at H
      have c4b0 : decide (a1 < (wrap64 (8 * (a0.size : Int)))) = false := decide_eq_false c4
      clear c4
      obtain rfl := Option.some.inj H
      go_enter Try.func30, Try.ntmps30
      go_wp2
      go_ret
      exact ⟨by first | rfl | (simp; done) | (simp [*]; done), by repeat (first | exact Drawn0.refl _ | apply Drawn0.step)⟩
  · rw [if_neg c3] at H
    have c3b0 : decide (0 ≤ a1) = false := decide_eq_false c3
    clear c3
    obtain rfl := Option.some.inj H
    go_enter Try.func30, Try.ntmps30
    go_wp2
    go_ret
    exact ⟨by first | rfl | (simp; done) | (simp [*]; done), by repeat (first | exact Drawn0.refl _ | apply Drawn0.step)⟩

/-! ### bits_Keep: function 32 -/
def bits_Keep.f (a0 : ByteArray) (a1 : Int) : Option ByteArray :=
  if a0.size ≤ 140737488351232 then
    if 8 * (a0.size : Int) ≤ a1 then some a0
    else if a1 ≤ 0 then some (strOfNums (List.replicate a0.size 0))
    else some (strOfNums ((bytesOf (a0.extract 0 (a1 / 8).toNat) ++ (List.replicate a0.size 0).drop (a0.extract 0 (a1 / 8).toNat).size).set (a1 / 8).toNat (Go.bits .andNot .u8 (bt a0 (a1 / 8)) (255 / 2 ^ min (IntKind.u64.wrap (Go.bits .and .i64 a1 7)).toNat 8))))
  else none
set_option maxHeartbeats 8000000 in
set_option maxRecDepth 100000 in
theorem bits_Keep.calls (a0 : ByteArray) (a1 : Int) (r : ByteArray) (w : World) (h : bits_Keep.f a0 a1 = some r) :
    Calls Try.prog 32 #[.string a0, .int .i64 a1] w fun e w' => e = .returned (.string r) ∧ Below w.heap.size w w' := by
  unfold bits_Keep.f at h
  by_cases hs : a0.size ≤ 140737488351232
  · rw [if_pos hs] at h
    by_cases h1 : 8 * (a0.size : Int) ≤ a1
    · rw [if_pos h1] at h
      obtain rfl := Option.some.inj h
      clear h
      go_enter Try.func32, Try.ntmps32
      go_wp2
      go_ret
      exact ⟨rfl, Below.refl _ _⟩
    · rw [if_neg h1] at h
      have hmk := print_make (P := Try.prog) 48 5 .u8 1 Try.underlying48 info5 (by decide) a0.size (by omega)
      have HO := Aside0.mk (own_made w w.heap.size 5 .u8 a0.size (Nat.le_refl _) (by omega))
      have HB := Aside0.mk (below_alloc (Below.refl w.heap.size w) (.cells (madeCells #[.int .u8 0] a0.size) 5))
      by_cases h2 : a1 ≤ 0
      · rw [if_pos h2] at h
        obtain rfl := Option.some.inj h
        clear h
        have hcv := own_string (P := Try.prog) Try.underlying48 Try.underlying5 Try.underlying9 HO.out
        go_enter Try.func32, Try.ntmps32
        go_wp2
        go_ret
        exact ⟨rfl, HB.out⟩
      · rw [if_neg h2] at h
        obtain rfl := Option.some.inj h
        clear h
        have hk0 : 0 ≤ a1 / 8 := by omega
        have hk1 : a1 / 8 < (a0.size : Int) := by omega
        have hes : (a0.extract 0 (a1 / 8).toNat).size ≤ a0.size := by rw [ByteArray.size_extract]; omega
        obtain ⟨W2, hcp, HO2, HB2, hsz⟩ := Go.Proofs.Ytbpclinffgedjaa.Pre.copy_own_str (P := Try.prog) 48 9 3 (a0.extract 0 (a1 / 8).toNat) Try.underlying48 (by kernel_rfl) HO.out hes
        have HB2 := Aside0.mk (HB2 (Nat.le_refl _) HB.out)
        obtain ⟨x, hx⟩ : ∃ x, x = bytesOf (a0.extract 0 (a1 / 8).toNat) ++ (List.replicate a0.size 0).drop (a0.extract 0 (a1 / 8).toNat).size := ⟨_, rfl⟩
        rw [← hx] at HO2
        obtain ⟨hc, hf⟩ := own_at HO2 (a1 / 8) hk0 hk1
        have HO3 := own_store HO2 (a1 / 8) (Go.bits .andNot .u8 (bt a0 (a1 / 8)) (255 / 2 ^ min (IntKind.u64.wrap (Go.bits .and .i64 a1 7)).toNat 8))
        rw [← hx]
        have hcv := own_string (P := Try.prog) Try.underlying48 Try.underlying5 Try.underlying9 HO3.1
        have HB3 := Aside0.mk (Below.setCell HB2.out (p := ⟨w.heap.size, (a1 / 8).toNat, none⟩) (Nat.le_refl _) (.int .u8 (Go.bits .andNot .u8 (bt a0 (a1 / 8)) (255 / 2 ^ min (IntKind.u64.wrap (Go.bits .and .i64 a1 7)).toNat 8))))
        clear hx HO3 HO2 HB2 hsz hes HB HO
        have hx7 := bt_at a0 (a1 / 8)
        go_enter Try.func32, Try.ntmps32
        go_wp2_with (first | (with_reducible refine Go.Proofs.Ytbpclinffgedjaa.Pre.wpList_copy_ rfl (.tmp 22) (.tmp 25) 48 9 rfl _ _ rfl rfl hcp ?_))
        go_ret
        exact ⟨rfl, HB3.out⟩
  · rw [if_neg hs] at h; exact absurd h (by simp)

/-! ### bits_Clean: function 34 -/
def bits_Clean.f (a0 : ByteArray) (a1 : Int) : Option (Bool) := (bits_Keep.f a0 a1).bind fun t101 => (some (t101.toList == a0.toList))
set_option maxHeartbeats 8000000 in
set_option maxRecDepth 100000 in
theorem bits_Clean.calls (a0 : ByteArray) (a1 : Int) (r : Bool) (w : World) (h : bits_Clean.f a0 a1 = some r) :
    Calls Try.prog 34 #[.string a0, .int .i64 a1] w fun e w' => e = .returned (.bool r) ∧ Below w.heap.size w w' := by
  have HB := Aside0.mk (Below.refl w.heap.size w)
  have H : ((bits_Keep.f a0 a1).bind fun t101 => (some (t101.toList == a0.toList))) = some r := h
  clear h
  replace H := Option.bind_eq_some_iff.mp H
  obtain ⟨t101, A30, H⟩ := H
  replace H : (some (t101.toList == a0.toList)) = some r := H
  have A3 := Aside0.mk A30
  clear A30
  obtain rfl := Option.some.inj H
  go_enter Try.func34, Try.ntmps34
  go_wp2_with (first | ((with_reducible refine gate_callee (f := 32) rfl ?_); refine goesL_ (some 7) rfl rfl Try.func32 (by kernel_rfl) rfl #[.string a0, .int .i64 a1] rfl (by (try simp only [List.map_toArray, List.map_cons, List.map_nil]); first | done | rfl | (simp only [List.length_drop, List.length_take]; rfl)) ?_; (with_reducible refine (bits_Keep.calls a0 a1 t101 _ A3.out).mono ?_); rintro e w4 ⟨rfl, hb⟩; refine ⟨_, rfl, ?_⟩; have n0_ := Aside0.mk (below_step (by repeat (first | (with_reducible first | exact HB.out | apply below_alloc | apply pw_below_drewN | apply below_drew1) | exact HB.out)) hb); clear HB; have HB := n0_; clear n0_; (try clear hb); (try clear hb2); (try clear hk); (try clear hi)))
  go_ret
  exact ⟨by first | rfl | (simp [errW_none, errW_some] <;> rfl) | (simp [*, errW_none, errW_some] <;> rfl), by repeat (first | (with_reducible first | exact HB.out | apply below_alloc | apply pw_below_drewN | apply below_drew1) | exact HB.out)⟩

/-! ### bits_Len8: function 54 -/
def bits_Len8.f (a0 : Int) : Option Int := if 0 ≤ a0 ∧ a0 ≤ 255 then some (Lib.bitLen a0.toNat : Int) else none
theorem bits_Len8.calls (a0 : Int) (r : Int) (w : World) (h : bits_Len8.f a0 = some r) :
    Calls Try.prog 54 #[.int .u8 a0] w fun e w' => e = .returned (.int .i64 r) ∧ Drawn0 w w' := by
  unfold bits_Len8.f at h
  by_cases hs : 0 ≤ a0 ∧ a0 ≤ 255
  · rw [if_pos hs] at h
    obtain rfl := Option.some.inj h
    exact (Go.Proofs.Ytbpclinffgedjaa.Pre.bits_Len8 a0 w hs.1 hs.2).mono fun _ _ ⟨h1, h2⟩ => ⟨h1, by rw [h2]; exact Drawn0.refl _⟩
  · rw [if_neg hs] at h; exact absurd h (by simp)

/-! ### bits_LeadingZeros8: function 51 -/
def bits_LeadingZeros8.f (a0 : Int) : Option (Int) := (bits_Len8.f a0).bind fun t102 => (some (wrap64 (8 - t102)))
set_option maxHeartbeats 8000000 in
set_option maxRecDepth 100000 in
theorem bits_LeadingZeros8.calls (a0 : Int) (r : Int) (w : World) (h : bits_LeadingZeros8.f a0 = some r) :
    Calls Try.prog 51 #[.int .u8 a0] w fun e w' => e = .returned (.int .i64 r) ∧ Drawn0 w w' := by
  have H : ((bits_Len8.f a0).bind fun t102 => (some (wrap64 (8 - t102)))) = some r := h
  clear h
  replace H := Option.bind_eq_some_iff.mp H
  obtain ⟨t102, A20, H⟩ := H
  replace H : (some (wrap64 (8 - t102))) = some r := H
  have A2 := Aside0.mk A20
  clear A20
  obtain rfl := Option.some.inj H
  go_enter Try.func51, Try.ntmps51
  go_wp2_with (first | ((with_reducible refine gate_callee (f := 54) rfl ?_); refine goesL_ (some 4) rfl rfl Try.func54 (by kernel_rfl) rfl #[.int .u8 a0] rfl (by (try simp only [List.map_toArray, List.map_cons, List.map_nil]); first | done | rfl | (simp only [List.length_drop, List.length_take]; rfl)) ?_; (with_reducible refine (bits_Len8.calls a0 t102 _ A2.out).mono ?_); rintro e w' ⟨rfl, ⟨nd, rfl⟩⟩; refine ⟨_, rfl, ?_⟩))
  go_ret
  exact ⟨by first | rfl | (simp; done) | (simp [*]; done), by repeat (first | exact Drawn0.refl _ | apply Drawn0.step)⟩

/-! ### bits_Alike: function 36 -/
def bits_Alike.l0 : Nat → ByteArray → ByteArray → Int → Int → Option (Int)
  | 0, _, _, _, _ => none
  | k + 1, x0, x1, x11, x12 => if x12 < x11 then (if 0 ≤ x12 then (if x12 < (x0.size : Int) then (if x12 < (x1.size : Int) then (if (Go.bits .xor .u8 (bt x0 x12) (bt x1 x12)) = 0 then (bits_Alike.l0 k x0 x1 x11 (wrap64 (x12 + 1))) else ((bits_LeadingZeros8.f (Go.bits .xor .u8 (bt x0 x12) (bt x1 x12))).bind fun t103 => (some (wrap64 ((wrap64 (8 * x12)) + t103))))) else (none)) else (none)) else (none)) else (some (wrap64 (8 * (mn (x0.size : Int) (x1.size : Int)))))
def bits_Alike.f (k : Nat) (a0 : ByteArray) (a1 : ByteArray) : Option (Int) := bits_Alike.l0 k a0 a1 (mn (a0.size : Int) (a1.size : Int)) 0
theorem bits_Alike.mono_l : ∀ k, (∀ y0 y1 y2 y3, LeO (bits_Alike.l0 k y0 y1 y2 y3) (bits_Alike.l0 (k + 1) y0 y1 y2 y3))
  | 0 => fun _ _ _ _ r h => by simp [bits_Alike.l0] at h
  | k + 1 => by
    have ih0 := bits_Alike.mono_l k
    · intro y0 y1 y2 y3
      unfold bits_Alike.l0
      repeat' first
      | (with_reducible exact ih0 _ _ _ _)
      | (with_reducible exact LeO.refl _)
      | (with_reducible exact LeO.none _)
      | (with_reducible refine LeO.ite ?_ ?_)
      | (with_reducible refine LeO.bind ?_ (fun _ => ?_))
      | exact ih0 _ _ _ _
      | exact LeO.none _
      | refine LeO.ite ?_ ?_
      | refine LeO.bind ?_ (fun _ => ?_)
theorem bits_Alike.mono : ∀ a0 a1 k, LeO (bits_Alike.f k a0 a1) (bits_Alike.f (k + 1) a0 a1) := by
  intro a0 a1 k
  have ih0 := bits_Alike.mono_l k
  unfold bits_Alike.f
  repeat' first
      | (with_reducible exact ih0 _ _ _ _)
      | (with_reducible exact LeO.refl _)
      | (with_reducible exact LeO.none _)
      | (with_reducible refine LeO.ite ?_ ?_)
      | (with_reducible refine LeO.bind ?_ (fun _ => ?_))
      | exact ih0 _ _ _ _
      | exact LeO.none _
      | refine LeO.ite ?_ ?_
      | refine LeO.bind ?_ (fun _ => ?_)
set_option maxHeartbeats 8000000 in
set_option maxRecDepth 100000 in
theorem bits_Alike.calls (k : Nat) (a0 : ByteArray) (a1 : ByteArray) (r : Int) (w : World) (h : bits_Alike.f k a0 a1 = some r) :
    Calls Try.prog 36 #[.string a0, .string a1] w fun e w' => e = .returned (.int .i64 r) ∧ Below w.heap.size w w' := by
  have HB := Aside0.mk (Below.refl w.heap.size w)
  have H : (bits_Alike.l0 k a0 a1 (mn (a0.size : Int) (a1.size : Int)) 0) = some r := h
  clear h
  obtain ⟨ji3, hji3⟩ : ∃ j_ : Int, (mn (a0.size : Int) (a1.size : Int)) = j_ := ⟨_, rfl⟩
  replace H : (bits_Alike.l0 k a0 a1 ji3 0) = some r := by first | (rw [hji3] at H; exact H) | (simp only [hji3] at H ⊢; exact H)
  (try (have hji3l : 0 ≤ ji3 := by (rw [← hji3]; unfold mn; (repeat' split) <;> omega)))
  (try (have hji3m : 0 ≤ ji3 := by omega))
  have hji3_ : (if (a1.size : Int) < (a0.size : Int) then (a1.size : Int) else (a0.size : Int)) = ji3 := hji3
  (try have hji3n_ := hji3_; simp only [Int.ofNat_lt] at hji3n_)
  have H' := Aside0.mk H
  clear H
  go_enter Try.func36, Try.ntmps36
  go_wp2
  repeat (go_quiet (fail); try go_wp2)
  go_loopg [12] k (fun kq v12 w' => ∃ (x12_1 : Int), v12 = .int .i64 x12_1 ∧ Aside0 (bits_Alike.l0 kq a0 a1 ji3 x12_1 = some r) ∧ Aside0 (kq ≤ k) ∧ Aside0 (Below w.heap.size w w'))
  case atStart => exact ⟨(0), (by first | rfl | (simp; done) | (simp [*]; done)), H', ⟨Nat.le_refl _⟩, ⟨by repeat (first | (with_reducible first | exact HB.out | apply below_alloc | apply pw_below_drewN | apply below_drew1) | exact HB.out)⟩⟩
  case round =>
    clear H'
    try clear p2
    try clear c3
    obtain ⟨x12_1, rfl, HA, HK1, HB⟩ := hrel
    cases gk with
    | zero => exact absurd HA.out (by simp [bits_Alike.l0])
    | succ k1 =>
      have H := HA.out
      clear HA
      simp only [bits_Alike.l0] at H
      by_cases c4 : x12_1 < ji3
      · rw [if_pos c4] at H
        have c4b0 : decide (x12_1 < ji3) = true := decide_eq_true c4
        clear c4
        by_cases c5 : 0 ≤ x12_1
        · rw [if_pos c5] at H
          have c5b0 : decide (0 ≤ x12_1) = true := decide_eq_true c5
          clear c5
          by_cases c6 : x12_1 < (a0.size : Int)
          · rw [if_pos c6] at H
            have c6b0 : decide (x12_1 < (a0.size : Int)) = true := decide_eq_true c6
            clear c6
            by_cases c8 : x12_1 < (a1.size : Int)
            · rw [if_pos c8] at H
              have c8b0 : decide (x12_1 < (a1.size : Int)) = true := decide_eq_true c8
              clear c8
              by_cases c10 : (Go.bits .xor .u8 (bt a0 x12_1) (bt a1 x12_1)) = 0
              · rw [if_pos c10] at H
                have c10b0 : ((Go.bits .xor .u8 (bt a0 x12_1) (bt a1 x12_1)) == 0) = true := beq_iff_eq.mpr c10
                have c10b1 : ((Go.bits .xor .u8 (bt a0 x12_1) (bt a1 x12_1)) != 0) = false := bne_eq_false_iff_eq.mpr c10
                clear c10
                have H' := Aside0.mk H
                clear H
                have p7 : 0 ≤ (x12_1 : Int) := of_decide_eq_true (by first | (with_reducible assumption) | assumption)
                have q7 : x12_1 < (a0.size : Int) := of_decide_eq_true (by first | (with_reducible assumption) | assumption)
                have hx7 := bt_at a0 x12_1
                replace p7 := eq_true p7
                replace q7 := eq_true q7
                have p9 : 0 ≤ (x12_1 : Int) := of_decide_eq_true (by first | (with_reducible assumption) | assumption)
                have q9 : x12_1 < (a1.size : Int) := of_decide_eq_true (by first | (with_reducible assumption) | assumption)
                have hx9 := bt_at a1 x12_1
                replace p9 := eq_true p9
                replace q9 := eq_true q9
                go_wp2
                repeat (go_quiet (fail); try go_wp2)
                go_roundg k1
                case measure => have := HK1.out; omega
                case rel => exact ⟨(wrap64 (x12_1 + 1)), (by first | rfl | (simp; done) | (simp [*]; done)), H', ⟨by have := HK1.out; omega⟩, ⟨by repeat (first | (with_reducible first | exact HB.out | apply below_alloc | apply pw_below_drewN | apply below_drew1) | exact HB.out)⟩⟩
              · rw [if_neg c10] at H
                have c10b0 : ((Go.bits .xor .u8 (bt a0 x12_1) (bt a1 x12_1)) == 0) = false := beq_eq_false_iff_ne.mpr c10
                have c10b1 : ((Go.bits .xor .u8 (bt a0 x12_1) (bt a1 x12_1)) != 0) = true := bne_iff_ne.mpr c10
                replace H := Option.bind_eq_some_iff.mp H
                obtain ⟨t103, A110, H⟩ := H
                replace H : (some (wrap64 ((wrap64 (8 * x12_1)) + t103))) = some r := H
                have A11 := Aside0.mk A110
                clear A110
                obtain rfl := Option.some.inj H
                have p7 : 0 ≤ (x12_1 : Int) := of_decide_eq_true (by first | (with_reducible assumption) | assumption)
                have q7 : x12_1 < (a0.size : Int) := of_decide_eq_true (by first | (with_reducible assumption) | assumption)
                have hx7 := bt_at a0 x12_1
                replace p7 := eq_true p7
                replace q7 := eq_true q7
                have p9 : 0 ≤ (x12_1 : Int) := of_decide_eq_true (by first | (with_reducible assumption) | assumption)
                have q9 : x12_1 < (a1.size : Int) := of_decide_eq_true (by first | (with_reducible assumption) | assumption)
                have hx9 := bt_at a1 x12_1
                replace p9 := eq_true p9
                replace q9 := eq_true q9
                go_wp2_with (first | (go_at_call 51; (with_reducible refine (bits_LeadingZeros8.calls (Go.bits .xor .u8 (bt a0 x12_1) (bt a1 x12_1)) t103 _ A11.out).mono ?_); rintro e w' ⟨rfl, ⟨nd, rfl⟩⟩; (try first | exact ⟨rfl, _, World.drewN_drewN _ _ _⟩ | exact ⟨rfl, _, Eq.trans (World.drewN_drewN _ _ _) (congrArg (World.drewN _) (Nat.add_assoc _ _ _))⟩)))
                repeat (go_quiet (first | (go_at_call 51; (with_reducible refine (bits_LeadingZeros8.calls (Go.bits .xor .u8 (bt a0 x12_1) (bt a1 x12_1)) t103 _ A11.out).mono ?_); rintro e w' ⟨rfl, ⟨nd, rfl⟩⟩; (try first | exact ⟨rfl, _, World.drewN_drewN _ _ _⟩ | exact ⟨rfl, _, Eq.trans (World.drewN_drewN _ _ _) (congrArg (World.drewN _) (Nat.add_assoc _ _ _))⟩))); try go_wp2_with (first | (go_at_call 51; (with_reducible refine (bits_LeadingZeros8.calls (Go.bits .xor .u8 (bt a0 x12_1) (bt a1 x12_1)) t103 _ A11.out).mono ?_); rintro e w' ⟨rfl, ⟨nd, rfl⟩⟩; (try first | exact ⟨rfl, _, World.drewN_drewN _ _ _⟩ | exact ⟨rfl, _, Eq.trans (World.drewN_drewN _ _ _) (congrArg (World.drewN _) (Nat.add_assoc _ _ _))⟩))))
                go_ret
                exact ⟨by first | rfl | (simp [errW_none, errW_some] <;> rfl) | (simp only [← hji3]; first | rfl | (simp [errW_none, errW_some] <;> rfl)) | (simp [*, errW_none, errW_some] <;> rfl), by repeat (first | (with_reducible first | exact HB.out | apply below_alloc | apply pw_below_drewN | apply below_drew1) | exact HB.out)⟩
            · rw [if_neg c8] at H
              exact absurd H (by simp)
          · rw [if_neg c6] at H
            exact absurd H (by simp)
        · rw [if_neg c5] at H
          exact absurd H (by simp)
      · rw [if_neg c4] at H
        have c4b0 : decide (x12_1 < ji3) = false := decide_eq_false c4
        clear c4
        obtain ⟨ji12, hji12⟩ : ∃ j_ : Int, (mn (a0.size : Int) (a1.size : Int)) = j_ := ⟨_, rfl⟩
        replace H : (some (wrap64 (8 * (ji12)))) = some r := by first | (rw [hji12] at H; exact H) | (simp only [hji12] at H ⊢; exact H)
        (try (have hji12l : 0 ≤ ji12 := by (rw [← hji12]; unfold mn; (repeat' split) <;> omega)))
        (try (have hji12m : 0 ≤ ji12 := by omega))
        have hji12_ : (if (a1.size : Int) < (a0.size : Int) then (a1.size : Int) else (a0.size : Int)) = ji12 := hji12
        (try have hji12n_ := hji12_; simp only [Int.ofNat_lt] at hji12n_)
        obtain rfl := Option.some.inj H
        go_wp2
        repeat (go_quiet (fail); try go_wp2)
        go_ret
        exact ⟨by first | rfl | (simp [errW_none, errW_some] <;> rfl) | (simp only [← hji3, ← hji12]; first | rfl | (simp [errW_none, errW_some] <;> rfl)) | (simp [*, errW_none, errW_some] <;> rfl), by repeat (first | (with_reducible first | exact HB.out | apply below_alloc | apply pw_below_drewN | apply below_drew1) | exact HB.out)⟩

/-! ### roadbooklaw03_awake: function 29 -/
def roadbooklaw03_awake.f (k : Nat)  : Option (Bool) := (bits_Keep.f (⟨#[255, 255]⟩ : ByteArray) 12).bind fun t104 => (if t104.toList = ([255, 240] : List UInt8) then ((bits_Bit.f (⟨#[1]⟩ : ByteArray) 7).bind fun t105 => (if t105 = true then ((bits_Bit.f (⟨#[1]⟩ : ByteArray) 6).bind fun t106 => (if t106 = true then (some false) else ((bits_Alike.f k (⟨#[255, 0]⟩ : ByteArray) (⟨#[255, 1]⟩ : ByteArray)).bind fun t107 => (if t107 = 15 then ((bits_Clean.f (⟨#[240]⟩ : ByteArray) 4).bind fun t108 => (if t108 = true then ((bits_Clean.f (⟨#[240]⟩ : ByteArray) 3).bind fun t109 => (some (!t109))) else (some false))) else (some false))))) else (some false))) else (some false))
theorem roadbooklaw03_awake.mono : ∀ k, LeO (roadbooklaw03_awake.f k ) (roadbooklaw03_awake.f (k + 1) ) := by
  intro  k
  unfold roadbooklaw03_awake.f
  repeat' first
      | (with_reducible exact bits_Alike.mono _ _ _)
      | (with_reducible exact LeO.refl _)
      | (with_reducible exact LeO.none _)
      | (with_reducible refine LeO.ite ?_ ?_)
      | (with_reducible refine LeO.bind ?_ (fun _ => ?_))
      | exact bits_Alike.mono _ _ _
      | exact LeO.none _
      | refine LeO.ite ?_ ?_
      | refine LeO.bind ?_ (fun _ => ?_)
set_option maxHeartbeats 8000000 in
set_option maxRecDepth 100000 in
theorem roadbooklaw03_awake.calls (k : Nat)  (r : Bool) (w : World) (h : roadbooklaw03_awake.f k  = some r) :
    Calls Try.prog 29 #[] w fun e w' => e = .returned (.bool r) ∧ Below w.heap.size w w' := by
  have HB := Aside0.mk (Below.refl w.heap.size w)
  have H : ((bits_Keep.f (⟨#[255, 255]⟩ : ByteArray) 12).bind fun t104 => (if t104.toList = ([255, 240] : List UInt8) then ((bits_Bit.f (⟨#[1]⟩ : ByteArray) 7).bind fun t105 => (if t105 = true then ((bits_Bit.f (⟨#[1]⟩ : ByteArray) 6).bind fun t106 => (if t106 = true then (some false) else ((bits_Alike.f k (⟨#[255, 0]⟩ : ByteArray) (⟨#[255, 1]⟩ : ByteArray)).bind fun t107 => (if t107 = 15 then ((bits_Clean.f (⟨#[240]⟩ : ByteArray) 4).bind fun t108 => (if t108 = true then ((bits_Clean.f (⟨#[240]⟩ : ByteArray) 3).bind fun t109 => (some (!t109))) else (some false))) else (some false))))) else (some false))) else (some false))) = some r := h
  clear h
  replace H := Option.bind_eq_some_iff.mp H
  obtain ⟨t104, A10, H⟩ := H
  replace H : (if t104.toList = ([255, 240] : List UInt8) then ((bits_Bit.f (⟨#[1]⟩ : ByteArray) 7).bind fun t105 => (if t105 = true then ((bits_Bit.f (⟨#[1]⟩ : ByteArray) 6).bind fun t106 => (if t106 = true then (some false) else ((bits_Alike.f k (⟨#[255, 0]⟩ : ByteArray) (⟨#[255, 1]⟩ : ByteArray)).bind fun t107 => (if t107 = 15 then ((bits_Clean.f (⟨#[240]⟩ : ByteArray) 4).bind fun t108 => (if t108 = true then ((bits_Clean.f (⟨#[240]⟩ : ByteArray) 3).bind fun t109 => (some (!t109))) else (some false))) else (some false))))) else (some false))) else (some false)) = some r := H
  have A1 := Aside0.mk A10
  clear A10
  by_cases c2 : t104.toList = ([255, 240] : List UInt8)
  · rw [if_pos c2] at H
    have c2b0 : (t104.toList == ([255, 240] : List UInt8)) = true := beq_iff_eq.mpr c2
    have c2b1 : (t104.toList != ([255, 240] : List UInt8)) = false := bne_eq_false_iff_eq.mpr c2
    clear c2
    replace H := Option.bind_eq_some_iff.mp H
    obtain ⟨t105, A30, H⟩ := H
    replace H : (if t105 = true then ((bits_Bit.f (⟨#[1]⟩ : ByteArray) 6).bind fun t106 => (if t106 = true then (some false) else ((bits_Alike.f k (⟨#[255, 0]⟩ : ByteArray) (⟨#[255, 1]⟩ : ByteArray)).bind fun t107 => (if t107 = 15 then ((bits_Clean.f (⟨#[240]⟩ : ByteArray) 4).bind fun t108 => (if t108 = true then ((bits_Clean.f (⟨#[240]⟩ : ByteArray) 3).bind fun t109 => (some (!t109))) else (some false))) else (some false))))) else (some false)) = some r := H
    have A3 := Aside0.mk A30
    clear A30
    by_cases c4 : t105 = true
    · subst c4
      have H1 : ((bits_Bit.f (⟨#[1]⟩ : ByteArray) 6).bind fun t106 => (if t106 = true then (some false) else ((bits_Alike.f k (⟨#[255, 0]⟩ : ByteArray) (⟨#[255, 1]⟩ : ByteArray)).bind fun t107 => (if t107 = 15 then ((bits_Clean.f (⟨#[240]⟩ : ByteArray) 4).bind fun t108 => (if t108 = true then ((bits_Clean.f (⟨#[240]⟩ : ByteArray) 3).bind fun t109 => (some (!t109))) else (some false))) else (some false))))) = some r := by rw [if_pos rfl] at H; exact H
      clear H
      have H := H1
      clear H1
      replace H := Option.bind_eq_some_iff.mp H
      obtain ⟨t106, A50, H⟩ := H
      replace H : (if t106 = true then (some false) else ((bits_Alike.f k (⟨#[255, 0]⟩ : ByteArray) (⟨#[255, 1]⟩ : ByteArray)).bind fun t107 => (if t107 = 15 then ((bits_Clean.f (⟨#[240]⟩ : ByteArray) 4).bind fun t108 => (if t108 = true then ((bits_Clean.f (⟨#[240]⟩ : ByteArray) 3).bind fun t109 => (some (!t109))) else (some false))) else (some false)))) = some r := H
      have A5 := Aside0.mk A50
      clear A50
      by_cases c6 : t106 = true
      · subst c6
        have H1 : (some false) = some r := by rw [if_pos rfl] at H; exact H
        clear H
        have H := H1
        clear H1
        obtain rfl := Option.some.inj H
        go_enter Try.func29, Try.ntmps29
        go_wp2_with (first | ((with_reducible refine gate_callee (f := 32) rfl ?_); refine goesL_ (some 1) rfl rfl Try.func32 (by kernel_rfl) rfl #[.string (⟨#[255, 255]⟩ : ByteArray), .int .i64 12] rfl (by (try simp only [List.map_toArray, List.map_cons, List.map_nil]); first | done | rfl | (simp only [List.length_drop, List.length_take]; rfl)) ?_; (with_reducible refine (bits_Keep.calls (⟨#[255, 255]⟩ : ByteArray) 12 t104 _ A1.out).mono ?_); rintro e w7 ⟨rfl, hb⟩; refine ⟨_, rfl, ?_⟩; have n0_ := Aside0.mk (below_step (by repeat (first | (with_reducible first | exact HB.out | apply below_alloc | apply pw_below_drewN | apply below_drew1) | exact HB.out)) hb); clear HB; have HB := n0_; clear n0_; (try clear hb); (try clear hb2); (try clear hk); (try clear hi)) | (go_at_call 30; (with_reducible refine (bits_Bit.calls (⟨#[1]⟩ : ByteArray) 7 true _ A3.out).mono ?_); rintro e w' ⟨rfl, ⟨nd, rfl⟩⟩) | (go_at_call 30; (with_reducible refine (bits_Bit.calls (⟨#[1]⟩ : ByteArray) 6 true _ A5.out).mono ?_); rintro e w' ⟨rfl, ⟨nd, rfl⟩⟩))
        go_ret
        exact ⟨by first | rfl | (simp [errW_none, errW_some] <;> rfl) | (simp [*, errW_none, errW_some] <;> rfl), by repeat (first | (with_reducible first | exact HB.out | apply below_alloc | apply pw_below_drewN | apply below_drew1) | exact HB.out)⟩
      · replace c6 := Bool.eq_false_iff.mpr c6
        subst c6
        have H1 : ((bits_Alike.f k (⟨#[255, 0]⟩ : ByteArray) (⟨#[255, 1]⟩ : ByteArray)).bind fun t107 => (if t107 = 15 then ((bits_Clean.f (⟨#[240]⟩ : ByteArray) 4).bind fun t108 => (if t108 = true then ((bits_Clean.f (⟨#[240]⟩ : ByteArray) 3).bind fun t109 => (some (!t109))) else (some false))) else (some false))) = some r := by rw [if_neg (show ¬ (false = true) by decide)] at H; exact H
        clear H
        have H := H1
        clear H1
        replace H := Option.bind_eq_some_iff.mp H
        obtain ⟨t107, A80, H⟩ := H
        replace H : (if t107 = 15 then ((bits_Clean.f (⟨#[240]⟩ : ByteArray) 4).bind fun t108 => (if t108 = true then ((bits_Clean.f (⟨#[240]⟩ : ByteArray) 3).bind fun t109 => (some (!t109))) else (some false))) else (some false)) = some r := H
        have A8 := Aside0.mk A80
        clear A80
        by_cases c9 : t107 = 15
        · rw [if_pos c9] at H
          have c9b0 : (t107 == 15) = true := beq_iff_eq.mpr c9
          have c9b1 : (t107 != 15) = false := bne_eq_false_iff_eq.mpr c9
          clear c9
          replace H := Option.bind_eq_some_iff.mp H
          obtain ⟨t108, A100, H⟩ := H
          replace H : (if t108 = true then ((bits_Clean.f (⟨#[240]⟩ : ByteArray) 3).bind fun t109 => (some (!t109))) else (some false)) = some r := H
          have A10 := Aside0.mk A100
          clear A100
          by_cases c11 : t108 = true
          · subst c11
            have H1 : ((bits_Clean.f (⟨#[240]⟩ : ByteArray) 3).bind fun t109 => (some (!t109))) = some r := by rw [if_pos rfl] at H; exact H
            clear H
            have H := H1
            clear H1
            replace H := Option.bind_eq_some_iff.mp H
            obtain ⟨t109, A120, H⟩ := H
            replace H : (some (!t109)) = some r := H
            have A12 := Aside0.mk A120
            clear A120
            obtain rfl := Option.some.inj H
            go_enter Try.func29, Try.ntmps29
            go_wp2_with (first | ((with_reducible refine gate_callee (f := 32) rfl ?_); refine goesL_ (some 1) rfl rfl Try.func32 (by kernel_rfl) rfl #[.string (⟨#[255, 255]⟩ : ByteArray), .int .i64 12] rfl (by (try simp only [List.map_toArray, List.map_cons, List.map_nil]); first | done | rfl | (simp only [List.length_drop, List.length_take]; rfl)) ?_; (with_reducible refine (bits_Keep.calls (⟨#[255, 255]⟩ : ByteArray) 12 t104 _ A1.out).mono ?_); rintro e w13 ⟨rfl, hb⟩; refine ⟨_, rfl, ?_⟩; have n0_ := Aside0.mk (below_step (by repeat (first | (with_reducible first | exact HB.out | apply below_alloc | apply pw_below_drewN | apply below_drew1) | exact HB.out)) hb); clear HB; have HB := n0_; clear n0_; (try clear hb); (try clear hb2); (try clear hk); (try clear hi)) | (go_at_call 30; (with_reducible refine (bits_Bit.calls (⟨#[1]⟩ : ByteArray) 7 true _ A3.out).mono ?_); rintro e w' ⟨rfl, ⟨nd, rfl⟩⟩) | (go_at_call 30; (with_reducible refine (bits_Bit.calls (⟨#[1]⟩ : ByteArray) 6 false _ A5.out).mono ?_); rintro e w' ⟨rfl, ⟨nd, rfl⟩⟩) | (go_at_call 36; (with_reducible refine (bits_Alike.calls k (⟨#[255, 0]⟩ : ByteArray) (⟨#[255, 1]⟩ : ByteArray) t107 _ A8.out).mono ?_); rintro e w14 ⟨rfl, hb⟩; have n0_ := Aside0.mk (below_step (by repeat (first | (with_reducible first | exact HB.out | apply below_alloc | apply pw_below_drewN | apply below_drew1) | exact HB.out)) hb); clear HB; have HB := n0_; clear n0_; (try clear hb); (try clear hb2); (try clear hk); (try clear hi)) | (go_at_call 34; (with_reducible refine (bits_Clean.calls (⟨#[240]⟩ : ByteArray) 4 true _ A10.out).mono ?_); rintro e w15 ⟨rfl, hb⟩; have n0_ := Aside0.mk (below_step (by repeat (first | (with_reducible first | exact HB.out | apply below_alloc | apply pw_below_drewN | apply below_drew1) | exact HB.out)) hb); clear HB; have HB := n0_; clear n0_; (try clear hb); (try clear hb2); (try clear hk); (try clear hi)) | (go_at_call 34; (with_reducible refine (bits_Clean.calls (⟨#[240]⟩ : ByteArray) 3 t109 _ A12.out).mono ?_); rintro e w16 ⟨rfl, hb⟩; have n0_ := Aside0.mk (below_step (by repeat (first | (with_reducible first | exact HB.out | apply below_alloc | apply pw_below_drewN | apply below_drew1) | exact HB.out)) hb); clear HB; have HB := n0_; clear n0_; (try clear hb); (try clear hb2); (try clear hk); (try clear hi)))
            go_ret
            exact ⟨by first | rfl | (simp [errW_none, errW_some] <;> rfl) | (simp [*, errW_none, errW_some] <;> rfl), by repeat (first | (with_reducible first | exact HB.out | apply below_alloc | apply pw_below_drewN | apply below_drew1) | exact HB.out)⟩
          · replace c11 := Bool.eq_false_iff.mpr c11
            subst c11
            have H1 : (some false) = some r := by rw [if_neg (show ¬ (false = true) by decide)] at H; exact H
            clear H
            have H := H1
            clear H1
            obtain rfl := Option.some.inj H
            go_enter Try.func29, Try.ntmps29
            go_wp2_with (first | ((with_reducible refine gate_callee (f := 32) rfl ?_); refine goesL_ (some 1) rfl rfl Try.func32 (by kernel_rfl) rfl #[.string (⟨#[255, 255]⟩ : ByteArray), .int .i64 12] rfl (by (try simp only [List.map_toArray, List.map_cons, List.map_nil]); first | done | rfl | (simp only [List.length_drop, List.length_take]; rfl)) ?_; (with_reducible refine (bits_Keep.calls (⟨#[255, 255]⟩ : ByteArray) 12 t104 _ A1.out).mono ?_); rintro e w17 ⟨rfl, hb⟩; refine ⟨_, rfl, ?_⟩; have n0_ := Aside0.mk (below_step (by repeat (first | (with_reducible first | exact HB.out | apply below_alloc | apply pw_below_drewN | apply below_drew1) | exact HB.out)) hb); clear HB; have HB := n0_; clear n0_; (try clear hb); (try clear hb2); (try clear hk); (try clear hi)) | (go_at_call 30; (with_reducible refine (bits_Bit.calls (⟨#[1]⟩ : ByteArray) 7 true _ A3.out).mono ?_); rintro e w' ⟨rfl, ⟨nd, rfl⟩⟩) | (go_at_call 30; (with_reducible refine (bits_Bit.calls (⟨#[1]⟩ : ByteArray) 6 false _ A5.out).mono ?_); rintro e w' ⟨rfl, ⟨nd, rfl⟩⟩) | (go_at_call 36; (with_reducible refine (bits_Alike.calls k (⟨#[255, 0]⟩ : ByteArray) (⟨#[255, 1]⟩ : ByteArray) t107 _ A8.out).mono ?_); rintro e w18 ⟨rfl, hb⟩; have n0_ := Aside0.mk (below_step (by repeat (first | (with_reducible first | exact HB.out | apply below_alloc | apply pw_below_drewN | apply below_drew1) | exact HB.out)) hb); clear HB; have HB := n0_; clear n0_; (try clear hb); (try clear hb2); (try clear hk); (try clear hi)) | (go_at_call 34; (with_reducible refine (bits_Clean.calls (⟨#[240]⟩ : ByteArray) 4 false _ A10.out).mono ?_); rintro e w19 ⟨rfl, hb⟩; have n0_ := Aside0.mk (below_step (by repeat (first | (with_reducible first | exact HB.out | apply below_alloc | apply pw_below_drewN | apply below_drew1) | exact HB.out)) hb); clear HB; have HB := n0_; clear n0_; (try clear hb); (try clear hb2); (try clear hk); (try clear hi)))
            go_ret
            exact ⟨by first | rfl | (simp [errW_none, errW_some] <;> rfl) | (simp [*, errW_none, errW_some] <;> rfl), by repeat (first | (with_reducible first | exact HB.out | apply below_alloc | apply pw_below_drewN | apply below_drew1) | exact HB.out)⟩
        · rw [if_neg c9] at H
          have c9b0 : (t107 == 15) = false := beq_eq_false_iff_ne.mpr c9
          have c9b1 : (t107 != 15) = true := bne_iff_ne.mpr c9
          obtain rfl := Option.some.inj H
          go_enter Try.func29, Try.ntmps29
          go_wp2_with (first | ((with_reducible refine gate_callee (f := 32) rfl ?_); refine goesL_ (some 1) rfl rfl Try.func32 (by kernel_rfl) rfl #[.string (⟨#[255, 255]⟩ : ByteArray), .int .i64 12] rfl (by (try simp only [List.map_toArray, List.map_cons, List.map_nil]); first | done | rfl | (simp only [List.length_drop, List.length_take]; rfl)) ?_; (with_reducible refine (bits_Keep.calls (⟨#[255, 255]⟩ : ByteArray) 12 t104 _ A1.out).mono ?_); rintro e w20 ⟨rfl, hb⟩; refine ⟨_, rfl, ?_⟩; have n0_ := Aside0.mk (below_step (by repeat (first | (with_reducible first | exact HB.out | apply below_alloc | apply pw_below_drewN | apply below_drew1) | exact HB.out)) hb); clear HB; have HB := n0_; clear n0_; (try clear hb); (try clear hb2); (try clear hk); (try clear hi)) | (go_at_call 30; (with_reducible refine (bits_Bit.calls (⟨#[1]⟩ : ByteArray) 7 true _ A3.out).mono ?_); rintro e w' ⟨rfl, ⟨nd, rfl⟩⟩) | (go_at_call 30; (with_reducible refine (bits_Bit.calls (⟨#[1]⟩ : ByteArray) 6 false _ A5.out).mono ?_); rintro e w' ⟨rfl, ⟨nd, rfl⟩⟩) | (go_at_call 36; (with_reducible refine (bits_Alike.calls k (⟨#[255, 0]⟩ : ByteArray) (⟨#[255, 1]⟩ : ByteArray) t107 _ A8.out).mono ?_); rintro e w21 ⟨rfl, hb⟩; have n0_ := Aside0.mk (below_step (by repeat (first | (with_reducible first | exact HB.out | apply below_alloc | apply pw_below_drewN | apply below_drew1) | exact HB.out)) hb); clear HB; have HB := n0_; clear n0_; (try clear hb); (try clear hb2); (try clear hk); (try clear hi)))
          go_ret
          exact ⟨by first | rfl | (simp [errW_none, errW_some] <;> rfl) | (simp [*, errW_none, errW_some] <;> rfl), by repeat (first | (with_reducible first | exact HB.out | apply below_alloc | apply pw_below_drewN | apply below_drew1) | exact HB.out)⟩
    · replace c4 := Bool.eq_false_iff.mpr c4
      subst c4
      have H1 : (some false) = some r := by rw [if_neg (show ¬ (false = true) by decide)] at H; exact H
      clear H
      have H := H1
      clear H1
      obtain rfl := Option.some.inj H
      go_enter Try.func29, Try.ntmps29
      go_wp2_with (first | ((with_reducible refine gate_callee (f := 32) rfl ?_); refine goesL_ (some 1) rfl rfl Try.func32 (by kernel_rfl) rfl #[.string (⟨#[255, 255]⟩ : ByteArray), .int .i64 12] rfl (by (try simp only [List.map_toArray, List.map_cons, List.map_nil]); first | done | rfl | (simp only [List.length_drop, List.length_take]; rfl)) ?_; (with_reducible refine (bits_Keep.calls (⟨#[255, 255]⟩ : ByteArray) 12 t104 _ A1.out).mono ?_); rintro e w22 ⟨rfl, hb⟩; refine ⟨_, rfl, ?_⟩; have n0_ := Aside0.mk (below_step (by repeat (first | (with_reducible first | exact HB.out | apply below_alloc | apply pw_below_drewN | apply below_drew1) | exact HB.out)) hb); clear HB; have HB := n0_; clear n0_; (try clear hb); (try clear hb2); (try clear hk); (try clear hi)) | (go_at_call 30; (with_reducible refine (bits_Bit.calls (⟨#[1]⟩ : ByteArray) 7 false _ A3.out).mono ?_); rintro e w' ⟨rfl, ⟨nd, rfl⟩⟩))
      go_ret
      exact ⟨by first | rfl | (simp [errW_none, errW_some] <;> rfl) | (simp [*, errW_none, errW_some] <;> rfl), by repeat (first | (with_reducible first | exact HB.out | apply below_alloc | apply pw_below_drewN | apply below_drew1) | exact HB.out)⟩
  · rw [if_neg c2] at H
    have c2b0 : (t104.toList == ([255, 240] : List UInt8)) = false := beq_eq_false_iff_ne.mpr c2
    have c2b1 : (t104.toList != ([255, 240] : List UInt8)) = true := bne_iff_ne.mpr c2
    obtain rfl := Option.some.inj H
    go_enter Try.func29, Try.ntmps29
    go_wp2_with (first | ((with_reducible refine gate_callee (f := 32) rfl ?_); refine goesL_ (some 1) rfl rfl Try.func32 (by kernel_rfl) rfl #[.string (⟨#[255, 255]⟩ : ByteArray), .int .i64 12] rfl (by (try simp only [List.map_toArray, List.map_cons, List.map_nil]); first | done | rfl | (simp only [List.length_drop, List.length_take]; rfl)) ?_; (with_reducible refine (bits_Keep.calls (⟨#[255, 255]⟩ : ByteArray) 12 t104 _ A1.out).mono ?_); rintro e w23 ⟨rfl, hb⟩; refine ⟨_, rfl, ?_⟩; have n0_ := Aside0.mk (below_step (by repeat (first | (with_reducible first | exact HB.out | apply below_alloc | apply pw_below_drewN | apply below_drew1) | exact HB.out)) hb); clear HB; have HB := n0_; clear n0_; (try clear hb); (try clear hb2); (try clear hk); (try clear hi)))
    go_ret
    exact ⟨by first | rfl | (simp [errW_none, errW_some] <;> rfl) | (simp [*, errW_none, errW_some] <;> rfl), by repeat (first | (with_reducible first | exact HB.out | apply below_alloc | apply pw_below_drewN | apply below_drew1) | exact HB.out)⟩

/-! ### roadbooklaw03_BitsAlike: function 10 -/
mutual
def roadbooklaw03_BitsAlike.j0 : Nat → ByteArray → ByteArray → Bool → Option (Bool)
  | 0, _, _, _ => none
  | k + 1, x0, x1, x15 => if x15 = true then ((roadbooklaw03_awake.f k).bind fun t110 => (some t110)) else ((bits_Alike.f k x0 x1).bind fun t111 => (if t111 < 0 then (roadbooklaw03_BitsAlike.j1 k x0 x1 t111 true) else (if t111 > (wrap64 (8 * (x0.size : Int))) then (roadbooklaw03_BitsAlike.j1 k x0 x1 t111 true) else ((bits_Keep.f x0 t111).bind fun t112 => ((bits_Keep.f x1 t111).bind fun t113 => (if t112.toList = t113.toList then ((bits_Alike.f k x1 x0).bind fun t114 => (roadbooklaw03_BitsAlike.j1 k x0 x1 t111 (t114 != t111))) else (roadbooklaw03_BitsAlike.j1 k x0 x1 t111 true)))))))
def roadbooklaw03_BitsAlike.j1 : Nat → ByteArray → ByteArray → Int → Bool → Option (Bool)
  | 0, _, _, _, _ => none
  | k + 1, x0, x1, x5, x44 => if x44 = true then (some false) else ((roadbooklaw03_awake.f k).bind fun t115 => (if t115 = true then (if x5 = (wrap64 (8 * (x0.size : Int))) then (if x0.toList = x1.toList then (some true) else (if x5 < (wrap64 (8 * (x0.size : Int))) then ((bits_Bit.f x0 x5).bind fun t116 => ((bits_Bit.f x1 x5).bind fun t117 => (some (t116 != t117)))) else (some false))) else (if x5 < (wrap64 (8 * (x0.size : Int))) then ((bits_Bit.f x0 x5).bind fun t118 => ((bits_Bit.f x1 x5).bind fun t119 => (some (t118 != t119)))) else (some false))) else (some false)))
end
def roadbooklaw03_BitsAlike.f (k : Nat) (a0 : ByteArray) (a1 : ByteArray) : Option (Bool) := if (a0.size : Int) > 100 then (roadbooklaw03_BitsAlike.j0 k a0 a1 true) else (roadbooklaw03_BitsAlike.j0 k a0 a1 ((a1.size : Int) != (a0.size : Int)))
theorem roadbooklaw03_BitsAlike.mono_l : ∀ k, (∀ y0 y1 y2, LeO (roadbooklaw03_BitsAlike.j0 k y0 y1 y2) (roadbooklaw03_BitsAlike.j0 (k + 1) y0 y1 y2)) ∧ (∀ y0 y1 y2 y3, LeO (roadbooklaw03_BitsAlike.j1 k y0 y1 y2 y3) (roadbooklaw03_BitsAlike.j1 (k + 1) y0 y1 y2 y3))
  | 0 => ⟨fun _ _ _ r h => by simp [roadbooklaw03_BitsAlike.j0] at h, fun _ _ _ _ r h => by simp [roadbooklaw03_BitsAlike.j1] at h⟩
  | k + 1 => by
    obtain ⟨ih0, ih1⟩ := roadbooklaw03_BitsAlike.mono_l k
    refine ⟨?_, ?_⟩
    · intro y0 y1 y2
      unfold roadbooklaw03_BitsAlike.j0
      repeat' first
      | (with_reducible exact ih0 _ _ _)
      | (with_reducible exact ih1 _ _ _ _)
      | (with_reducible exact bits_Alike.mono _ _ _)
      | (with_reducible exact roadbooklaw03_awake.mono _)
      | (with_reducible exact LeO.refl _)
      | (with_reducible exact LeO.none _)
      | (with_reducible refine LeO.ite ?_ ?_)
      | (with_reducible refine LeO.bind ?_ (fun _ => ?_))
      | exact ih0 _ _ _
      | exact ih1 _ _ _ _
      | exact bits_Alike.mono _ _ _
      | exact roadbooklaw03_awake.mono _
      | exact LeO.none _
      | refine LeO.ite ?_ ?_
      | refine LeO.bind ?_ (fun _ => ?_)
    · intro y0 y1 y2 y3
      unfold roadbooklaw03_BitsAlike.j1
      repeat' first
      | (with_reducible exact ih0 _ _ _)
      | (with_reducible exact ih1 _ _ _ _)
      | (with_reducible exact bits_Alike.mono _ _ _)
      | (with_reducible exact roadbooklaw03_awake.mono _)
      | (with_reducible exact LeO.refl _)
      | (with_reducible exact LeO.none _)
      | (with_reducible refine LeO.ite ?_ ?_)
      | (with_reducible refine LeO.bind ?_ (fun _ => ?_))
      | exact ih0 _ _ _
      | exact ih1 _ _ _ _
      | exact bits_Alike.mono _ _ _
      | exact roadbooklaw03_awake.mono _
      | exact LeO.none _
      | refine LeO.ite ?_ ?_
      | refine LeO.bind ?_ (fun _ => ?_)
theorem roadbooklaw03_BitsAlike.mono : ∀ a0 a1 k, LeO (roadbooklaw03_BitsAlike.f k a0 a1) (roadbooklaw03_BitsAlike.f (k + 1) a0 a1) := by
  intro a0 a1 k
  obtain ⟨ih0, ih1⟩ := roadbooklaw03_BitsAlike.mono_l k
  unfold roadbooklaw03_BitsAlike.f
  repeat' first
      | (with_reducible exact ih0 _ _ _)
      | (with_reducible exact ih1 _ _ _ _)
      | (with_reducible exact bits_Alike.mono _ _ _)
      | (with_reducible exact roadbooklaw03_awake.mono _)
      | (with_reducible exact LeO.refl _)
      | (with_reducible exact LeO.none _)
      | (with_reducible refine LeO.ite ?_ ?_)
      | (with_reducible refine LeO.bind ?_ (fun _ => ?_))
      | exact ih0 _ _ _
      | exact ih1 _ _ _ _
      | exact bits_Alike.mono _ _ _
      | exact roadbooklaw03_awake.mono _
      | exact LeO.none _
      | refine LeO.ite ?_ ?_
      | refine LeO.bind ?_ (fun _ => ?_)
set_option maxHeartbeats 8000000 in
set_option maxRecDepth 100000 in
theorem roadbooklaw03_BitsAlike.calls (k : Nat) (a0 : ByteArray) (a1 : ByteArray) (r : Bool) (w : World) (h : roadbooklaw03_BitsAlike.f k a0 a1 = some r) :
    Calls Try.prog 10 #[.string a0, .string a1] w fun e w' => e = .returned (.bool r) ∧ Below w.heap.size w w' := by
  have HB := Aside0.mk (Below.refl w.heap.size w)
  have H : (if (a0.size : Int) > 100 then (roadbooklaw03_BitsAlike.j0 k a0 a1 true) else (roadbooklaw03_BitsAlike.j0 k a0 a1 ((a1.size : Int) != (a0.size : Int)))) = some r := h
  clear h
  have HC3 := Aside0.mk H
  clear H
  go_enter Try.func10, Try.ntmps10
  go_upto_region 1 with (fail)
  go_cut [15] (fun v15 wc => ∃ (kq : Nat) (x15_2 : Bool), v15 = .bool x15_2 ∧ Aside0 (roadbooklaw03_BitsAlike.j0 kq a0 a1 x15_2 = some r) ∧ Aside0 (kq ≤ k) ∧ Aside0 (Below w.heap.size w wc))
  case first =>
    have H := HC3.out
    clear HC3
    by_cases c4 : (a0.size : Int) > 100
    · rw [if_pos c4] at H
      have c4b0 : decide (100 < (a0.size : Int)) = true := decide_eq_true c4
      have c4b1 : decide (100 < a0.size) = true := decide_eq_true (by omega)
      clear c4
      (first | rw [c4b0] | (simp only [i64_w, i32_w]; rw [c4b0]) | skip)
      have H' := Aside0.mk H
      clear H
      go_wp2
      go_meet
      case rel => exact ⟨_, (true), (by first | rfl | (simp; done) | (simp [*]; done)), H', ⟨by first | omega | exact Nat.le_refl _⟩, ⟨by repeat (first | (with_reducible first | exact HB.out | apply below_alloc | apply pw_below_drewN | apply below_drew1) | exact HB.out)⟩⟩
    · rw [if_neg c4] at H
      have c4b0 : decide (100 < (a0.size : Int)) = false := decide_eq_false c4
      have c4b1 : decide (100 < a0.size) = false := decide_eq_false (by omega)
      clear c4
      (first | rw [c4b0] | (simp only [i64_w, i32_w]; rw [c4b0]) | skip)
      have H' := Aside0.mk H
      clear H
      go_wp2
      go_meet
      case rel => exact ⟨_, (((a1.size : Int) != (a0.size : Int))), (by first | rfl | (simp; done) | (simp [*]; done)), H', ⟨by first | omega | exact Nat.le_refl _⟩, ⟨by repeat (first | (with_reducible first | exact HB.out | apply below_alloc | apply pw_below_drewN | apply below_drew1) | exact HB.out)⟩⟩
  case rest =>
    clear HC3
    try clear c1
    try clear p2
    try clear c4
    try clear c4b0
    try clear c4b1
    obtain ⟨kq, x15_2, rfl, HA, HJ2, HB⟩ := hcut
    cases kq with
    | zero => exact absurd HA.out (by simp [roadbooklaw03_BitsAlike.j0])
    | succ kj2 =>
      have H := HA.out
      clear HA
      simp only [roadbooklaw03_BitsAlike.j0] at H
      by_cases c5 : x15_2 = true
      · subst c5
        have H1 : ((roadbooklaw03_awake.f kj2).bind fun t110 => (some t110)) = some r := by rw [if_pos rfl] at H; exact H
        clear H
        have H := H1
        clear H1
        replace H := Option.bind_eq_some_iff.mp H
        obtain ⟨t110, A60, H⟩ := H
        replace H : (some t110) = some r := H
        have A6 := Aside0.mk A60
        clear A60
        obtain rfl := Option.some.inj H
        go_wp2_with (first | ((with_reducible refine gate_callee (f := 29) rfl ?_); refine goesL_ (some 16) rfl rfl Try.func29 (by kernel_rfl) rfl #[] rfl (by (try simp only [List.map_toArray, List.map_cons, List.map_nil]); first | done | rfl | (simp only [List.length_drop, List.length_take]; rfl)) ?_; (with_reducible refine (roadbooklaw03_awake.calls kj2  t110 _ A6.out).mono ?_); rintro e w7 ⟨rfl, hb⟩; refine ⟨_, rfl, ?_⟩; have n0_ := Aside0.mk (below_step (by repeat (first | (with_reducible first | exact HB.out | apply below_alloc | apply pw_below_drewN | apply below_drew1) | exact HB.out)) hb); clear HB; have HB := n0_; clear n0_; (try clear hb); (try clear hb2); (try clear hk); (try clear hi)))
        go_ret
        exact ⟨by first | rfl | (simp [errW_none, errW_some] <;> rfl) | (simp [*, errW_none, errW_some] <;> rfl), by repeat (first | (with_reducible first | exact HB.out | apply below_alloc | apply pw_below_drewN | apply below_drew1) | exact HB.out)⟩
      · replace c5 := Bool.eq_false_iff.mpr c5
        subst c5
        have H1 : ((bits_Alike.f kj2 a0 a1).bind fun t111 => (if t111 < 0 then (roadbooklaw03_BitsAlike.j1 kj2 a0 a1 t111 true) else (if t111 > (wrap64 (8 * (a0.size : Int))) then (roadbooklaw03_BitsAlike.j1 kj2 a0 a1 t111 true) else ((bits_Keep.f a0 t111).bind fun t112 => ((bits_Keep.f a1 t111).bind fun t113 => (if t112.toList = t113.toList then ((bits_Alike.f kj2 a1 a0).bind fun t114 => (roadbooklaw03_BitsAlike.j1 kj2 a0 a1 t111 (t114 != t111))) else (roadbooklaw03_BitsAlike.j1 kj2 a0 a1 t111 true))))))) = some r := by rw [if_neg (show ¬ (false = true) by decide)] at H; exact H
        clear H
        have H := H1
        clear H1
        replace H := Option.bind_eq_some_iff.mp H
        obtain ⟨t111, A80, H⟩ := H
        replace H : (if t111 < 0 then (roadbooklaw03_BitsAlike.j1 kj2 a0 a1 t111 true) else (if t111 > (wrap64 (8 * (a0.size : Int))) then (roadbooklaw03_BitsAlike.j1 kj2 a0 a1 t111 true) else ((bits_Keep.f a0 t111).bind fun t112 => ((bits_Keep.f a1 t111).bind fun t113 => (if t112.toList = t113.toList then ((bits_Alike.f kj2 a1 a0).bind fun t114 => (roadbooklaw03_BitsAlike.j1 kj2 a0 a1 t111 (t114 != t111))) else (roadbooklaw03_BitsAlike.j1 kj2 a0 a1 t111 true)))))) = some r := H
        have A8 := Aside0.mk A80
        clear A80
        have HC9 := Aside0.mk H
        clear H
        go_upto_region 4 with (first | ((with_reducible refine gate_callee (f := 36) rfl ?_); refine goesL_ (some 19) rfl rfl Try.func36 (by kernel_rfl) rfl #[.string a0, .string a1] rfl (by (try simp only [List.map_toArray, List.map_cons, List.map_nil]); first | done | rfl | (simp only [List.length_drop, List.length_take]; rfl)) ?_; (with_reducible refine (bits_Alike.calls kj2 a0 a1 t111 _ A8.out).mono ?_); rintro e w10 ⟨rfl, hb⟩; refine ⟨_, rfl, ?_⟩; have n0_ := Aside0.mk (below_step (by repeat (first | (with_reducible first | exact HB.out | apply below_alloc | apply pw_below_drewN | apply below_drew1) | exact HB.out)) hb); clear HB; have HB := n0_; clear n0_; (try clear hb); (try clear hb2); (try clear hk); (try clear hi)))
        (try simp only [Act.put, List.setIfInBounds_toArray, List.set_cons_zero, List.set_cons_succ])
        go_cut [44] (fun v44 wc => ∃ (kq : Nat) (x44_8 : Bool), v44 = .bool x44_8 ∧ Aside0 (roadbooklaw03_BitsAlike.j1 kq a0 a1 t111 x44_8 = some r) ∧ Aside0 (kq ≤ kj2) ∧ Aside0 (Below w.heap.size w wc))
        case first =>
          have H := HC9.out
          clear HC9
          by_cases c11 : t111 < 0
          · rw [if_pos c11] at H
            have c11b0 : decide (t111 < 0) = true := decide_eq_true c11
            clear c11
            (first | rw [c11b0] | (simp only [i64_w, i32_w]; rw [c11b0]) | skip)
            have H' := Aside0.mk H
            clear H
            go_wp2
            go_meet
            case rel => exact ⟨_, (true), (by first | rfl | (simp; done) | (simp [*]; done)), H', ⟨by have := HJ2.out; first | omega | exact Nat.le_refl _⟩, ⟨by repeat (first | (with_reducible first | exact HB.out | apply below_alloc | apply pw_below_drewN | apply below_drew1) | exact HB.out)⟩⟩
          · rw [if_neg c11] at H
            have c11b0 : decide (t111 < 0) = false := decide_eq_false c11
            clear c11
            (first | rw [c11b0] | (simp only [i64_w, i32_w]; rw [c11b0]) | skip)
            by_cases c12 : t111 > (wrap64 (8 * (a0.size : Int)))
            · rw [if_pos c12] at H
              have c12b0 : decide ((wrap64 (8 * (a0.size : Int))) < t111) = true := decide_eq_true c12
              clear c12
              have H' := Aside0.mk H
              clear H
              go_wp2
              go_meet
              case rel => exact ⟨_, (true), (by first | rfl | (simp; done) | (simp [*]; done)), H', ⟨by have := HJ2.out; first | omega | exact Nat.le_refl _⟩, ⟨by repeat (first | (with_reducible first | exact HB.out | apply below_alloc | apply pw_below_drewN | apply below_drew1) | exact HB.out)⟩⟩
            · rw [if_neg c12] at H
              have c12b0 : decide ((wrap64 (8 * (a0.size : Int))) < t111) = false := decide_eq_false c12
              clear c12
              replace H := Option.bind_eq_some_iff.mp H
              obtain ⟨t112, A130, H⟩ := H
              replace H : ((bits_Keep.f a1 t111).bind fun t113 => (if t112.toList = t113.toList then ((bits_Alike.f kj2 a1 a0).bind fun t114 => (roadbooklaw03_BitsAlike.j1 kj2 a0 a1 t111 (t114 != t111))) else (roadbooklaw03_BitsAlike.j1 kj2 a0 a1 t111 true))) = some r := H
              have A13 := Aside0.mk A130
              clear A130
              replace H := Option.bind_eq_some_iff.mp H
              obtain ⟨t113, A140, H⟩ := H
              replace H : (if t112.toList = t113.toList then ((bits_Alike.f kj2 a1 a0).bind fun t114 => (roadbooklaw03_BitsAlike.j1 kj2 a0 a1 t111 (t114 != t111))) else (roadbooklaw03_BitsAlike.j1 kj2 a0 a1 t111 true)) = some r := H
              have A14 := Aside0.mk A140
              clear A140
              by_cases c15 : t112.toList = t113.toList
              · rw [if_pos c15] at H
                have c15b0 : (t112.toList == t113.toList) = true := beq_iff_eq.mpr c15
                have c15b1 : (t112.toList != t113.toList) = false := bne_eq_false_iff_eq.mpr c15
                clear c15
                replace H := Option.bind_eq_some_iff.mp H
                obtain ⟨t114, A160, H⟩ := H
                replace H : (roadbooklaw03_BitsAlike.j1 kj2 a0 a1 t111 (t114 != t111)) = some r := H
                have A16 := Aside0.mk A160
                clear A160
                have H' := Aside0.mk H
                clear H
                go_wp2_with (first | (go_at_call 32; (with_reducible refine (bits_Keep.calls a0 t111 t112 _ A13.out).mono ?_); rintro e w17 ⟨rfl, hb⟩; have n0_ := Aside0.mk (below_step (by repeat (first | (with_reducible first | exact HB.out | apply below_alloc | apply pw_below_drewN | apply below_drew1) | exact HB.out)) hb); clear HB; have HB := n0_; clear n0_; (try clear hb); (try clear hb2); (try clear hk); (try clear hi)) | (go_at_call 32; (with_reducible refine (bits_Keep.calls a1 t111 t113 _ A14.out).mono ?_); rintro e w18 ⟨rfl, hb⟩; have n0_ := Aside0.mk (below_step (by repeat (first | (with_reducible first | exact HB.out | apply below_alloc | apply pw_below_drewN | apply below_drew1) | exact HB.out)) hb); clear HB; have HB := n0_; clear n0_; (try clear hb); (try clear hb2); (try clear hk); (try clear hi)) | (go_at_call 36; (with_reducible refine (bits_Alike.calls kj2 a1 a0 t114 _ A16.out).mono ?_); rintro e w19 ⟨rfl, hb⟩; have n0_ := Aside0.mk (below_step (by repeat (first | (with_reducible first | exact HB.out | apply below_alloc | apply pw_below_drewN | apply below_drew1) | exact HB.out)) hb); clear HB; have HB := n0_; clear n0_; (try clear hb); (try clear hb2); (try clear hk); (try clear hi)))
                go_meet
                case rel => exact ⟨_, ((t114 != t111)), (by first | rfl | (simp; done) | (simp [*]; done)), H', ⟨by have := HJ2.out; first | omega | exact Nat.le_refl _⟩, ⟨by repeat (first | (with_reducible first | exact HB.out | apply below_alloc | apply pw_below_drewN | apply below_drew1) | exact HB.out)⟩⟩
              · rw [if_neg c15] at H
                have c15b0 : (t112.toList == t113.toList) = false := beq_eq_false_iff_ne.mpr c15
                have c15b1 : (t112.toList != t113.toList) = true := bne_iff_ne.mpr c15
                have H' := Aside0.mk H
                clear H
                go_wp2_with (first | (go_at_call 32; (with_reducible refine (bits_Keep.calls a0 t111 t112 _ A13.out).mono ?_); rintro e w20 ⟨rfl, hb⟩; have n0_ := Aside0.mk (below_step (by repeat (first | (with_reducible first | exact HB.out | apply below_alloc | apply pw_below_drewN | apply below_drew1) | exact HB.out)) hb); clear HB; have HB := n0_; clear n0_; (try clear hb); (try clear hb2); (try clear hk); (try clear hi)) | (go_at_call 32; (with_reducible refine (bits_Keep.calls a1 t111 t113 _ A14.out).mono ?_); rintro e w21 ⟨rfl, hb⟩; have n0_ := Aside0.mk (below_step (by repeat (first | (with_reducible first | exact HB.out | apply below_alloc | apply pw_below_drewN | apply below_drew1) | exact HB.out)) hb); clear HB; have HB := n0_; clear n0_; (try clear hb); (try clear hb2); (try clear hk); (try clear hi)))
                go_meet
                case rel => exact ⟨_, (true), (by first | rfl | (simp; done) | (simp [*]; done)), H', ⟨by have := HJ2.out; first | omega | exact Nat.le_refl _⟩, ⟨by repeat (first | (with_reducible first | exact HB.out | apply below_alloc | apply pw_below_drewN | apply below_drew1) | exact HB.out)⟩⟩
        case rest =>
          clear HC9
          try clear c1
          try clear c2
          try clear p2
          try clear c3
          try clear c4
          try clear c4b0
          try clear c4b1
          try clear c5
          try clear p6
          try clear c10
          try clear c11
          try clear c11b0
          try clear c12
          try clear c12b0
          try clear c15
          try clear c15b0
          try clear c15b1
          try clear p2
          obtain ⟨kq, x44_8, rfl, HA, HJ8, HB⟩ := hcut
          cases kq with
          | zero => exact absurd HA.out (by simp [roadbooklaw03_BitsAlike.j1])
          | succ kj8 =>
            have H := HA.out
            clear HA
            simp only [roadbooklaw03_BitsAlike.j1] at H
            by_cases c22 : x44_8 = true
            · subst c22
              have H1 : (some false) = some r := by rw [if_pos rfl] at H; exact H
              clear H
              have H := H1
              clear H1
              obtain rfl := Option.some.inj H
              go_wp2
              go_ret
              exact ⟨by first | rfl | (simp [errW_none, errW_some] <;> rfl) | (simp [*, errW_none, errW_some] <;> rfl), by repeat (first | (with_reducible first | exact HB.out | apply below_alloc | apply pw_below_drewN | apply below_drew1) | exact HB.out)⟩
            · replace c22 := Bool.eq_false_iff.mpr c22
              subst c22
              have H1 : ((roadbooklaw03_awake.f kj8).bind fun t115 => (if t115 = true then (if t111 = (wrap64 (8 * (a0.size : Int))) then (if a0.toList = a1.toList then (some true) else (if t111 < (wrap64 (8 * (a0.size : Int))) then ((bits_Bit.f a0 t111).bind fun t116 => ((bits_Bit.f a1 t111).bind fun t117 => (some (t116 != t117)))) else (some false))) else (if t111 < (wrap64 (8 * (a0.size : Int))) then ((bits_Bit.f a0 t111).bind fun t118 => ((bits_Bit.f a1 t111).bind fun t119 => (some (t118 != t119)))) else (some false))) else (some false))) = some r := by rw [if_neg (show ¬ (false = true) by decide)] at H; exact H
              clear H
              have H := H1
              clear H1
              replace H := Option.bind_eq_some_iff.mp H
              obtain ⟨t115, A230, H⟩ := H
              replace H : (if t115 = true then (if t111 = (wrap64 (8 * (a0.size : Int))) then (if a0.toList = a1.toList then (some true) else (if t111 < (wrap64 (8 * (a0.size : Int))) then ((bits_Bit.f a0 t111).bind fun t116 => ((bits_Bit.f a1 t111).bind fun t117 => (some (t116 != t117)))) else (some false))) else (if t111 < (wrap64 (8 * (a0.size : Int))) then ((bits_Bit.f a0 t111).bind fun t118 => ((bits_Bit.f a1 t111).bind fun t119 => (some (t118 != t119)))) else (some false))) else (some false)) = some r := H
              have A23 := Aside0.mk A230
              clear A230
              by_cases c24 : t115 = true
              · subst c24
                have H1 : (if t111 = (wrap64 (8 * (a0.size : Int))) then (if a0.toList = a1.toList then (some true) else (if t111 < (wrap64 (8 * (a0.size : Int))) then ((bits_Bit.f a0 t111).bind fun t116 => ((bits_Bit.f a1 t111).bind fun t117 => (some (t116 != t117)))) else (some false))) else (if t111 < (wrap64 (8 * (a0.size : Int))) then ((bits_Bit.f a0 t111).bind fun t118 => ((bits_Bit.f a1 t111).bind fun t119 => (some (t118 != t119)))) else (some false))) = some r := by rw [if_pos rfl] at H; exact H
                clear H
                have H := H1
                clear H1
                by_cases c25 : t111 = (wrap64 (8 * (a0.size : Int)))
                · rw [if_pos c25] at H
                  have c25b0 : (t111 == (wrap64 (8 * (a0.size : Int)))) = true := beq_iff_eq.mpr c25
                  have c25b1 : (t111 != (wrap64 (8 * (a0.size : Int)))) = false := bne_eq_false_iff_eq.mpr c25
                  clear c25
                  by_cases c26 : a0.toList = a1.toList
                  · rw [if_pos c26] at H
                    have c26b0 : (a0.toList == a1.toList) = true := beq_iff_eq.mpr c26
                    have c26b1 : (a0.toList != a1.toList) = false := bne_eq_false_iff_eq.mpr c26
                    clear c26
                    obtain rfl := Option.some.inj H
                    go_wp2_with (first | ((with_reducible refine gate_callee (f := 29) rfl ?_); refine goesL_ (some 45) rfl rfl Try.func29 (by kernel_rfl) rfl #[] rfl (by (try simp only [List.map_toArray, List.map_cons, List.map_nil]); first | done | rfl | (simp only [List.length_drop, List.length_take]; rfl)) ?_; (with_reducible refine (roadbooklaw03_awake.calls kj8  true _ A23.out).mono ?_); rintro e w27 ⟨rfl, hb⟩; refine ⟨_, rfl, ?_⟩; have n0_ := Aside0.mk (below_step (by repeat (first | (with_reducible first | exact HB.out | apply below_alloc | apply pw_below_drewN | apply below_drew1) | exact HB.out)) hb); clear HB; have HB := n0_; clear n0_; (try clear hb); (try clear hb2); (try clear hk); (try clear hi)))
                    go_ret
                    exact ⟨by first | rfl | (simp [errW_none, errW_some] <;> rfl) | (simp [*, errW_none, errW_some] <;> rfl), by repeat (first | (with_reducible first | exact HB.out | apply below_alloc | apply pw_below_drewN | apply below_drew1) | exact HB.out)⟩
                  · rw [if_neg c26] at H
                    have c26b0 : (a0.toList == a1.toList) = false := beq_eq_false_iff_ne.mpr c26
                    have c26b1 : (a0.toList != a1.toList) = true := bne_iff_ne.mpr c26
                    by_cases c28 : t111 < (wrap64 (8 * (a0.size : Int)))
                    · rw [if_pos c28] at H
                      have c28b0 : decide (t111 < (wrap64 (8 * (a0.size : Int)))) = true := decide_eq_true c28
                      clear c28
                      replace H := Option.bind_eq_some_iff.mp H
                      obtain ⟨t116, A290, H⟩ := H
                      replace H : ((bits_Bit.f a1 t111).bind fun t117 => (some (t116 != t117))) = some r := H
                      have A29 := Aside0.mk A290
                      clear A290
                      replace H := Option.bind_eq_some_iff.mp H
                      obtain ⟨t117, A300, H⟩ := H
                      replace H : (some (t116 != t117)) = some r := H
                      have A30 := Aside0.mk A300
                      clear A300
                      obtain rfl := Option.some.inj H
                      go_wp2_with (first | ((with_reducible refine gate_callee (f := 29) rfl ?_); refine goesL_ (some 45) rfl rfl Try.func29 (by kernel_rfl) rfl #[] rfl (by (try simp only [List.map_toArray, List.map_cons, List.map_nil]); first | done | rfl | (simp only [List.length_drop, List.length_take]; rfl)) ?_; (with_reducible refine (roadbooklaw03_awake.calls kj8  true _ A23.out).mono ?_); rintro e w31 ⟨rfl, hb⟩; refine ⟨_, rfl, ?_⟩; have n0_ := Aside0.mk (below_step (by repeat (first | (with_reducible first | exact HB.out | apply below_alloc | apply pw_below_drewN | apply below_drew1) | exact HB.out)) hb); clear HB; have HB := n0_; clear n0_; (try clear hb); (try clear hb2); (try clear hk); (try clear hi)) | (go_at_call 30; (with_reducible refine (bits_Bit.calls a0 t111 t116 _ A29.out).mono ?_); rintro e w' ⟨rfl, ⟨nd, rfl⟩⟩) | (go_at_call 30; (with_reducible refine (bits_Bit.calls a1 t111 t117 _ A30.out).mono ?_); rintro e w' ⟨rfl, ⟨nd, rfl⟩⟩))
                      go_ret
                      exact ⟨by first | rfl | (simp [errW_none, errW_some] <;> rfl) | (simp [*, errW_none, errW_some] <;> rfl), by repeat (first | (with_reducible first | exact HB.out | apply below_alloc | apply pw_below_drewN | apply below_drew1) | exact HB.out)⟩
                    · rw [if_neg c28] at H
                      have c28b0 : decide (t111 < (wrap64 (8 * (a0.size : Int)))) = false := decide_eq_false c28
                      clear c28
                      obtain rfl := Option.some.inj H
                      go_wp2_with (first | ((with_reducible refine gate_callee (f := 29) rfl ?_); refine goesL_ (some 45) rfl rfl Try.func29 (by kernel_rfl) rfl #[] rfl (by (try simp only [List.map_toArray, List.map_cons, List.map_nil]); first | done | rfl | (simp only [List.length_drop, List.length_take]; rfl)) ?_; (with_reducible refine (roadbooklaw03_awake.calls kj8  true _ A23.out).mono ?_); rintro e w32 ⟨rfl, hb⟩; refine ⟨_, rfl, ?_⟩; have n0_ := Aside0.mk (below_step (by repeat (first | (with_reducible first | exact HB.out | apply below_alloc | apply pw_below_drewN | apply below_drew1) | exact HB.out)) hb); clear HB; have HB := n0_; clear n0_; (try clear hb); (try clear hb2); (try clear hk); (try clear hi)))
                      go_ret
                      exact ⟨by first | rfl | (simp [errW_none, errW_some] <;> rfl) | (simp [*, errW_none, errW_some] <;> rfl), by repeat (first | (with_reducible first | exact HB.out | apply below_alloc | apply pw_below_drewN | apply below_drew1) | exact HB.out)⟩
                · rw [if_neg c25] at H
                  have c25b0 : (t111 == (wrap64 (8 * (a0.size : Int)))) = false := beq_eq_false_iff_ne.mpr c25
                  have c25b1 : (t111 != (wrap64 (8 * (a0.size : Int)))) = true := bne_iff_ne.mpr c25
                  by_cases c33 : t111 < (wrap64 (8 * (a0.size : Int)))
                  · rw [if_pos c33] at H
                    have c33b0 : decide (t111 < (wrap64 (8 * (a0.size : Int)))) = true := decide_eq_true c33
                    clear c33
                    replace H := Option.bind_eq_some_iff.mp H
                    obtain ⟨t118, A340, H⟩ := H
                    replace H : ((bits_Bit.f a1 t111).bind fun t119 => (some (t118 != t119))) = some r := H
                    have A34 := Aside0.mk A340
                    clear A340
                    replace H := Option.bind_eq_some_iff.mp H
                    obtain ⟨t119, A350, H⟩ := H
                    replace H : (some (t118 != t119)) = some r := H
                    have A35 := Aside0.mk A350
                    clear A350
                    obtain rfl := Option.some.inj H
                    go_wp2_with (first | ((with_reducible refine gate_callee (f := 29) rfl ?_); refine goesL_ (some 45) rfl rfl Try.func29 (by kernel_rfl) rfl #[] rfl (by (try simp only [List.map_toArray, List.map_cons, List.map_nil]); first | done | rfl | (simp only [List.length_drop, List.length_take]; rfl)) ?_; (with_reducible refine (roadbooklaw03_awake.calls kj8  true _ A23.out).mono ?_); rintro e w36 ⟨rfl, hb⟩; refine ⟨_, rfl, ?_⟩; have n0_ := Aside0.mk (below_step (by repeat (first | (with_reducible first | exact HB.out | apply below_alloc | apply pw_below_drewN | apply below_drew1) | exact HB.out)) hb); clear HB; have HB := n0_; clear n0_; (try clear hb); (try clear hb2); (try clear hk); (try clear hi)) | (go_at_call 30; (with_reducible refine (bits_Bit.calls a0 t111 t118 _ A34.out).mono ?_); rintro e w' ⟨rfl, ⟨nd, rfl⟩⟩) | (go_at_call 30; (with_reducible refine (bits_Bit.calls a1 t111 t119 _ A35.out).mono ?_); rintro e w' ⟨rfl, ⟨nd, rfl⟩⟩))
                    go_ret
                    exact ⟨by first | rfl | (simp [errW_none, errW_some] <;> rfl) | (simp [*, errW_none, errW_some] <;> rfl), by repeat (first | (with_reducible first | exact HB.out | apply below_alloc | apply pw_below_drewN | apply below_drew1) | exact HB.out)⟩
                  · rw [if_neg c33] at H
                    have c33b0 : decide (t111 < (wrap64 (8 * (a0.size : Int)))) = false := decide_eq_false c33
                    clear c33
                    obtain rfl := Option.some.inj H
                    go_wp2_with (first | ((with_reducible refine gate_callee (f := 29) rfl ?_); refine goesL_ (some 45) rfl rfl Try.func29 (by kernel_rfl) rfl #[] rfl (by (try simp only [List.map_toArray, List.map_cons, List.map_nil]); first | done | rfl | (simp only [List.length_drop, List.length_take]; rfl)) ?_; (with_reducible refine (roadbooklaw03_awake.calls kj8  true _ A23.out).mono ?_); rintro e w37 ⟨rfl, hb⟩; refine ⟨_, rfl, ?_⟩; have n0_ := Aside0.mk (below_step (by repeat (first | (with_reducible first | exact HB.out | apply below_alloc | apply pw_below_drewN | apply below_drew1) | exact HB.out)) hb); clear HB; have HB := n0_; clear n0_; (try clear hb); (try clear hb2); (try clear hk); (try clear hi)))
                    go_ret
                    exact ⟨by first | rfl | (simp [errW_none, errW_some] <;> rfl) | (simp [*, errW_none, errW_some] <;> rfl), by repeat (first | (with_reducible first | exact HB.out | apply below_alloc | apply pw_below_drewN | apply below_drew1) | exact HB.out)⟩
              · replace c24 := Bool.eq_false_iff.mpr c24
                subst c24
                have H1 : (some false) = some r := by rw [if_neg (show ¬ (false = true) by decide)] at H; exact H
                clear H
                have H := H1
                clear H1
                obtain rfl := Option.some.inj H
                go_wp2_with (first | ((with_reducible refine gate_callee (f := 29) rfl ?_); refine goesL_ (some 45) rfl rfl Try.func29 (by kernel_rfl) rfl #[] rfl (by (try simp only [List.map_toArray, List.map_cons, List.map_nil]); first | done | rfl | (simp only [List.length_drop, List.length_take]; rfl)) ?_; (with_reducible refine (roadbooklaw03_awake.calls kj8  false _ A23.out).mono ?_); rintro e w38 ⟨rfl, hb⟩; refine ⟨_, rfl, ?_⟩; have n0_ := Aside0.mk (below_step (by repeat (first | (with_reducible first | exact HB.out | apply below_alloc | apply pw_below_drewN | apply below_drew1) | exact HB.out)) hb); clear HB; have HB := n0_; clear n0_; (try clear hb); (try clear hb2); (try clear hk); (try clear hi)))
                go_ret
                exact ⟨by first | rfl | (simp [errW_none, errW_some] <;> rfl) | (simp [*, errW_none, errW_some] <;> rfl), by repeat (first | (with_reducible first | exact HB.out | apply below_alloc | apply pw_below_drewN | apply below_drew1) | exact HB.out)⟩

/-- THE ONE PURE STATEMENT of roadbooklaw03_BitsAlike: yours. -/
def roadbooklaw03_BitsAlike.Pure : Prop := ∀ (a0 : ByteArray) (a1 : ByteArray), a0.size ≤ 140737488351232 → a1.size ≤ 140737488351232 → ∃ k, roadbooklaw03_BitsAlike.f k a0 a1 = some true
theorem roadbooklaw03_BitsAlike.walk (P : roadbooklaw03_BitsAlike.Pure) (a0 : ByteArray) (a1 : ByteArray) (w : World) (w0 : a0.size ≤ 140737488351232) (w1 : a1.size ≤ 140737488351232) :
    Calls Try.prog 10 #[.string a0, .string a1] w fun e w' => e = .returned (.bool true) ∧ Below w.heap.size w w' := by
  obtain ⟨k, h⟩ := P a0 a1 w0 w1
  refine (roadbooklaw03_BitsAlike.calls k a0 a1 true w h).mono ?_
  rintro e w' ⟨rfl, hd⟩
  exact ⟨rfl, hd⟩

end Go.Proofs.Ytbpclinffgedjaa.PBitsAlike
