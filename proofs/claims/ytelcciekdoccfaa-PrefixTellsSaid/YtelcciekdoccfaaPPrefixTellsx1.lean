-- Written by mp.py, a program of this work (wip/tools), out of the translation; Lean checks it.
import Derived.Test.YtelcciekdoccfaaPPrefixTellsx0
namespace Go.Proofs.Ytelcciekdoccfaa.PPrefixTells
open Go.RowKit Go.Proofs.YtelcciekdoccfaaW.PrintWords Go.Proofs.YtelcciekdoccfaaW.PrintLast Go.Proofs.YtelcciekdoccfaaW.PrintMore
attribute [local go_sem] max2_int min2_int max_two min_two max_three min_three max_four min_four   -- for this text's walks alone
set_option linter.unusedVariables false
set_option linter.unusedSimpArgs false

/-! ### bits_Keep: function 71 -/
def bits_Keep.f (a0 : ByteArray) (a1 : Int) : Option ByteArray :=
  if a0.size ≤ 140737488351232 then
    if 8 * (a0.size : Int) ≤ a1 then some a0
    else if a1 ≤ 0 then some (strOfNums (List.replicate a0.size 0))
    else some (strOfNums ((bytesOf (a0.extract 0 (a1 / 8).toNat) ++ (List.replicate a0.size 0).drop (a0.extract 0 (a1 / 8).toNat).size).set (a1 / 8).toNat (Go.bits .andNot .u8 (bt a0 (a1 / 8)) (255 / 2 ^ min (IntKind.u64.wrap (Go.bits .and .i64 a1 7)).toNat 8))))
  else none
set_option maxHeartbeats 8000000 in
set_option maxRecDepth 100000 in
theorem bits_Keep.calls (a0 : ByteArray) (a1 : Int) (r : ByteArray) (w : World) (h : bits_Keep.f a0 a1 = some r) :
    Calls Try.prog 71 #[.string a0, .int .i64 a1] w fun e w' => e = .returned (.string r) ∧ Below w.heap.size w w' := by
  unfold bits_Keep.f at h
  by_cases hs : a0.size ≤ 140737488351232
  · rw [if_pos hs] at h
    by_cases h1 : 8 * (a0.size : Int) ≤ a1
    · rw [if_pos h1] at h
      obtain rfl := Option.some.inj h
      clear h
      go_enter Try.func71, Try.ntmps71
      go_wp2
      go_ret
      exact ⟨rfl, Below.refl _ _⟩
    · rw [if_neg h1] at h
      have hmk := print_make (P := Try.prog) 79 5 .u8 1 Try.underlying79 info5 (by decide) a0.size (by omega)
      have HO := Aside0.mk (own_made w w.heap.size 5 .u8 a0.size (Nat.le_refl _) (by omega))
      have HB := Aside0.mk (below_alloc (Below.refl w.heap.size w) (.cells (madeCells #[.int .u8 0] a0.size) 5))
      by_cases h2 : a1 ≤ 0
      · rw [if_pos h2] at h
        obtain rfl := Option.some.inj h
        clear h
        have hcv := own_string (P := Try.prog) Try.underlying79 Try.underlying5 Try.underlying9 HO.out
        go_enter Try.func71, Try.ntmps71
        go_wp2
        go_ret
        exact ⟨rfl, HB.out⟩
      · rw [if_neg h2] at h
        obtain rfl := Option.some.inj h
        clear h
        have hk0 : 0 ≤ a1 / 8 := by omega
        have hk1 : a1 / 8 < (a0.size : Int) := by omega
        have hes : (a0.extract 0 (a1 / 8).toNat).size ≤ a0.size := by rw [ByteArray.size_extract]; omega
        obtain ⟨W2, hcp, HO2, HB2, hsz⟩ := Go.Proofs.Ytelcciekdoccfaa.Pre.copy_own_str (P := Try.prog) 79 9 3 (a0.extract 0 (a1 / 8).toNat) Try.underlying79 (by kernel_rfl) HO.out hes
        have HB2 := Aside0.mk (HB2 (Nat.le_refl _) HB.out)
        obtain ⟨x, hx⟩ : ∃ x, x = bytesOf (a0.extract 0 (a1 / 8).toNat) ++ (List.replicate a0.size 0).drop (a0.extract 0 (a1 / 8).toNat).size := ⟨_, rfl⟩
        rw [← hx] at HO2
        obtain ⟨hc, hf⟩ := own_at HO2 (a1 / 8) hk0 hk1
        have HO3 := own_store HO2 (a1 / 8) (Go.bits .andNot .u8 (bt a0 (a1 / 8)) (255 / 2 ^ min (IntKind.u64.wrap (Go.bits .and .i64 a1 7)).toNat 8))
        rw [← hx]
        have hcv := own_string (P := Try.prog) Try.underlying79 Try.underlying5 Try.underlying9 HO3.1
        have HB3 := Aside0.mk (Below.setCell HB2.out (p := ⟨w.heap.size, (a1 / 8).toNat, none⟩) (Nat.le_refl _) (.int .u8 (Go.bits .andNot .u8 (bt a0 (a1 / 8)) (255 / 2 ^ min (IntKind.u64.wrap (Go.bits .and .i64 a1 7)).toNat 8))))
        clear hx HO3 HO2 HB2 hsz hes HB HO
        have hx7 := bt_at a0 (a1 / 8)
        go_enter Try.func71, Try.ntmps71
        go_wp2_with (first | (with_reducible refine Go.Proofs.Ytelcciekdoccfaa.Pre.wpList_copy_ rfl (.tmp 22) (.tmp 25) 79 9 rfl _ _ rfl rfl hcp ?_))
        go_ret
        exact ⟨rfl, HB3.out⟩
  · rw [if_neg hs] at h; exact absurd h (by simp)

/-! ### bits_Clean: function 69 -/
def bits_Clean.f (a0 : ByteArray) (a1 : Int) : Option (Bool) := (bits_Keep.f a0 a1).bind fun t101 => (some (t101.toList == a0.toList))
set_option maxHeartbeats 8000000 in
set_option maxRecDepth 100000 in
theorem bits_Clean.calls (a0 : ByteArray) (a1 : Int) (r : Bool) (w : World) (h : bits_Clean.f a0 a1 = some r) :
    Calls Try.prog 69 #[.string a0, .int .i64 a1] w fun e w' => e = .returned (.bool r) ∧ Below w.heap.size w w' := by
  have HB := Aside0.mk (Below.refl w.heap.size w)
  have H : ((bits_Keep.f a0 a1).bind fun t101 => (some (t101.toList == a0.toList))) = some r := h
  clear h
  replace H := Option.bind_eq_some_iff.mp H
  obtain ⟨t101, A30, H⟩ := H
  replace H : (some (t101.toList == a0.toList)) = some r := H
  have A3 := Aside0.mk A30
  clear A30
  obtain rfl := Option.some.inj H
  go_enter Try.func69, Try.ntmps69
  go_wp2_with (first | ((with_reducible refine gate_callee (f := 71) rfl ?_); refine goesL_ (some 7) rfl rfl Try.func71 (by kernel_rfl) rfl #[.string a0, .int .i64 a1] rfl (by (try simp only [List.map_toArray, List.map_cons, List.map_nil]); first | done | rfl | (simp only [List.length_drop, List.length_take]; rfl)) ?_; (with_reducible refine (bits_Keep.calls a0 a1 t101 _ A3.out).mono ?_); rintro e w4 ⟨rfl, hb⟩; refine ⟨_, rfl, ?_⟩; have n0_ := Aside0.mk (below_step (by repeat (first | (with_reducible first | exact HB.out | apply below_alloc | apply pw_below_drewN | apply below_drew1) | exact HB.out)) hb); clear HB; have HB := n0_; clear n0_; (try clear hb); (try clear hb2); (try clear hk); (try clear hi)))
  go_ret
  exact ⟨by first | rfl | (simp [errW_none, errW_some] <;> rfl) | (simp [*, errW_none, errW_some] <;> rfl), by repeat (first | (with_reducible first | exact HB.out | apply below_alloc | apply pw_below_drewN | apply below_drew1) | exact HB.out)⟩

/-! ### prefix_Right: function 25 -/
def prefix_Right.f (a0 : ByteArray) (a1 : Int) : Option (Bool) := if (a0.size : Int) = 4 then (if a1 ≥ 0 then (if a1 ≤ (wrap64 (8 * (a0.size : Int))) then ((bits_Clean.f a0 a1).bind fun t102 => (some t102)) else (some false)) else (some false)) else (if (a0.size : Int) = 16 then (if a1 ≥ 0 then (if a1 ≤ (wrap64 (8 * (a0.size : Int))) then ((bits_Clean.f a0 a1).bind fun t103 => (some t103)) else (some false)) else (some false)) else (some false))
set_option maxHeartbeats 8000000 in
set_option maxRecDepth 100000 in
theorem prefix_Right.calls (a0 : ByteArray) (a1 : Int) (r : Bool) (w : World) (h : prefix_Right.f a0 a1 = some r) :
    Calls Try.prog 25 #[.string a0, .int .i64 a1] w fun e w' => e = .returned (.bool r) ∧ Below w.heap.size w w' := by
  have HB := Aside0.mk (Below.refl w.heap.size w)
  have H : (if (a0.size : Int) = 4 then (if a1 ≥ 0 then (if a1 ≤ (wrap64 (8 * (a0.size : Int))) then ((bits_Clean.f a0 a1).bind fun t102 => (some t102)) else (some false)) else (some false)) else (if (a0.size : Int) = 16 then (if a1 ≥ 0 then (if a1 ≤ (wrap64 (8 * (a0.size : Int))) then ((bits_Clean.f a0 a1).bind fun t103 => (some t103)) else (some false)) else (some false)) else (some false))) = some r := h
  clear h
  by_cases c3 : (a0.size : Int) = 4
  · rw [if_pos c3] at H
    have c3b0 : ((a0.size : Int) == 4) = true := beq_iff_eq.mpr c3
    have c3b1 : ((a0.size : Int) != 4) = false := bne_eq_false_iff_eq.mpr c3
    clear c3
    by_cases c4 : a1 ≥ 0
    · rw [if_pos c4] at H
      have c4b0 : decide (0 ≤ a1) = true := decide_eq_true c4
      clear c4
      by_cases c5 : a1 ≤ (wrap64 (8 * (a0.size : Int)))
      · rw [if_pos c5] at H
        have c5b0 : decide (a1 ≤ (wrap64 (8 * (a0.size : Int)))) = true := decide_eq_true c5
        clear c5
        replace H := Option.bind_eq_some_iff.mp H
        obtain ⟨t102, A60, H⟩ := H
        replace H : (some t102) = some r := H
        have A6 := Aside0.mk A60
        clear A60
        obtain rfl := Option.some.inj H
        go_enter Try.func25, Try.ntmps25
        go_wp2_with (first | (go_at_call 69; (with_reducible refine (bits_Clean.calls a0 a1 t102 _ A6.out).mono ?_); rintro e w7 ⟨rfl, hb⟩; have n0_ := Aside0.mk (below_step (by repeat (first | (with_reducible first | exact HB.out | apply below_alloc | apply pw_below_drewN | apply below_drew1) | exact HB.out)) hb); clear HB; have HB := n0_; clear n0_; (try clear hb); (try clear hb2); (try clear hk); (try clear hi)))
        go_ret
        exact ⟨by first | rfl | (simp [errW_none, errW_some] <;> rfl) | (simp [*, errW_none, errW_some] <;> rfl), by repeat (first | (with_reducible first | exact HB.out | apply below_alloc | apply pw_below_drewN | apply below_drew1) | exact HB.out)⟩
      · rw [if_neg c5] at H
        have c5b0 : decide (a1 ≤ (wrap64 (8 * (a0.size : Int)))) = false := decide_eq_false c5
        clear c5
        obtain rfl := Option.some.inj H
        go_enter Try.func25, Try.ntmps25
        go_wp2
        go_ret
        exact ⟨by first | rfl | (simp [errW_none, errW_some] <;> rfl) | (simp [*, errW_none, errW_some] <;> rfl), by repeat (first | (with_reducible first | exact HB.out | apply below_alloc | apply pw_below_drewN | apply below_drew1) | exact HB.out)⟩
    · rw [if_neg c4] at H
      have c4b0 : decide (0 ≤ a1) = false := decide_eq_false c4
      clear c4
      obtain rfl := Option.some.inj H
      go_enter Try.func25, Try.ntmps25
      go_wp2
      go_ret
      exact ⟨by first | rfl | (simp [errW_none, errW_some] <;> rfl) | (simp [*, errW_none, errW_some] <;> rfl), by repeat (first | (with_reducible first | exact HB.out | apply below_alloc | apply pw_below_drewN | apply below_drew1) | exact HB.out)⟩
  · rw [if_neg c3] at H
    have c3b0 : ((a0.size : Int) == 4) = false := beq_eq_false_iff_ne.mpr c3
    have c3b1 : ((a0.size : Int) != 4) = true := bne_iff_ne.mpr c3
    by_cases c8 : (a0.size : Int) = 16
    · rw [if_pos c8] at H
      have c8b0 : ((a0.size : Int) == 16) = true := beq_iff_eq.mpr c8
      have c8b1 : ((a0.size : Int) != 16) = false := bne_eq_false_iff_eq.mpr c8
      clear c8
      by_cases c9 : a1 ≥ 0
      · rw [if_pos c9] at H
        have c9b0 : decide (0 ≤ a1) = true := decide_eq_true c9
        clear c9
        by_cases c10 : a1 ≤ (wrap64 (8 * (a0.size : Int)))
        · rw [if_pos c10] at H
          have c10b0 : decide (a1 ≤ (wrap64 (8 * (a0.size : Int)))) = true := decide_eq_true c10
          clear c10
          replace H := Option.bind_eq_some_iff.mp H
          obtain ⟨t103, A110, H⟩ := H
          replace H : (some t103) = some r := H
          have A11 := Aside0.mk A110
          clear A110
          obtain rfl := Option.some.inj H
          go_enter Try.func25, Try.ntmps25
          go_wp2_with (first | (go_at_call 69; (with_reducible refine (bits_Clean.calls a0 a1 t103 _ A11.out).mono ?_); rintro e w12 ⟨rfl, hb⟩; have n0_ := Aside0.mk (below_step (by repeat (first | (with_reducible first | exact HB.out | apply below_alloc | apply pw_below_drewN | apply below_drew1) | exact HB.out)) hb); clear HB; have HB := n0_; clear n0_; (try clear hb); (try clear hb2); (try clear hk); (try clear hi)))
          go_ret
          exact ⟨by first | rfl | (simp [errW_none, errW_some] <;> rfl) | (simp [*, errW_none, errW_some] <;> rfl), by repeat (first | (with_reducible first | exact HB.out | apply below_alloc | apply pw_below_drewN | apply below_drew1) | exact HB.out)⟩
        · rw [if_neg c10] at H
          have c10b0 : decide (a1 ≤ (wrap64 (8 * (a0.size : Int)))) = false := decide_eq_false c10
          clear c10
          obtain rfl := Option.some.inj H
          go_enter Try.func25, Try.ntmps25
          go_wp2
          go_ret
          exact ⟨by first | rfl | (simp [errW_none, errW_some] <;> rfl) | (simp [*, errW_none, errW_some] <;> rfl), by repeat (first | (with_reducible first | exact HB.out | apply below_alloc | apply pw_below_drewN | apply below_drew1) | exact HB.out)⟩
      · rw [if_neg c9] at H
        have c9b0 : decide (0 ≤ a1) = false := decide_eq_false c9
        clear c9
        obtain rfl := Option.some.inj H
        go_enter Try.func25, Try.ntmps25
        go_wp2
        go_ret
        exact ⟨by first | rfl | (simp [errW_none, errW_some] <;> rfl) | (simp [*, errW_none, errW_some] <;> rfl), by repeat (first | (with_reducible first | exact HB.out | apply below_alloc | apply pw_below_drewN | apply below_drew1) | exact HB.out)⟩
    · rw [if_neg c8] at H
      have c8b0 : ((a0.size : Int) == 16) = false := beq_eq_false_iff_ne.mpr c8
      have c8b1 : ((a0.size : Int) != 16) = true := bne_iff_ne.mpr c8
      obtain rfl := Option.some.inj H
      go_enter Try.func25, Try.ntmps25
      go_wp2
      go_ret
      exact ⟨by first | rfl | (simp [errW_none, errW_some] <;> rfl) | (simp [*, errW_none, errW_some] <;> rfl), by repeat (first | (with_reducible first | exact HB.out | apply below_alloc | apply pw_below_drewN | apply below_drew1) | exact HB.out)⟩

/-! ### prefix_Least: function 27 -/
def prefix_Least.f (a0 : Int) : Option (Int) := some ((wrap64 ((mx a0 0) + 7)) / 8)
set_option maxHeartbeats 8000000 in
set_option maxRecDepth 100000 in
theorem prefix_Least.calls (a0 : Int) (r : Int) (w : World) (h : prefix_Least.f a0 = some r) :
    Calls Try.prog 27 #[.int .i64 a0] w fun e w' => e = .returned (.int .i64 r) ∧ Below w.heap.size w w' := by
  have HB := Aside0.mk (Below.refl w.heap.size w)
  have H : (some ((wrap64 ((mx a0 0) + 7)) / 8)) = some r := h
  clear h
  obtain ⟨ji2, hji2⟩ : ∃ j_ : Int, (mx a0 0) = j_ := ⟨_, rfl⟩
  replace H : (some ((wrap64 ((ji2) + 7)) / 8)) = some r := by first | (rw [hji2] at H; exact H) | (simp only [hji2] at H ⊢; exact H)
  (try (have hji2l : 0 ≤ ji2 := by (rw [← hji2]; unfold mx; (repeat' split) <;> omega)))
  (try (have hji2m : 0 ≤ ji2 := by omega))
  have hji2_ : (if a0 < 0 then 0 else a0) = ji2 := hji2
  (try have hji2n_ := hji2_; simp only [Int.ofNat_lt] at hji2n_)
  obtain rfl := Option.some.inj H
  go_enter Try.func27, Try.ntmps27
  go_wp2
  go_ret
  exact ⟨by first | rfl | (simp [errW_none, errW_some] <;> rfl) | (simp only [← hji2]; first | rfl | (simp [errW_none, errW_some] <;> rfl)) | (simp [*, errW_none, errW_some] <;> rfl), by repeat (first | (with_reducible first | exact HB.out | apply below_alloc | apply pw_below_drewN | apply below_drew1) | exact HB.out)⟩

/-! ### prefix_Cut: function 29 -/
def prefix_Cut.f (a0 : ByteArray) (a1 : Int) : Option (ByteArray) := (prefix_Least.f a1).bind fun t104 => (if 0 ≤ (mn t104 (a0.size : Int)) then (if (mn t104 (a0.size : Int)) ≤ (a0.size : Int) then ((bits_Keep.f (a0.extract 0 ((mn t104 (a0.size : Int)) : Int).toNat) a1).bind fun t105 => (some t105)) else (none)) else (none))
set_option maxHeartbeats 8000000 in
set_option maxRecDepth 100000 in
theorem prefix_Cut.calls (a0 : ByteArray) (a1 : Int) (r : ByteArray) (w : World) (h : prefix_Cut.f a0 a1 = some r) :
    Calls Try.prog 29 #[.string a0, .int .i64 a1] w fun e w' => e = .returned (.string r) ∧ Below w.heap.size w w' := by
  have HB := Aside0.mk (Below.refl w.heap.size w)
  have H : ((prefix_Least.f a1).bind fun t104 => (if 0 ≤ (mn t104 (a0.size : Int)) then (if (mn t104 (a0.size : Int)) ≤ (a0.size : Int) then ((bits_Keep.f (a0.extract 0 ((mn t104 (a0.size : Int)) : Int).toNat) a1).bind fun t105 => (some t105)) else (none)) else (none))) = some r := h
  clear h
  replace H := Option.bind_eq_some_iff.mp H
  obtain ⟨t104, A30, H⟩ := H
  replace H : (if 0 ≤ (mn t104 (a0.size : Int)) then (if (mn t104 (a0.size : Int)) ≤ (a0.size : Int) then ((bits_Keep.f (a0.extract 0 ((mn t104 (a0.size : Int)) : Int).toNat) a1).bind fun t105 => (some t105)) else (none)) else (none)) = some r := H
  have A3 := Aside0.mk A30
  clear A30
  obtain ⟨ji4, hji4⟩ : ∃ j_ : Int, (mn t104 (a0.size : Int)) = j_ := ⟨_, rfl⟩
  replace H : (if 0 ≤ (ji4) then (if (ji4) ≤ (a0.size : Int) then ((bits_Keep.f (a0.extract 0 ((ji4) : Int).toNat) a1).bind fun t105 => (some t105)) else (none)) else (none)) = some r := by first | (rw [hji4] at H; exact H) | (simp only [hji4] at H ⊢; exact H)
  (try rw [hji4] at A3)
  have hji4_ : (if (a0.size : Int) < t104 then (a0.size : Int) else t104) = ji4 := hji4
  (try have hji4n_ := hji4_; simp only [Int.ofNat_lt] at hji4n_)
  by_cases c5 : 0 ≤ (ji4)
  · rw [if_pos c5] at H
    have c5b0 := eq_true c5
    have c5b1 : decide (0 ≤ (ji4)) = true := decide_eq_true c5
    clear c5
    by_cases c6 : (ji4) ≤ (a0.size : Int)
    · rw [if_pos c6] at H
      have c6b0 := eq_true c6
      have c6b1 : decide ((ji4) ≤ (a0.size : Int)) = true := decide_eq_true c6
      clear c6
      replace H := Option.bind_eq_some_iff.mp H
      obtain ⟨t105, A70, H⟩ := H
      replace H : (some t105) = some r := H
      have A7 := Aside0.mk A70
      clear A70
      obtain rfl := Option.some.inj H
      go_enter Try.func29, Try.ntmps29
      go_wp2_with (first | ((with_reducible refine gate_callee (f := 27) rfl ?_); refine goesL_ (some 8) rfl rfl Try.func27 (by kernel_rfl) rfl #[.int .i64 a1] rfl (by (try simp only [List.map_toArray, List.map_cons, List.map_nil]); first | done | rfl | (simp only [List.length_drop, List.length_take]; rfl)) ?_; (with_reducible refine (prefix_Least.calls a1 t104 _ A3.out).mono ?_); rintro e w8 ⟨rfl, hb⟩; refine ⟨_, rfl, ?_⟩; have n0_ := Aside0.mk (below_step (by repeat (first | (with_reducible first | exact HB.out | apply below_alloc | apply pw_below_drewN | apply below_drew1) | exact HB.out)) hb); clear HB; have HB := n0_; clear n0_; (try clear hb); (try clear hb2); (try clear hk); (try clear hi)) | ((with_reducible refine gate_callee (f := 71) rfl ?_); refine goesL_ (some 15) rfl rfl Try.func71 (by kernel_rfl) rfl #[.string (a0.extract 0 ((ji4) : Int).toNat), .int .i64 a1] rfl (by (try simp only [List.map_toArray, List.map_cons, List.map_nil]); first | done | (simp only [hji4]; rfl) | rfl | (simp only [List.length_drop, List.length_take]; rfl)) ?_; (with_reducible refine (bits_Keep.calls (a0.extract 0 ((ji4) : Int).toNat) a1 t105 _ A7.out).mono ?_); rintro e w9 ⟨rfl, hb⟩; refine ⟨_, rfl, ?_⟩; have n0_ := Aside0.mk (below_step (by repeat (first | (with_reducible first | exact HB.out | apply below_alloc | apply pw_below_drewN | apply below_drew1) | exact HB.out)) hb); clear HB; have HB := n0_; clear n0_; (try clear hb); (try clear hb2); (try clear hk); (try clear hi)))
      go_ret
      exact ⟨by first | rfl | (simp [errW_none, errW_some] <;> rfl) | (simp only [← hji4]; first | rfl | (simp [errW_none, errW_some] <;> rfl)) | (simp [*, errW_none, errW_some] <;> rfl), by repeat (first | (with_reducible first | exact HB.out | apply below_alloc | apply pw_below_drewN | apply below_drew1) | exact HB.out)⟩
    · rw [if_neg c6] at H
      exact absurd H (by simp)
  · rw [if_neg c5] at H
    exact absurd H (by simp)

/-! ### prefix_Fill: function 31 -/
def prefix_Fill.f (a0 : ByteArray) (a1 : Int) : Option ByteArray :=
  if a0.size ≤ 140737488351232 then
    if a1 ≤ (a0.size : Int) then some a0
    else if a1 ≤ 281474976710656 then some (strOfNums (bytesOf a0 ++ (List.replicate a1.toNat 0).drop a0.size))
    else none
  else none
set_option maxHeartbeats 8000000 in
set_option maxRecDepth 100000 in
theorem prefix_Fill.calls (a0 : ByteArray) (a1 : Int) (r : ByteArray) (w : World) (h : prefix_Fill.f a0 a1 = some r) :
    Calls Try.prog 31 #[.string a0, .int .i64 a1] w fun e w' => e = .returned (.string r) ∧ Below w.heap.size w w' := by
  unfold prefix_Fill.f at h
  by_cases hs : a0.size ≤ 140737488351232
  · rw [if_pos hs] at h
    by_cases h1 : a1 ≤ (a0.size : Int)
    · rw [if_pos h1] at h
      obtain rfl := Option.some.inj h
      clear h
      go_enter Try.func31, Try.ntmps31
      go_wp2
      go_ret
      exact ⟨rfl, Below.refl _ _⟩
    · rw [if_neg h1] at h
      by_cases h2 : a1 ≤ 281474976710656
      · rw [if_pos h2] at h
        obtain ⟨n, rfl⟩ : ∃ n : Nat, a1 = n := ⟨a1.toNat, by omega⟩
        rw [Int.toNat_natCast] at h
        have hmk := print_make (P := Try.prog) 79 5 .u8 1 Try.underlying79 info5 (by decide) n (by omega)
        have HO := Aside0.mk (own_made w w.heap.size 5 .u8 n (Nat.le_refl _) (by omega))
        have HB := Aside0.mk (below_alloc (Below.refl w.heap.size w) (.cells (madeCells #[.int .u8 0] n) 5))
        obtain ⟨W2, hcp, HO2, HB2, hsz⟩ := Go.Proofs.Ytelcciekdoccfaa.Pre.copy_own_str (P := Try.prog) 79 9 3 a0 Try.underlying79 (by kernel_rfl) HO.out (by omega)
        have HB3 := Aside0.mk (HB2 (Nat.le_refl _) HB.out)
        obtain ⟨x, hx⟩ : ∃ x, x = bytesOf a0 ++ (List.replicate n 0).drop a0.size := ⟨_, rfl⟩
        rw [← hx] at HO2 h
        obtain rfl := Option.some.inj h
        have hcv := own_string (P := Try.prog) Try.underlying79 Try.underlying5 Try.underlying9 HO2
        clear h hx HO2 HB2 hsz HB HO
        go_enter Try.func31, Try.ntmps31
        go_wp2_with (first | (with_reducible refine Go.Proofs.Ytelcciekdoccfaa.Pre.wpList_copy_ rfl (.tmp 13) (.tmp 14) 79 9 rfl _ _ rfl rfl hcp ?_))
        go_ret
        exact ⟨rfl, HB3.out⟩
      · rw [if_neg h2] at h; exact absurd h (by simp)
  · rw [if_neg hs] at h; exact absurd h (by simp)

/-! ### bits_Len8: function 84 -/
def bits_Len8.f (a0 : Int) : Option Int := if 0 ≤ a0 ∧ a0 ≤ 255 then some (Lib.bitLen a0.toNat : Int) else none
theorem bits_Len8.calls (a0 : Int) (r : Int) (w : World) (h : bits_Len8.f a0 = some r) :
    Calls Try.prog 84 #[.int .u8 a0] w fun e w' => e = .returned (.int .i64 r) ∧ Drawn0 w w' := by
  unfold bits_Len8.f at h
  by_cases hs : 0 ≤ a0 ∧ a0 ≤ 255
  · rw [if_pos hs] at h
    obtain rfl := Option.some.inj h
    exact (Go.Proofs.Ytelcciekdoccfaa.Pre.bits_Len8 a0 w hs.1 hs.2).mono fun _ _ ⟨h1, h2⟩ => ⟨h1, by rw [h2]; exact Drawn0.refl _⟩
  · rw [if_neg hs] at h; exact absurd h (by simp)

/-! ### bits_LeadingZeros8: function 82 -/
def bits_LeadingZeros8.f (a0 : Int) : Option (Int) := (bits_Len8.f a0).bind fun t106 => (some (wrap64 (8 - t106)))
set_option maxHeartbeats 8000000 in
set_option maxRecDepth 100000 in
theorem bits_LeadingZeros8.calls (a0 : Int) (r : Int) (w : World) (h : bits_LeadingZeros8.f a0 = some r) :
    Calls Try.prog 82 #[.int .u8 a0] w fun e w' => e = .returned (.int .i64 r) ∧ Drawn0 w w' := by
  have H : ((bits_Len8.f a0).bind fun t106 => (some (wrap64 (8 - t106)))) = some r := h
  clear h
  replace H := Option.bind_eq_some_iff.mp H
  obtain ⟨t106, A20, H⟩ := H
  replace H : (some (wrap64 (8 - t106))) = some r := H
  have A2 := Aside0.mk A20
  clear A20
  obtain rfl := Option.some.inj H
  go_enter Try.func82, Try.ntmps82
  go_wp2_with (first | ((with_reducible refine gate_callee (f := 84) rfl ?_); refine goesL_ (some 4) rfl rfl Try.func84 (by kernel_rfl) rfl #[.int .u8 a0] rfl (by (try simp only [List.map_toArray, List.map_cons, List.map_nil]); first | done | rfl | (simp only [List.length_drop, List.length_take]; rfl)) ?_; (with_reducible refine (bits_Len8.calls a0 t106 _ A2.out).mono ?_); rintro e w' ⟨rfl, ⟨nd, rfl⟩⟩; refine ⟨_, rfl, ?_⟩))
  go_ret
  exact ⟨by first | rfl | (simp; done) | (simp [*]; done), by repeat (first | exact Drawn0.refl _ | apply Drawn0.step)⟩

/-! ### bits_Alike: function 72 -/
def bits_Alike.l0 : Nat → ByteArray → ByteArray → Int → Int → Option (Int)
  | 0, _, _, _, _ => none
  | k + 1, x0, x1, x11, x12 => if x12 < x11 then (if 0 ≤ x12 then (if x12 < (x0.size : Int) then (if x12 < (x1.size : Int) then (if (Go.bits .xor .u8 (bt x0 x12) (bt x1 x12)) = 0 then (bits_Alike.l0 k x0 x1 x11 (wrap64 (x12 + 1))) else ((bits_LeadingZeros8.f (Go.bits .xor .u8 (bt x0 x12) (bt x1 x12))).bind fun t107 => (some (wrap64 ((wrap64 (8 * x12)) + t107))))) else (none)) else (none)) else (none)) else (some (wrap64 (8 * (mn (x0.size : Int) (x1.size : Int)))))
def bits_Alike.f (k : Nat) (a0 : ByteArray) (a1 : ByteArray) : Option (Int) := bits_Alike.l0 k a0 a1 (mn (a0.size : Int) (a1.size : Int)) 0
theorem bits_Alike.mono_l : ∀ k, (∀ y0 y1 y2 y3, LeO (bits_Alike.l0 k y0 y1 y2 y3) (bits_Alike.l0 (k + 1) y0 y1 y2 y3))
  | 0 => fun _ _ _ _ r h => by simp [bits_Alike.l0] at h
  | k + 1 => by
    have ih0 := bits_Alike.mono_l k
    · intro y0 y1 y2 y3
      unfold bits_Alike.l0
      repeat' first
      | (with_reducible exact ih0 _ _ _ _)
      | (with_reducible exact LeO.refl _)
      | (with_reducible exact LeO.none _)
      | (with_reducible refine LeO.ite ?_ ?_)
      | (with_reducible refine LeO.bind ?_ (fun _ => ?_))
      | exact ih0 _ _ _ _
      | exact LeO.none _
      | refine LeO.ite ?_ ?_
      | refine LeO.bind ?_ (fun _ => ?_)
theorem bits_Alike.mono : ∀ a0 a1 k, LeO (bits_Alike.f k a0 a1) (bits_Alike.f (k + 1) a0 a1) := by
  intro a0 a1 k
  have ih0 := bits_Alike.mono_l k
  unfold bits_Alike.f
  repeat' first
      | (with_reducible exact ih0 _ _ _ _)
      | (with_reducible exact LeO.refl _)
      | (with_reducible exact LeO.none _)
      | (with_reducible refine LeO.ite ?_ ?_)
      | (with_reducible refine LeO.bind ?_ (fun _ => ?_))
      | exact ih0 _ _ _ _
      | exact LeO.none _
      | refine LeO.ite ?_ ?_
      | refine LeO.bind ?_ (fun _ => ?_)
set_option maxHeartbeats 8000000 in
set_option maxRecDepth 100000 in
theorem bits_Alike.calls (k : Nat) (a0 : ByteArray) (a1 : ByteArray) (r : Int) (w : World) (h : bits_Alike.f k a0 a1 = some r) :
    Calls Try.prog 72 #[.string a0, .string a1] w fun e w' => e = .returned (.int .i64 r) ∧ Below w.heap.size w w' := by
  have HB := Aside0.mk (Below.refl w.heap.size w)
  have H : (bits_Alike.l0 k a0 a1 (mn (a0.size : Int) (a1.size : Int)) 0) = some r := h
  clear h
  obtain ⟨ji3, hji3⟩ : ∃ j_ : Int, (mn (a0.size : Int) (a1.size : Int)) = j_ := ⟨_, rfl⟩
  replace H : (bits_Alike.l0 k a0 a1 ji3 0) = some r := by first | (rw [hji3] at H; exact H) | (simp only [hji3] at H ⊢; exact H)
  (try (have hji3l : 0 ≤ ji3 := by (rw [← hji3]; unfold mn; (repeat' split) <;> omega)))
  (try (have hji3m : 0 ≤ ji3 := by omega))
  have hji3_ : (if (a1.size : Int) < (a0.size : Int) then (a1.size : Int) else (a0.size : Int)) = ji3 := hji3
  (try have hji3n_ := hji3_; simp only [Int.ofNat_lt] at hji3n_)
  have H' := Aside0.mk H
  clear H
  go_enter Try.func72, Try.ntmps72
  go_wp2
  repeat (go_quiet (fail); try go_wp2)
  go_loopg [12] k (fun kq v12 w' => ∃ (x12_1 : Int), v12 = .int .i64 x12_1 ∧ Aside0 (bits_Alike.l0 kq a0 a1 ji3 x12_1 = some r) ∧ Aside0 (kq ≤ k) ∧ Aside0 (Below w.heap.size w w'))
  case atStart => exact ⟨(0), (by first | rfl | (simp; done) | (simp [*]; done)), H', ⟨Nat.le_refl _⟩, ⟨by repeat (first | (with_reducible first | exact HB.out | apply below_alloc | apply pw_below_drewN | apply below_drew1) | exact HB.out)⟩⟩
  case round =>
    clear H'
    try clear p2
    obtain ⟨x12_1, rfl, HA, HK1, HB⟩ := hrel
    cases gk with
    | zero => exact absurd HA.out (by simp [bits_Alike.l0])
    | succ k1 =>
      have H := HA.out
      clear HA
      simp only [bits_Alike.l0] at H
      by_cases c4 : x12_1 < ji3
      · rw [if_pos c4] at H
        have c4b0 : decide (x12_1 < ji3) = true := decide_eq_true c4
        clear c4
        by_cases c5 : 0 ≤ x12_1
        · rw [if_pos c5] at H
          have c5b0 : decide (0 ≤ x12_1) = true := decide_eq_true c5
          clear c5
          by_cases c6 : x12_1 < (a0.size : Int)
          · rw [if_pos c6] at H
            have c6b0 : decide (x12_1 < (a0.size : Int)) = true := decide_eq_true c6
            clear c6
            by_cases c8 : x12_1 < (a1.size : Int)
            · rw [if_pos c8] at H
              have c8b0 : decide (x12_1 < (a1.size : Int)) = true := decide_eq_true c8
              clear c8
              by_cases c10 : (Go.bits .xor .u8 (bt a0 x12_1) (bt a1 x12_1)) = 0
              · rw [if_pos c10] at H
                have c10b0 : ((Go.bits .xor .u8 (bt a0 x12_1) (bt a1 x12_1)) == 0) = true := beq_iff_eq.mpr c10
                have c10b1 : ((Go.bits .xor .u8 (bt a0 x12_1) (bt a1 x12_1)) != 0) = false := bne_eq_false_iff_eq.mpr c10
                clear c10
                have H' := Aside0.mk H
                clear H
                have p7 : 0 ≤ (x12_1 : Int) := of_decide_eq_true (by first | (with_reducible assumption) | assumption)
                have q7 : x12_1 < (a0.size : Int) := of_decide_eq_true (by first | (with_reducible assumption) | assumption)
                have hx7 := bt_at a0 x12_1
                replace p7 := eq_true p7
                replace q7 := eq_true q7
                have p9 : 0 ≤ (x12_1 : Int) := of_decide_eq_true (by first | (with_reducible assumption) | assumption)
                have q9 : x12_1 < (a1.size : Int) := of_decide_eq_true (by first | (with_reducible assumption) | assumption)
                have hx9 := bt_at a1 x12_1
                replace p9 := eq_true p9
                replace q9 := eq_true q9
                go_wp2
                repeat (go_quiet (fail); try go_wp2)
                go_roundg k1
                case measure => have := HK1.out; omega
                case rel => exact ⟨(wrap64 (x12_1 + 1)), (by first | rfl | (simp; done) | (simp [*]; done)), H', ⟨by have := HK1.out; omega⟩, ⟨by repeat (first | (with_reducible first | exact HB.out | apply below_alloc | apply pw_below_drewN | apply below_drew1) | exact HB.out)⟩⟩
              · rw [if_neg c10] at H
                have c10b0 : ((Go.bits .xor .u8 (bt a0 x12_1) (bt a1 x12_1)) == 0) = false := beq_eq_false_iff_ne.mpr c10
                have c10b1 : ((Go.bits .xor .u8 (bt a0 x12_1) (bt a1 x12_1)) != 0) = true := bne_iff_ne.mpr c10
                replace H := Option.bind_eq_some_iff.mp H
                obtain ⟨t107, A110, H⟩ := H
                replace H : (some (wrap64 ((wrap64 (8 * x12_1)) + t107))) = some r := H
                have A11 := Aside0.mk A110
                clear A110
                obtain rfl := Option.some.inj H
                have p7 : 0 ≤ (x12_1 : Int) := of_decide_eq_true (by first | (with_reducible assumption) | assumption)
                have q7 : x12_1 < (a0.size : Int) := of_decide_eq_true (by first | (with_reducible assumption) | assumption)
                have hx7 := bt_at a0 x12_1
                replace p7 := eq_true p7
                replace q7 := eq_true q7
                have p9 : 0 ≤ (x12_1 : Int) := of_decide_eq_true (by first | (with_reducible assumption) | assumption)
                have q9 : x12_1 < (a1.size : Int) := of_decide_eq_true (by first | (with_reducible assumption) | assumption)
                have hx9 := bt_at a1 x12_1
                replace p9 := eq_true p9
                replace q9 := eq_true q9
                go_wp2_with (first | (go_at_call 82; (with_reducible refine (bits_LeadingZeros8.calls (Go.bits .xor .u8 (bt a0 x12_1) (bt a1 x12_1)) t107 _ A11.out).mono ?_); rintro e w' ⟨rfl, ⟨nd, rfl⟩⟩; (try first | exact ⟨rfl, _, World.drewN_drewN _ _ _⟩ | exact ⟨rfl, _, Eq.trans (World.drewN_drewN _ _ _) (congrArg (World.drewN _) (Nat.add_assoc _ _ _))⟩)))
                repeat (go_quiet (first | (go_at_call 82; (with_reducible refine (bits_LeadingZeros8.calls (Go.bits .xor .u8 (bt a0 x12_1) (bt a1 x12_1)) t107 _ A11.out).mono ?_); rintro e w' ⟨rfl, ⟨nd, rfl⟩⟩; (try first | exact ⟨rfl, _, World.drewN_drewN _ _ _⟩ | exact ⟨rfl, _, Eq.trans (World.drewN_drewN _ _ _) (congrArg (World.drewN _) (Nat.add_assoc _ _ _))⟩))); try go_wp2_with (first | (go_at_call 82; (with_reducible refine (bits_LeadingZeros8.calls (Go.bits .xor .u8 (bt a0 x12_1) (bt a1 x12_1)) t107 _ A11.out).mono ?_); rintro e w' ⟨rfl, ⟨nd, rfl⟩⟩; (try first | exact ⟨rfl, _, World.drewN_drewN _ _ _⟩ | exact ⟨rfl, _, Eq.trans (World.drewN_drewN _ _ _) (congrArg (World.drewN _) (Nat.add_assoc _ _ _))⟩))))
                go_ret
                exact ⟨by first | rfl | (simp [errW_none, errW_some] <;> rfl) | (simp only [← hji3]; first | rfl | (simp [errW_none, errW_some] <;> rfl)) | (simp [*, errW_none, errW_some] <;> rfl), by repeat (first | (with_reducible first | exact HB.out | apply below_alloc | apply pw_below_drewN | apply below_drew1) | exact HB.out)⟩
            · rw [if_neg c8] at H
              exact absurd H (by simp)
          · rw [if_neg c6] at H
            exact absurd H (by simp)
        · rw [if_neg c5] at H
          exact absurd H (by simp)
      · rw [if_neg c4] at H
        have c4b0 : decide (x12_1 < ji3) = false := decide_eq_false c4
        clear c4
        obtain ⟨ji12, hji12⟩ : ∃ j_ : Int, (mn (a0.size : Int) (a1.size : Int)) = j_ := ⟨_, rfl⟩
        replace H : (some (wrap64 (8 * (ji12)))) = some r := by first | (rw [hji12] at H; exact H) | (simp only [hji12] at H ⊢; exact H)
        (try (have hji12l : 0 ≤ ji12 := by (rw [← hji12]; unfold mn; (repeat' split) <;> omega)))
        (try (have hji12m : 0 ≤ ji12 := by omega))
        have hji12_ : (if (a1.size : Int) < (a0.size : Int) then (a1.size : Int) else (a0.size : Int)) = ji12 := hji12
        (try have hji12n_ := hji12_; simp only [Int.ofNat_lt] at hji12n_)
        obtain rfl := Option.some.inj H
        go_wp2
        repeat (go_quiet (fail); try go_wp2)
        go_ret
        exact ⟨by first | rfl | (simp [errW_none, errW_some] <;> rfl) | (simp only [← hji3, ← hji12]; first | rfl | (simp [errW_none, errW_some] <;> rfl)) | (simp [*, errW_none, errW_some] <;> rfl), by repeat (first | (with_reducible first | exact HB.out | apply below_alloc | apply pw_below_drewN | apply below_drew1) | exact HB.out)⟩

/-! ### prefix_Lead: function 33 -/
def prefix_Lead.f (k : Nat) (a0 : ByteArray) (a1 : ByteArray) : Option (Int) := (bits_Alike.f k a0 a1).bind fun t108 => (some (t108 / 8))
theorem prefix_Lead.mono : ∀ a0 a1 k, LeO (prefix_Lead.f k a0 a1) (prefix_Lead.f (k + 1) a0 a1) := by
  intro a0 a1 k
  unfold prefix_Lead.f
  repeat' first
      | (with_reducible exact bits_Alike.mono _ _ _)
      | (with_reducible exact LeO.refl _)
      | (with_reducible exact LeO.none _)
      | (with_reducible refine LeO.ite ?_ ?_)
      | (with_reducible refine LeO.bind ?_ (fun _ => ?_))
      | exact bits_Alike.mono _ _ _
      | exact LeO.none _
      | refine LeO.ite ?_ ?_
      | refine LeO.bind ?_ (fun _ => ?_)
set_option maxHeartbeats 8000000 in
set_option maxRecDepth 100000 in
theorem prefix_Lead.calls (k : Nat) (a0 : ByteArray) (a1 : ByteArray) (r : Int) (w : World) (h : prefix_Lead.f k a0 a1 = some r) :
    Calls Try.prog 33 #[.string a0, .string a1] w fun e w' => e = .returned (.int .i64 r) ∧ Below w.heap.size w w' := by
  have HB := Aside0.mk (Below.refl w.heap.size w)
  have H : ((bits_Alike.f k a0 a1).bind fun t108 => (some (t108 / 8))) = some r := h
  clear h
  replace H := Option.bind_eq_some_iff.mp H
  obtain ⟨t108, A30, H⟩ := H
  replace H : (some (t108 / 8)) = some r := H
  have A3 := Aside0.mk A30
  clear A30
  obtain rfl := Option.some.inj H
  go_enter Try.func33, Try.ntmps33
  go_wp2_with (first | ((with_reducible refine gate_callee (f := 72) rfl ?_); refine goesL_ (some 7) rfl rfl Try.func72 (by kernel_rfl) rfl #[.string a0, .string a1] rfl (by (try simp only [List.map_toArray, List.map_cons, List.map_nil]); first | done | rfl | (simp only [List.length_drop, List.length_take]; rfl)) ?_; (with_reducible refine (bits_Alike.calls k a0 a1 t108 _ A3.out).mono ?_); rintro e w4 ⟨rfl, hb⟩; refine ⟨_, rfl, ?_⟩; have n0_ := Aside0.mk (below_step (by repeat (first | (with_reducible first | exact HB.out | apply below_alloc | apply pw_below_drewN | apply below_drew1) | exact HB.out)) hb); clear HB; have HB := n0_; clear n0_; (try clear hb); (try clear hb2); (try clear hk); (try clear hi)))
  go_ret
  exact ⟨by first | rfl | (simp [errW_none, errW_some] <;> rfl) | (simp [*, errW_none, errW_some] <;> rfl), by repeat (first | (with_reducible first | exact HB.out | apply below_alloc | apply pw_below_drewN | apply below_drew1) | exact HB.out)⟩

/-! ### roadbooklaw04_awake: function 24 -/
def roadbooklaw04_awake.f (k : Nat)  : Option (Bool) := (prefix_Right.f (⟨#[10, 1, 2, 0]⟩ : ByteArray) 23).bind fun t109 => (if t109 = true then ((prefix_Right.f (⟨#[10, 1, 2, 0]⟩ : ByteArray) 22).bind fun t110 => (if t110 = true then (some false) else ((prefix_Least.f 23).bind fun t111 => (if t111 = 3 then ((prefix_Cut.f (⟨#[10, 1, 2, 0]⟩ : ByteArray) 23).bind fun t112 => (if t112.toList = ([10, 1, 2] : List UInt8) then ((prefix_Fill.f (⟨#[10]⟩ : ByteArray) 4).bind fun t113 => (if t113.toList = ([10, 0, 0, 0] : List UInt8) then ((prefix_Lead.f k (⟨#[97, 98, 99]⟩ : ByteArray) (⟨#[97, 98, 100]⟩ : ByteArray)).bind fun t114 => (some (t114 == 2))) else (some false))) else (some false))) else (some false))))) else (some false))
theorem roadbooklaw04_awake.mono : ∀ k, LeO (roadbooklaw04_awake.f k ) (roadbooklaw04_awake.f (k + 1) ) := by
  intro  k
  unfold roadbooklaw04_awake.f
  repeat' first
      | (with_reducible exact prefix_Lead.mono _ _ _)
      | (with_reducible exact LeO.refl _)
      | (with_reducible exact LeO.none _)
      | (with_reducible refine LeO.ite ?_ ?_)
      | (with_reducible refine LeO.bind ?_ (fun _ => ?_))
      | exact prefix_Lead.mono _ _ _
      | exact LeO.none _
      | refine LeO.ite ?_ ?_
      | refine LeO.bind ?_ (fun _ => ?_)
set_option maxHeartbeats 8000000 in
set_option maxRecDepth 100000 in
theorem roadbooklaw04_awake.calls (k : Nat)  (r : Bool) (w : World) (h : roadbooklaw04_awake.f k  = some r) :
    Calls Try.prog 24 #[] w fun e w' => e = .returned (.bool r) ∧ Below w.heap.size w w' := by
  have HB := Aside0.mk (Below.refl w.heap.size w)
  have H : ((prefix_Right.f (⟨#[10, 1, 2, 0]⟩ : ByteArray) 23).bind fun t109 => (if t109 = true then ((prefix_Right.f (⟨#[10, 1, 2, 0]⟩ : ByteArray) 22).bind fun t110 => (if t110 = true then (some false) else ((prefix_Least.f 23).bind fun t111 => (if t111 = 3 then ((prefix_Cut.f (⟨#[10, 1, 2, 0]⟩ : ByteArray) 23).bind fun t112 => (if t112.toList = ([10, 1, 2] : List UInt8) then ((prefix_Fill.f (⟨#[10]⟩ : ByteArray) 4).bind fun t113 => (if t113.toList = ([10, 0, 0, 0] : List UInt8) then ((prefix_Lead.f k (⟨#[97, 98, 99]⟩ : ByteArray) (⟨#[97, 98, 100]⟩ : ByteArray)).bind fun t114 => (some (t114 == 2))) else (some false))) else (some false))) else (some false))))) else (some false))) = some r := h
  clear h
  replace H := Option.bind_eq_some_iff.mp H
  obtain ⟨t109, A10, H⟩ := H
  replace H : (if t109 = true then ((prefix_Right.f (⟨#[10, 1, 2, 0]⟩ : ByteArray) 22).bind fun t110 => (if t110 = true then (some false) else ((prefix_Least.f 23).bind fun t111 => (if t111 = 3 then ((prefix_Cut.f (⟨#[10, 1, 2, 0]⟩ : ByteArray) 23).bind fun t112 => (if t112.toList = ([10, 1, 2] : List UInt8) then ((prefix_Fill.f (⟨#[10]⟩ : ByteArray) 4).bind fun t113 => (if t113.toList = ([10, 0, 0, 0] : List UInt8) then ((prefix_Lead.f k (⟨#[97, 98, 99]⟩ : ByteArray) (⟨#[97, 98, 100]⟩ : ByteArray)).bind fun t114 => (some (t114 == 2))) else (some false))) else (some false))) else (some false))))) else (some false)) = some r := H
  have A1 := Aside0.mk A10
  clear A10
  by_cases c2 : t109 = true
  · subst c2
    have H1 : ((prefix_Right.f (⟨#[10, 1, 2, 0]⟩ : ByteArray) 22).bind fun t110 => (if t110 = true then (some false) else ((prefix_Least.f 23).bind fun t111 => (if t111 = 3 then ((prefix_Cut.f (⟨#[10, 1, 2, 0]⟩ : ByteArray) 23).bind fun t112 => (if t112.toList = ([10, 1, 2] : List UInt8) then ((prefix_Fill.f (⟨#[10]⟩ : ByteArray) 4).bind fun t113 => (if t113.toList = ([10, 0, 0, 0] : List UInt8) then ((prefix_Lead.f k (⟨#[97, 98, 99]⟩ : ByteArray) (⟨#[97, 98, 100]⟩ : ByteArray)).bind fun t114 => (some (t114 == 2))) else (some false))) else (some false))) else (some false))))) = some r := by rw [if_pos rfl] at H; exact H
    clear H
    have H := H1
    clear H1
    replace H := Option.bind_eq_some_iff.mp H
    obtain ⟨t110, A30, H⟩ := H
    replace H : (if t110 = true then (some false) else ((prefix_Least.f 23).bind fun t111 => (if t111 = 3 then ((prefix_Cut.f (⟨#[10, 1, 2, 0]⟩ : ByteArray) 23).bind fun t112 => (if t112.toList = ([10, 1, 2] : List UInt8) then ((prefix_Fill.f (⟨#[10]⟩ : ByteArray) 4).bind fun t113 => (if t113.toList = ([10, 0, 0, 0] : List UInt8) then ((prefix_Lead.f k (⟨#[97, 98, 99]⟩ : ByteArray) (⟨#[97, 98, 100]⟩ : ByteArray)).bind fun t114 => (some (t114 == 2))) else (some false))) else (some false))) else (some false)))) = some r := H
    have A3 := Aside0.mk A30
    clear A30
    by_cases c4 : t110 = true
    · subst c4
      have H1 : (some false) = some r := by rw [if_pos rfl] at H; exact H
      clear H
      have H := H1
      clear H1
      obtain rfl := Option.some.inj H
      go_enter Try.func24, Try.ntmps24
      go_wp2_with (first | ((with_reducible refine gate_callee (f := 25) rfl ?_); refine goesL_ (some 3) rfl rfl Try.func25 (by kernel_rfl) rfl #[.string (⟨#[10, 1, 2, 0]⟩ : ByteArray), .int .i64 23] rfl (by (try simp only [List.map_toArray, List.map_cons, List.map_nil]); first | done | rfl | (simp only [List.length_drop, List.length_take]; rfl)) ?_; (with_reducible refine (prefix_Right.calls (⟨#[10, 1, 2, 0]⟩ : ByteArray) 23 true _ A1.out).mono ?_); rintro e w5 ⟨rfl, hb⟩; refine ⟨_, rfl, ?_⟩; have n0_ := Aside0.mk (below_step (by repeat (first | (with_reducible first | exact HB.out | apply below_alloc | apply pw_below_drewN | apply below_drew1) | exact HB.out)) hb); clear HB; have HB := n0_; clear n0_; (try clear hb); (try clear hb2); (try clear hk); (try clear hi)) | (go_at_call 25; (with_reducible refine (prefix_Right.calls (⟨#[10, 1, 2, 0]⟩ : ByteArray) 22 true _ A3.out).mono ?_); rintro e w6 ⟨rfl, hb⟩; have n0_ := Aside0.mk (below_step (by repeat (first | (with_reducible first | exact HB.out | apply below_alloc | apply pw_below_drewN | apply below_drew1) | exact HB.out)) hb); clear HB; have HB := n0_; clear n0_; (try clear hb); (try clear hb2); (try clear hk); (try clear hi)))
      go_ret
      exact ⟨by first | rfl | (simp [errW_none, errW_some] <;> rfl) | (simp [*, errW_none, errW_some] <;> rfl), by repeat (first | (with_reducible first | exact HB.out | apply below_alloc | apply pw_below_drewN | apply below_drew1) | exact HB.out)⟩
    · replace c4 := Bool.eq_false_iff.mpr c4
      subst c4
      have H1 : ((prefix_Least.f 23).bind fun t111 => (if t111 = 3 then ((prefix_Cut.f (⟨#[10, 1, 2, 0]⟩ : ByteArray) 23).bind fun t112 => (if t112.toList = ([10, 1, 2] : List UInt8) then ((prefix_Fill.f (⟨#[10]⟩ : ByteArray) 4).bind fun t113 => (if t113.toList = ([10, 0, 0, 0] : List UInt8) then ((prefix_Lead.f k (⟨#[97, 98, 99]⟩ : ByteArray) (⟨#[97, 98, 100]⟩ : ByteArray)).bind fun t114 => (some (t114 == 2))) else (some false))) else (some false))) else (some false))) = some r := by rw [if_neg (show ¬ (false = true) by decide)] at H; exact H
      clear H
      have H := H1
      clear H1
      replace H := Option.bind_eq_some_iff.mp H
      obtain ⟨t111, A70, H⟩ := H
      replace H : (if t111 = 3 then ((prefix_Cut.f (⟨#[10, 1, 2, 0]⟩ : ByteArray) 23).bind fun t112 => (if t112.toList = ([10, 1, 2] : List UInt8) then ((prefix_Fill.f (⟨#[10]⟩ : ByteArray) 4).bind fun t113 => (if t113.toList = ([10, 0, 0, 0] : List UInt8) then ((prefix_Lead.f k (⟨#[97, 98, 99]⟩ : ByteArray) (⟨#[97, 98, 100]⟩ : ByteArray)).bind fun t114 => (some (t114 == 2))) else (some false))) else (some false))) else (some false)) = some r := H
      have A7 := Aside0.mk A70
      clear A70
      by_cases c8 : t111 = 3
      · rw [if_pos c8] at H
        have c8b0 : (t111 == 3) = true := beq_iff_eq.mpr c8
        have c8b1 : (t111 != 3) = false := bne_eq_false_iff_eq.mpr c8
        clear c8
        replace H := Option.bind_eq_some_iff.mp H
        obtain ⟨t112, A90, H⟩ := H
        replace H : (if t112.toList = ([10, 1, 2] : List UInt8) then ((prefix_Fill.f (⟨#[10]⟩ : ByteArray) 4).bind fun t113 => (if t113.toList = ([10, 0, 0, 0] : List UInt8) then ((prefix_Lead.f k (⟨#[97, 98, 99]⟩ : ByteArray) (⟨#[97, 98, 100]⟩ : ByteArray)).bind fun t114 => (some (t114 == 2))) else (some false))) else (some false)) = some r := H
        have A9 := Aside0.mk A90
        clear A90
        by_cases c10 : t112.toList = ([10, 1, 2] : List UInt8)
        · rw [if_pos c10] at H
          have c10b0 : (t112.toList == ([10, 1, 2] : List UInt8)) = true := beq_iff_eq.mpr c10
          have c10b1 : (t112.toList != ([10, 1, 2] : List UInt8)) = false := bne_eq_false_iff_eq.mpr c10
          clear c10
          replace H := Option.bind_eq_some_iff.mp H
          obtain ⟨t113, A110, H⟩ := H
          replace H : (if t113.toList = ([10, 0, 0, 0] : List UInt8) then ((prefix_Lead.f k (⟨#[97, 98, 99]⟩ : ByteArray) (⟨#[97, 98, 100]⟩ : ByteArray)).bind fun t114 => (some (t114 == 2))) else (some false)) = some r := H
          have A11 := Aside0.mk A110
          clear A110
          by_cases c12 : t113.toList = ([10, 0, 0, 0] : List UInt8)
          · rw [if_pos c12] at H
            have c12b0 : (t113.toList == ([10, 0, 0, 0] : List UInt8)) = true := beq_iff_eq.mpr c12
            have c12b1 : (t113.toList != ([10, 0, 0, 0] : List UInt8)) = false := bne_eq_false_iff_eq.mpr c12
            clear c12
            replace H := Option.bind_eq_some_iff.mp H
            obtain ⟨t114, A130, H⟩ := H
            replace H : (some (t114 == 2)) = some r := H
            have A13 := Aside0.mk A130
            clear A130
            obtain rfl := Option.some.inj H
            go_enter Try.func24, Try.ntmps24
            go_wp2_with (first | ((with_reducible refine gate_callee (f := 25) rfl ?_); refine goesL_ (some 3) rfl rfl Try.func25 (by kernel_rfl) rfl #[.string (⟨#[10, 1, 2, 0]⟩ : ByteArray), .int .i64 23] rfl (by (try simp only [List.map_toArray, List.map_cons, List.map_nil]); first | done | rfl | (simp only [List.length_drop, List.length_take]; rfl)) ?_; (with_reducible refine (prefix_Right.calls (⟨#[10, 1, 2, 0]⟩ : ByteArray) 23 true _ A1.out).mono ?_); rintro e w14 ⟨rfl, hb⟩; refine ⟨_, rfl, ?_⟩; have n0_ := Aside0.mk (below_step (by repeat (first | (with_reducible first | exact HB.out | apply below_alloc | apply pw_below_drewN | apply below_drew1) | exact HB.out)) hb); clear HB; have HB := n0_; clear n0_; (try clear hb); (try clear hb2); (try clear hk); (try clear hi)) | (go_at_call 25; (with_reducible refine (prefix_Right.calls (⟨#[10, 1, 2, 0]⟩ : ByteArray) 22 false _ A3.out).mono ?_); rintro e w15 ⟨rfl, hb⟩; have n0_ := Aside0.mk (below_step (by repeat (first | (with_reducible first | exact HB.out | apply below_alloc | apply pw_below_drewN | apply below_drew1) | exact HB.out)) hb); clear HB; have HB := n0_; clear n0_; (try clear hb); (try clear hb2); (try clear hk); (try clear hi)) | (go_at_call 27; (with_reducible refine (prefix_Least.calls 23 t111 _ A7.out).mono ?_); rintro e w16 ⟨rfl, hb⟩; have n0_ := Aside0.mk (below_step (by repeat (first | (with_reducible first | exact HB.out | apply below_alloc | apply pw_below_drewN | apply below_drew1) | exact HB.out)) hb); clear HB; have HB := n0_; clear n0_; (try clear hb); (try clear hb2); (try clear hk); (try clear hi)) | (go_at_call 29; (with_reducible refine (prefix_Cut.calls (⟨#[10, 1, 2, 0]⟩ : ByteArray) 23 t112 _ A9.out).mono ?_); rintro e w17 ⟨rfl, hb⟩; have n0_ := Aside0.mk (below_step (by repeat (first | (with_reducible first | exact HB.out | apply below_alloc | apply pw_below_drewN | apply below_drew1) | exact HB.out)) hb); clear HB; have HB := n0_; clear n0_; (try clear hb); (try clear hb2); (try clear hk); (try clear hi)) | (go_at_call 31; (with_reducible refine (prefix_Fill.calls (⟨#[10]⟩ : ByteArray) 4 t113 _ A11.out).mono ?_); rintro e w18 ⟨rfl, hb⟩; have n0_ := Aside0.mk (below_step (by repeat (first | (with_reducible first | exact HB.out | apply below_alloc | apply pw_below_drewN | apply below_drew1) | exact HB.out)) hb); clear HB; have HB := n0_; clear n0_; (try clear hb); (try clear hb2); (try clear hk); (try clear hi)) | (go_at_call 33; (with_reducible refine (prefix_Lead.calls k (⟨#[97, 98, 99]⟩ : ByteArray) (⟨#[97, 98, 100]⟩ : ByteArray) t114 _ A13.out).mono ?_); rintro e w19 ⟨rfl, hb⟩; have n0_ := Aside0.mk (below_step (by repeat (first | (with_reducible first | exact HB.out | apply below_alloc | apply pw_below_drewN | apply below_drew1) | exact HB.out)) hb); clear HB; have HB := n0_; clear n0_; (try clear hb); (try clear hb2); (try clear hk); (try clear hi)))
            go_ret
            exact ⟨by first | rfl | (simp [errW_none, errW_some] <;> rfl) | (simp [*, errW_none, errW_some] <;> rfl), by repeat (first | (with_reducible first | exact HB.out | apply below_alloc | apply pw_below_drewN | apply below_drew1) | exact HB.out)⟩
          · rw [if_neg c12] at H
            have c12b0 : (t113.toList == ([10, 0, 0, 0] : List UInt8)) = false := beq_eq_false_iff_ne.mpr c12
            have c12b1 : (t113.toList != ([10, 0, 0, 0] : List UInt8)) = true := bne_iff_ne.mpr c12
            obtain rfl := Option.some.inj H
            go_enter Try.func24, Try.ntmps24
            go_wp2_with (first | ((with_reducible refine gate_callee (f := 25) rfl ?_); refine goesL_ (some 3) rfl rfl Try.func25 (by kernel_rfl) rfl #[.string (⟨#[10, 1, 2, 0]⟩ : ByteArray), .int .i64 23] rfl (by (try simp only [List.map_toArray, List.map_cons, List.map_nil]); first | done | rfl | (simp only [List.length_drop, List.length_take]; rfl)) ?_; (with_reducible refine (prefix_Right.calls (⟨#[10, 1, 2, 0]⟩ : ByteArray) 23 true _ A1.out).mono ?_); rintro e w20 ⟨rfl, hb⟩; refine ⟨_, rfl, ?_⟩; have n0_ := Aside0.mk (below_step (by repeat (first | (with_reducible first | exact HB.out | apply below_alloc | apply pw_below_drewN | apply below_drew1) | exact HB.out)) hb); clear HB; have HB := n0_; clear n0_; (try clear hb); (try clear hb2); (try clear hk); (try clear hi)) | (go_at_call 25; (with_reducible refine (prefix_Right.calls (⟨#[10, 1, 2, 0]⟩ : ByteArray) 22 false _ A3.out).mono ?_); rintro e w21 ⟨rfl, hb⟩; have n0_ := Aside0.mk (below_step (by repeat (first | (with_reducible first | exact HB.out | apply below_alloc | apply pw_below_drewN | apply below_drew1) | exact HB.out)) hb); clear HB; have HB := n0_; clear n0_; (try clear hb); (try clear hb2); (try clear hk); (try clear hi)) | (go_at_call 27; (with_reducible refine (prefix_Least.calls 23 t111 _ A7.out).mono ?_); rintro e w22 ⟨rfl, hb⟩; have n0_ := Aside0.mk (below_step (by repeat (first | (with_reducible first | exact HB.out | apply below_alloc | apply pw_below_drewN | apply below_drew1) | exact HB.out)) hb); clear HB; have HB := n0_; clear n0_; (try clear hb); (try clear hb2); (try clear hk); (try clear hi)) | (go_at_call 29; (with_reducible refine (prefix_Cut.calls (⟨#[10, 1, 2, 0]⟩ : ByteArray) 23 t112 _ A9.out).mono ?_); rintro e w23 ⟨rfl, hb⟩; have n0_ := Aside0.mk (below_step (by repeat (first | (with_reducible first | exact HB.out | apply below_alloc | apply pw_below_drewN | apply below_drew1) | exact HB.out)) hb); clear HB; have HB := n0_; clear n0_; (try clear hb); (try clear hb2); (try clear hk); (try clear hi)) | (go_at_call 31; (with_reducible refine (prefix_Fill.calls (⟨#[10]⟩ : ByteArray) 4 t113 _ A11.out).mono ?_); rintro e w24 ⟨rfl, hb⟩; have n0_ := Aside0.mk (below_step (by repeat (first | (with_reducible first | exact HB.out | apply below_alloc | apply pw_below_drewN | apply below_drew1) | exact HB.out)) hb); clear HB; have HB := n0_; clear n0_; (try clear hb); (try clear hb2); (try clear hk); (try clear hi)))
            go_ret
            exact ⟨by first | rfl | (simp [errW_none, errW_some] <;> rfl) | (simp [*, errW_none, errW_some] <;> rfl), by repeat (first | (with_reducible first | exact HB.out | apply below_alloc | apply pw_below_drewN | apply below_drew1) | exact HB.out)⟩
        · rw [if_neg c10] at H
          have c10b0 : (t112.toList == ([10, 1, 2] : List UInt8)) = false := beq_eq_false_iff_ne.mpr c10
          have c10b1 : (t112.toList != ([10, 1, 2] : List UInt8)) = true := bne_iff_ne.mpr c10
          obtain rfl := Option.some.inj H
          go_enter Try.func24, Try.ntmps24
          go_wp2_with (first | ((with_reducible refine gate_callee (f := 25) rfl ?_); refine goesL_ (some 3) rfl rfl Try.func25 (by kernel_rfl) rfl #[.string (⟨#[10, 1, 2, 0]⟩ : ByteArray), .int .i64 23] rfl (by (try simp only [List.map_toArray, List.map_cons, List.map_nil]); first | done | rfl | (simp only [List.length_drop, List.length_take]; rfl)) ?_; (with_reducible refine (prefix_Right.calls (⟨#[10, 1, 2, 0]⟩ : ByteArray) 23 true _ A1.out).mono ?_); rintro e w25 ⟨rfl, hb⟩; refine ⟨_, rfl, ?_⟩; have n0_ := Aside0.mk (below_step (by repeat (first | (with_reducible first | exact HB.out | apply below_alloc | apply pw_below_drewN | apply below_drew1) | exact HB.out)) hb); clear HB; have HB := n0_; clear n0_; (try clear hb); (try clear hb2); (try clear hk); (try clear hi)) | (go_at_call 25; (with_reducible refine (prefix_Right.calls (⟨#[10, 1, 2, 0]⟩ : ByteArray) 22 false _ A3.out).mono ?_); rintro e w26 ⟨rfl, hb⟩; have n0_ := Aside0.mk (below_step (by repeat (first | (with_reducible first | exact HB.out | apply below_alloc | apply pw_below_drewN | apply below_drew1) | exact HB.out)) hb); clear HB; have HB := n0_; clear n0_; (try clear hb); (try clear hb2); (try clear hk); (try clear hi)) | (go_at_call 27; (with_reducible refine (prefix_Least.calls 23 t111 _ A7.out).mono ?_); rintro e w27 ⟨rfl, hb⟩; have n0_ := Aside0.mk (below_step (by repeat (first | (with_reducible first | exact HB.out | apply below_alloc | apply pw_below_drewN | apply below_drew1) | exact HB.out)) hb); clear HB; have HB := n0_; clear n0_; (try clear hb); (try clear hb2); (try clear hk); (try clear hi)) | (go_at_call 29; (with_reducible refine (prefix_Cut.calls (⟨#[10, 1, 2, 0]⟩ : ByteArray) 23 t112 _ A9.out).mono ?_); rintro e w28 ⟨rfl, hb⟩; have n0_ := Aside0.mk (below_step (by repeat (first | (with_reducible first | exact HB.out | apply below_alloc | apply pw_below_drewN | apply below_drew1) | exact HB.out)) hb); clear HB; have HB := n0_; clear n0_; (try clear hb); (try clear hb2); (try clear hk); (try clear hi)))
          go_ret
          exact ⟨by first | rfl | (simp [errW_none, errW_some] <;> rfl) | (simp [*, errW_none, errW_some] <;> rfl), by repeat (first | (with_reducible first | exact HB.out | apply below_alloc | apply pw_below_drewN | apply below_drew1) | exact HB.out)⟩
      · rw [if_neg c8] at H
        have c8b0 : (t111 == 3) = false := beq_eq_false_iff_ne.mpr c8
        have c8b1 : (t111 != 3) = true := bne_iff_ne.mpr c8
        obtain rfl := Option.some.inj H
        go_enter Try.func24, Try.ntmps24
        go_wp2_with (first | ((with_reducible refine gate_callee (f := 25) rfl ?_); refine goesL_ (some 3) rfl rfl Try.func25 (by kernel_rfl) rfl #[.string (⟨#[10, 1, 2, 0]⟩ : ByteArray), .int .i64 23] rfl (by (try simp only [List.map_toArray, List.map_cons, List.map_nil]); first | done | rfl | (simp only [List.length_drop, List.length_take]; rfl)) ?_; (with_reducible refine (prefix_Right.calls (⟨#[10, 1, 2, 0]⟩ : ByteArray) 23 true _ A1.out).mono ?_); rintro e w29 ⟨rfl, hb⟩; refine ⟨_, rfl, ?_⟩; have n0_ := Aside0.mk (below_step (by repeat (first | (with_reducible first | exact HB.out | apply below_alloc | apply pw_below_drewN | apply below_drew1) | exact HB.out)) hb); clear HB; have HB := n0_; clear n0_; (try clear hb); (try clear hb2); (try clear hk); (try clear hi)) | (go_at_call 25; (with_reducible refine (prefix_Right.calls (⟨#[10, 1, 2, 0]⟩ : ByteArray) 22 false _ A3.out).mono ?_); rintro e w30 ⟨rfl, hb⟩; have n0_ := Aside0.mk (below_step (by repeat (first | (with_reducible first | exact HB.out | apply below_alloc | apply pw_below_drewN | apply below_drew1) | exact HB.out)) hb); clear HB; have HB := n0_; clear n0_; (try clear hb); (try clear hb2); (try clear hk); (try clear hi)) | (go_at_call 27; (with_reducible refine (prefix_Least.calls 23 t111 _ A7.out).mono ?_); rintro e w31 ⟨rfl, hb⟩; have n0_ := Aside0.mk (below_step (by repeat (first | (with_reducible first | exact HB.out | apply below_alloc | apply pw_below_drewN | apply below_drew1) | exact HB.out)) hb); clear HB; have HB := n0_; clear n0_; (try clear hb); (try clear hb2); (try clear hk); (try clear hi)))
        go_ret
        exact ⟨by first | rfl | (simp [errW_none, errW_some] <;> rfl) | (simp [*, errW_none, errW_some] <;> rfl), by repeat (first | (with_reducible first | exact HB.out | apply below_alloc | apply pw_below_drewN | apply below_drew1) | exact HB.out)⟩
  · replace c2 := Bool.eq_false_iff.mpr c2
    subst c2
    have H1 : (some false) = some r := by rw [if_neg (show ¬ (false = true) by decide)] at H; exact H
    clear H
    have H := H1
    clear H1
    obtain rfl := Option.some.inj H
    go_enter Try.func24, Try.ntmps24
    go_wp2_with (first | ((with_reducible refine gate_callee (f := 25) rfl ?_); refine goesL_ (some 3) rfl rfl Try.func25 (by kernel_rfl) rfl #[.string (⟨#[10, 1, 2, 0]⟩ : ByteArray), .int .i64 23] rfl (by (try simp only [List.map_toArray, List.map_cons, List.map_nil]); first | done | rfl | (simp only [List.length_drop, List.length_take]; rfl)) ?_; (with_reducible refine (prefix_Right.calls (⟨#[10, 1, 2, 0]⟩ : ByteArray) 23 false _ A1.out).mono ?_); rintro e w32 ⟨rfl, hb⟩; refine ⟨_, rfl, ?_⟩; have n0_ := Aside0.mk (below_step (by repeat (first | (with_reducible first | exact HB.out | apply below_alloc | apply pw_below_drewN | apply below_drew1) | exact HB.out)) hb); clear HB; have HB := n0_; clear n0_; (try clear hb); (try clear hb2); (try clear hk); (try clear hi)))
    go_ret
    exact ⟨by first | rfl | (simp [errW_none, errW_some] <;> rfl) | (simp [*, errW_none, errW_some] <;> rfl), by repeat (first | (with_reducible first | exact HB.out | apply below_alloc | apply pw_below_drewN | apply below_drew1) | exact HB.out)⟩

/-! ### roadbookref03_Bit: function 67 -/
def roadbookref03_Bit.f (a0 : ByteArray) (a1 : Int) : Option (Bool) := if a1 ≥ 0 then (if a1 < (wrap64 (8 * (a0.size : Int))) then (if 0 ≤ (wrap64 (Int.tdiv a1 8)) then (if (wrap64 (Int.tdiv a1 8)) < (a0.size : Int) then (if 0 ≤ (IntKind.u64.wrap (wrap64 (7 - (Int.tmod a1 8)))) then (some ((Int.tmod (shr .i64 (wrap64 (bt a0 (wrap64 (Int.tdiv a1 8)))) (IntKind.u64.wrap (wrap64 (7 - (Int.tmod a1 8))))) 2) == 1)) else (none)) else (none)) else (none)) else (some false)) else (some false)
set_option maxHeartbeats 8000000 in
set_option maxRecDepth 100000 in
theorem roadbookref03_Bit.calls (a0 : ByteArray) (a1 : Int) (r : Bool) (w : World) (h : roadbookref03_Bit.f a0 a1 = some r) :
    Calls Try.prog 67 #[.string a0, .int .i64 a1] w fun e w' => e = .returned (.bool r) ∧ Drawn0 w w' := by
  have H : (if a1 ≥ 0 then (if a1 < (wrap64 (8 * (a0.size : Int))) then (if 0 ≤ (wrap64 (Int.tdiv a1 8)) then (if (wrap64 (Int.tdiv a1 8)) < (a0.size : Int) then (if 0 ≤ (IntKind.u64.wrap (wrap64 (7 - (Int.tmod a1 8)))) then (some ((Int.tmod (shr .i64 (wrap64 (bt a0 (wrap64 (Int.tdiv a1 8)))) (IntKind.u64.wrap (wrap64 (7 - (Int.tmod a1 8))))) 2) == 1)) else (none)) else (none)) else (none)) else (some false)) else (some false)) = some r := h
  clear h
  by_cases c3 : a1 ≥ 0
  · rw [if_pos c3] at H
    have c3b0 : decide (0 ≤ a1) = true := decide_eq_true c3
    clear c3
    by_cases c4 : a1 < (wrap64 (8 * (a0.size : Int)))
    · rw [if_pos c4] at H
      have c4b0 : decide (a1 < (wrap64 (8 * (a0.size : Int)))) = true := decide_eq_true c4
      clear c4
      obtain ⟨ji5, hji5⟩ : ∃ j_ : Int, (wrap64 (Int.tdiv a1 8)) = j_ := ⟨_, rfl⟩
      replace H : (if 0 ≤ (ji5) then (if (ji5) < (a0.size : Int) then (if 0 ≤ (IntKind.u64.wrap (wrap64 (7 - (Int.tmod a1 8)))) then (some ((Int.tmod (shr .i64 (wrap64 (bt a0 (ji5))) (IntKind.u64.wrap (wrap64 (7 - (Int.tmod a1 8))))) 2) == 1)) else (none)) else (none)) else (none)) = some r := by first | (rw [hji5] at H; exact H) | (simp only [hji5] at H ⊢; exact H)
      have hji5w : (IntKind.i64.wrap (Int.tdiv a1 8)) = ji5 := (i64_w _).trans hji5
      by_cases c6 : 0 ≤ (ji5)
      · rw [if_pos c6] at H
        have c6b0 : decide (0 ≤ (ji5)) = true := decide_eq_true c6
        clear c6
        by_cases c7 : (ji5) < (a0.size : Int)
        · rw [if_pos c7] at H
          have c7b0 : decide ((ji5) < (a0.size : Int)) = true := decide_eq_true c7
          clear c7
          obtain ⟨ji9, hji9⟩ : ∃ j_ : Int, (IntKind.u64.wrap (wrap64 (7 - (Int.tmod a1 8)))) = j_ := ⟨_, rfl⟩
          replace H : (if 0 ≤ (ji9) then (some ((Int.tmod (shr .i64 (wrap64 (bt a0 (ji5))) (ji9)) 2) == 1)) else (none)) = some r := by first | (rw [hji9] at H; exact H) | (simp only [hji9] at H ⊢; exact H)
          by_cases c10 : 0 ≤ (ji9)
          · rw [if_pos c10] at H
            have c10b0 := eq_true c10
            have c10b1 : decide (0 ≤ (ji9)) = true := decide_eq_true c10
            clear c10
            obtain ⟨ji11, hji11⟩ : ∃ j_ : Int, (shr .i64 (wrap64 (bt a0 (ji5))) (ji9)) = j_ := ⟨_, rfl⟩
            replace H : (some ((Int.tmod (ji11) 2) == 1)) = some r := by first | (rw [hji11] at H; exact H) | (simp only [hji11] at H ⊢; exact H)
            have hji11_ : ((wrap64 (bt a0 (ji5))) / 2 ^ min (ji9).toNat 64) = ji11 := hji11
            have hji11z : (ji9) ≤ 64 → ((wrap64 (bt a0 (ji5))) / 2 ^ (ji9).toNat) = ji11 := shr_small hji11
            obtain rfl := Option.some.inj H
            have p8 : 0 ≤ ((ji5) : Int) := of_decide_eq_true (by first | (with_reducible assumption) | assumption)
            have q8 : (ji5) < (a0.size : Int) := of_decide_eq_true (by first | (with_reducible assumption) | assumption)
            have hx8 := bt_at a0 (ji5)
            replace p8 := eq_true p8
            replace q8 := eq_true q8
            go_enter Try.func67, Try.ntmps67
            go_wp2
            go_ret
            exact ⟨by first | rfl | (simp; done) | (simp only [← hji5, ← hji9, ← hji11] <;> (first | rfl | simp)) | (simp [*]; done), by repeat (first | exact Drawn0.refl _ | apply Drawn0.step)⟩
          · rw [if_neg c10] at H
            exact absurd H (by simp)
        · rw [if_neg c7] at H
          exact absurd H (by simp)
      · rw [if_neg c6] at H
        exact absurd H (by simp)
    · rw [if_neg c4] at H
      have c4b0 : decide (a1 < (wrap64 (8 * (a0.size : Int)))) = false := decide_eq_false c4
      clear c4
      obtain rfl := Option.some.inj H
      go_enter Try.func67, Try.ntmps67
      go_wp2
      go_ret
      exact ⟨by first | rfl | (simp; done) | (simp [*]; done), by repeat (first | exact Drawn0.refl _ | apply Drawn0.step)⟩
  · rw [if_neg c3] at H
    have c3b0 : decide (0 ≤ a1) = false := decide_eq_false c3
    clear c3
    obtain rfl := Option.some.inj H
    go_enter Try.func67, Try.ntmps67
    go_wp2
    go_ret
    exact ⟨by first | rfl | (simp; done) | (simp [*]; done), by repeat (first | exact Drawn0.refl _ | apply Drawn0.step)⟩

end Go.Proofs.Ytelcciekdoccfaa.PPrefixTells
