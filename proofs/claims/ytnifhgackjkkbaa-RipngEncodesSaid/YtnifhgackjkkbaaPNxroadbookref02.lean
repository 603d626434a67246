-- Written by mp.py, a program of this work (wip/tools), out of the translation; Lean checks it.
import Derived.Test.YtnifhgackjkkbaaPNxZ
namespace Go.Proofs.Ytnifhgackjkkbaa.PN
open Go.RowKit Go.Proofs.YtnifhgackjkkbaaW.PrintWords Go.Proofs.YtnifhgackjkkbaaW.PrintLast Go.Proofs.YtnifhgackjkkbaaW.PrintMore
attribute [local go_sem] max2_int min2_int max_two min_two max_three min_three max_four min_four   -- for this text's walks alone
set_option linter.unusedVariables false
set_option linter.unusedSimpArgs false

/-! ### roadbookref02_Zeros: function 37 -/
def roadbookref02_Zeros.f (a0 : Int) : Option (ByteArray) := if a0 < 0 then (some (⟨#[]⟩ : ByteArray)) else (if 0 ≤ a0 then (if (a0 : Int).toNat ≤ 281474976710656 then (some (strOfNums (List.replicate (a0 : Int).toNat 0))) else (none)) else (none))
set_option maxHeartbeats 8000000 in
set_option maxRecDepth 100000 in
theorem roadbookref02_Zeros.calls (a0 : Int) (r : ByteArray) (w : World) (h : roadbookref02_Zeros.f a0 = some r) :
  Calls Try.prog 37 #[.int .i64 a0] w fun e w' => e = .returned (.string r) ∧ Below w.heap.size w w' := by
 have HB := Aside0.mk (Below.refl w.heap.size w)
 have H : (if a0 < 0 then (some (⟨#[]⟩ : ByteArray)) else (if 0 ≤ a0 then (if (a0 : Int).toNat ≤ 281474976710656 then (some (strOfNums (List.replicate (a0 : Int).toNat 0))) else (none)) else (none))) = some r := h
 clear h
 by_cases c2 : a0 < 0
 ·rw [if_pos c2] at H
  have cV : decide (a0 < 0) = true := decide_eq_true c2
  clear c2
  obtain rfl := Option.some.inj H
  go_enter Try.func37, Try.ntmps37
  go_wp2
  go_ret
  exact ⟨Z2, Z0⟩
 ·rw [if_neg c2] at H
  have cV : decide (a0 < 0) = false := decide_eq_false c2
  clear c2
  by_cases c3 : 0 ≤ a0
  ·rw [if_pos c3] at H
   have bY := eq_true c3
   have cE : decide (0 ≤ a0) = true := decide_eq_true c3
   clear c3
   by_cases c4 : (a0 : Int).toNat ≤ 281474976710656
   ·rw [if_pos c4] at H
    have cG := eq_true c4
    have dG : decide ((a0 : Int).toNat ≤ 281474976710656) = true := decide_eq_true c4
    clear c4
    obtain ⟨eS, hy101⟩ : ∃ y_ : List Int, y_ = (List.replicate (a0 : Int).toNat 0) := ⟨_, rfl⟩
    replace H : (some (strOfNums eS)) = some r := by first | (rw [hy101]; with_reducible exact H) | (have H2_ := (Option.bind_some _ _).symm.trans H; rw [hy101]; with_reducible exact H2_) | (have H2_ := (Option.bind_some _ _).symm.trans H; with_reducible exact H2_) | with_reducible exact H | (rw [hy101]; exact H) | exact H
    have Ny101 := Aside0.mk hy101
    clear hy101
    obtain rfl := Option.some.inj H
    go_enter Try.func37, Try.ntmps37
    go_wp2_with (first | ((with_reducible refine gate_dst (N := 6) rfl ?_); refine Kd.R_make (Kd.int .u8) _ 5 rfl (N := 6) rfl 38 _ _ rfl a0 rfl rfl Try.underlying38 (.int .u8 0) 1 info5 rfl Z18 Z25 0 (ok := fun _ => True) (okp := fun _ => True) rfl (fun _ hk => hk) trivial (of_decide_eq_true Z5) (Nat.le_trans (Nat.mul_le_mul_right _ (of_decide_eq_true Z5 : a0.toNat ≤ 281474976710656)) Z25) (Below.refl _ _) (Nat.le_refl _) ?_; intro fd w5 ho6 hb hg_ hnew_; clear hg_ hnew_; (first | rw [← Ny101.out] at ho6 | (simp only [Int.reduceToNat] at ho6; rw [← Ny101.out] at ho6)); have ee := Aside0.mk (Kd.R_lower ho6 (below_size Z0)); replace HB := Aside0.mk (below_step Z0 hb); clear hb ho6; have hcv7 := own_string (P := Try.prog) Try.underlying38 Try.underlying5 Try.underlying9 (Kd.own_of_R ee.out)))
    go_ret
    exact ⟨Z2, Z0⟩
   ·rw [if_neg c4] at H
    exact absurd H Z36
  ·rw [if_neg c3] at H
   exact absurd H Z36

/-! ### roadbookref12_none: function 21 -/
def roadbookref12_none.f  : Option (ByteArray) := (roadbookref02_Zeros.f 16).bind fun aM => (some aM)
set_option maxHeartbeats 8000000 in
set_option maxRecDepth 100000 in
theorem roadbookref12_none.calls  (r : ByteArray) (w : World) (h : roadbookref12_none.f  = some r) :
  Calls Try.prog 21 #[] w fun e w' => e = .returned (.string r) ∧ Below w.heap.size w w' := by
 have HB := Aside0.mk (Below.refl w.heap.size w)
 have H : ((roadbookref02_Zeros.f 16).bind fun aM => (some aM)) = some r := h
 clear h
 replace H := Option.bind_eq_some_iff.mp H
 obtain ⟨aM, fz, H⟩ := H
 replace H : (some aM) = some r := H
 have A1 := Aside0.mk fz
 clear fz
 obtain rfl := Option.some.inj H
 go_enter Try.func21, Try.ntmps21
 go_wp2_with (first | ((with_reducible refine gate_callee (f := 37) rfl ?_); refine goesL_ (some 1) rfl rfl Try.func37 Z16 rfl #[.int .i64 16] rfl Z4 ?_; (with_reducible refine (roadbookref02_Zeros.calls 16 aM _ A1.out).mono ?_); rintro e w2 ⟨rfl, hb⟩; refine ⟨_, rfl, ?_⟩; replace HB := Aside0.mk (below_step Z0 hb); clear hb))
 go_ret
 exact ⟨Z2, Z0⟩

/-! ### roadbookref08_Number: function 38 -/
def roadbookref08_Number.l0 : Nat → ByteArray → Int → Int → Option (Int)
 | 0, _, _, _ => none
 | k + 1, x0, x3, x4 => if x4 < (x0.size : Int) then (if x4 < 7 then (if 0 ≤ x4 then (roadbookref08_Number.l0 k x0 (wrap64 ((wrap64 (x3 * 256)) + (wrap64 (bt x0 x4)))) (wrap64 (x4 + 1))) else (none)) else (some x3)) else (some x3)
def roadbookref08_Number.f (k : Nat) (a0 : ByteArray) : Option (Int) := roadbookref08_Number.l0 k a0 0 0
theorem roadbookref08_Number.mono_l : ∀ k, (∀ y0 y1 y2, LeO (roadbookref08_Number.l0 k y0 y1 y2) (roadbookref08_Number.l0 (k + 1) y0 y1 y2))
 | 0 => Sq.mz
 | k + 1 => by
  have ih0 := roadbookref08_Number.mono_l k
  ·intros
   unfold roadbookref08_Number.l0
   exact Sq.mo
theorem roadbookref08_Number.mono : ∀ a0 k, LeO (roadbookref08_Number.f k a0) (roadbookref08_Number.f (k + 1) a0) := by
 intro a0 k
 have ih0 := roadbookref08_Number.mono_l k
 unfold roadbookref08_Number.f
 exact Sq.mo
set_option maxHeartbeats 8000000 in
set_option maxRecDepth 100000 in
theorem roadbookref08_Number.calls (k : Nat) (a0 : ByteArray) (r : Int) (w : World) (h : roadbookref08_Number.f k a0 = some r) :
  Calls Try.prog 38 #[.string a0] w fun e w' => e = .returned (.int .i64 r) ∧ Drawn0 w w' := by
 have H : (roadbookref08_Number.l0 k a0 0 0) = some r := h
 clear h
 have H' := Aside0.mk H
 clear H
 go_enter Try.func38, Try.ntmps38
 go_wp2
 go_loopg [3, 4] k (fun kq v3 v4 w' => ∃ (ec : Int) (dk : Int), v3 = .int .i64 ec ∧ v4 = .int .i64 dk ∧ Aside0 (roadbookref08_Number.l0 kq a0 ec dk = some r) ∧ Aside0 (kq ≤ k) ∧ Drawn0 w w')
 case atStart => exact ⟨(0), (0), Z7, Z7, H', ⟨Nat.le_refl _⟩, Z10⟩
 case round =>
  clear H'
  obtain ⟨ec, dk, rfl, rfl, HA, HK1, ⟨m1, rfl⟩⟩ := hrel
  cases gk with
  | zero => exact absurd HA.out (by simp [roadbookref08_Number.l0])
  | succ k1 =>
   have H := HA.out
   clear HA
   simp only [roadbookref08_Number.l0] at H
   by_cases c2 : dk < (a0.size : Int)
   ·rw [if_pos c2] at H
    have cV : decide (dk < (a0.size : Int)) = true := decide_eq_true c2
    clear c2
    by_cases c3 : dk < 7
    ·rw [if_pos c3] at H
     have bY : decide (dk < 7) = true := decide_eq_true c3
     clear c3
     by_cases c4 : 0 ≤ dk
     ·rw [if_pos c4] at H
      have cG : decide (0 ≤ dk) = true := decide_eq_true c4
      clear c4
      have H' := Aside0.mk H
      clear H
      have p5 : 0 ≤ (dk : Int) := of_decide_eq_true Z5
      have q5 : dk < (a0.size : Int) := of_decide_eq_true Z5
      have hx5 := bt_at a0 dk
      replace p5 := eq_true p5
      replace q5 := eq_true q5
      go_wp2
      go_roundg k1
      case measure => have := HK1.out; omega
      case rel => exact ⟨(wrap64 ((wrap64 (ec * 256)) + (wrap64 (bt a0 dk)))), (wrap64 (dk + 1)), Z7, Z7, H', ⟨by have := HK1.out; omega⟩, Z10⟩
     ·rw [if_neg c4] at H
      exact absurd H Z36
    ·rw [if_neg c3] at H
     have bY : decide (dk < 7) = false := decide_eq_false c3
     clear c3
     obtain rfl := Option.some.inj H
     go_wp2
     go_ret
     exact ⟨Z7, Z10⟩
   ·rw [if_neg c2] at H
    have cV : decide (dk < (a0.size : Int)) = false := decide_eq_false c2
    clear c2
    obtain rfl := Option.some.inj H
    go_wp2
    go_ret
    exact ⟨Z7, Z10⟩

/-! ### roadbookref06_link: function 39 -/
def roadbookref06_link.f  : Option (ByteArray) := some (⟨#[254, 128, 0, 0, 0, 0, 0, 0]⟩ : ByteArray)
set_option maxHeartbeats 8000000 in
set_option maxRecDepth 100000 in
theorem roadbookref06_link.calls  (r : ByteArray) (w : World) (h : roadbookref06_link.f  = some r) :
  Calls Try.prog 39 #[] w fun e w' => e = .returned (.string r) ∧ Drawn0 w w' := by
 have H : (some (⟨#[254, 128, 0, 0, 0, 0, 0, 0]⟩ : ByteArray)) = some r := h
 clear h
 obtain rfl := Option.some.inj H
 go_enter Try.func39, Try.ntmps39
 go_wp2
 go_ret
 exact ⟨Z7, Z10⟩

/-! ### roadbookref06_Link: function 23 -/
def roadbookref06_Link.f (a0 : ByteArray) : Option (Bool) := if (a0.size : Int) = 16 then (if 0 ≤ 8 then (if 8 ≤ (a0.size : Int) then ((roadbookref06_link.f).bind fun aM => (some ((a0.extract 0 8).toList == aM.toList))) else (none)) else (none)) else (some false)
set_option maxHeartbeats 8000000 in
set_option maxRecDepth 100000 in
theorem roadbookref06_Link.calls (a0 : ByteArray) (r : Bool) (w : World) (h : roadbookref06_Link.f a0 = some r) :
  Calls Try.prog 23 #[.string a0] w fun e w' => e = .returned (.bool r) ∧ Drawn0 w w' := by
 have H : (if (a0.size : Int) = 16 then (if 0 ≤ 8 then (if 8 ≤ (a0.size : Int) then ((roadbookref06_link.f).bind fun aM => (some ((a0.extract 0 8).toList == aM.toList))) else (none)) else (none)) else (some false)) = some r := h
 clear h
 by_cases c2 : (a0.size : Int) = 16
 ·rw [if_pos c2] at H
  have cV : ((a0.size : Int) == 16) = true := beq_iff_eq.mpr c2
  have dj : ((a0.size : Int) != 16) = false := bne_eq_false_iff_eq.mpr c2
  clear c2
  by_cases c3 : 0 ≤ 8
  ·rw [if_pos c3] at H
   have bY := eq_true c3
   have cE : decide (0 ≤ 8) = true := decide_eq_true c3
   clear c3
   by_cases c4 : 8 ≤ (a0.size : Int)
   ·rw [if_pos c4] at H
    have cG := eq_true c4
    have dG : decide (8 ≤ (a0.size : Int)) = true := decide_eq_true c4
    clear c4
    replace H := Option.bind_eq_some_iff.mp H
    obtain ⟨aM, fb, H⟩ := H
    replace H : (some ((a0.extract 0 8).toList == aM.toList)) = some r := H
    have A5 := Aside0.mk fb
    clear fb
    obtain rfl := Option.some.inj H
    go_enter Try.func23, Try.ntmps23
    go_wp2_with (first | (go_at_call 39; (with_reducible refine (roadbookref06_link.calls  aM _ A5.out).mono ?_); rintro e w' ⟨rfl, ⟨nd, rfl⟩⟩; (try first | exact ⟨rfl, _, World.drewN_drewN _ _ _⟩ | exact ⟨rfl, _, Eq.trans (World.drewN_drewN _ _ _) (congrArg (World.drewN _) (Nat.add_assoc _ _ _))⟩)))
    repeat (go_quiet (first | (go_at_call 39; (with_reducible refine (roadbookref06_link.calls  aM _ A5.out).mono ?_); rintro e w' ⟨rfl, ⟨nd, rfl⟩⟩; (try first | exact ⟨rfl, _, World.drewN_drewN _ _ _⟩ | exact ⟨rfl, _, Eq.trans (World.drewN_drewN _ _ _) (congrArg (World.drewN _) (Nat.add_assoc _ _ _))⟩))); try go_wp2_with (first | (go_at_call 39; (with_reducible refine (roadbookref06_link.calls  aM _ A5.out).mono ?_); rintro e w' ⟨rfl, ⟨nd, rfl⟩⟩; (try first | exact ⟨rfl, _, World.drewN_drewN _ _ _⟩ | exact ⟨rfl, _, Eq.trans (World.drewN_drewN _ _ _) (congrArg (World.drewN _) (Nat.add_assoc _ _ _))⟩))))
    go_ret
    exact ⟨Z7, Z10⟩
   ·rw [if_neg c4] at H
    exact absurd H Z36
  ·rw [if_neg c3] at H
   exact absurd H Z36
 ·rw [if_neg c2] at H
  have cV : ((a0.size : Int) == 16) = false := beq_eq_false_iff_ne.mpr c2
  have dj : ((a0.size : Int) != 16) = true := bne_iff_ne.mpr c2
  obtain rfl := Option.some.inj H
  go_enter Try.func23, Try.ntmps23
  go_wp2
  repeat (go_quiet (fail); try go_wp2)
  go_ret
  exact ⟨Z7, Z10⟩

/-! ### roadbookref03_Bit: function 53 -/
def roadbookref03_Bit.f (a0 : ByteArray) (a1 : Int) : Option (Bool) := if a1 ≥ 0 then (if a1 < (wrap64 (8 * (a0.size : Int))) then (if 0 ≤ (wrap64 (Int.tdiv a1 8)) then (if (wrap64 (Int.tdiv a1 8)) < (a0.size : Int) then (if 0 ≤ (IntKind.u64.wrap (wrap64 (7 - (Int.tmod a1 8)))) then (some ((Int.tmod (shr .i64 (wrap64 (bt a0 (wrap64 (Int.tdiv a1 8)))) (IntKind.u64.wrap (wrap64 (7 - (Int.tmod a1 8))))) 2) == 1)) else (none)) else (none)) else (none)) else (some false)) else (some false)
set_option maxHeartbeats 8000000 in
set_option maxRecDepth 100000 in
theorem roadbookref03_Bit.calls (a0 : ByteArray) (a1 : Int) (r : Bool) (w : World) (h : roadbookref03_Bit.f a0 a1 = some r) :
  Calls Try.prog 53 #[.string a0, .int .i64 a1] w fun e w' => e = .returned (.bool r) ∧ Drawn0 w w' := by
 have H : (if a1 ≥ 0 then (if a1 < (wrap64 (8 * (a0.size : Int))) then (if 0 ≤ (wrap64 (Int.tdiv a1 8)) then (if (wrap64 (Int.tdiv a1 8)) < (a0.size : Int) then (if 0 ≤ (IntKind.u64.wrap (wrap64 (7 - (Int.tmod a1 8)))) then (some ((Int.tmod (shr .i64 (wrap64 (bt a0 (wrap64 (Int.tdiv a1 8)))) (IntKind.u64.wrap (wrap64 (7 - (Int.tmod a1 8))))) 2) == 1)) else (none)) else (none)) else (none)) else (some false)) else (some false)) = some r := h
 clear h
 by_cases c3 : a1 ≥ 0
 ·rw [if_pos c3] at H
  have bY : decide (0 ≤ a1) = true := decide_eq_true c3
  clear c3
  by_cases c4 : a1 < (wrap64 (8 * (a0.size : Int)))
  ·rw [if_pos c4] at H
   have cG : decide (a1 < (wrap64 (8 * (a0.size : Int)))) = true := decide_eq_true c4
   clear c4
   obtain ⟨ji5, hji5⟩ : ∃ j_ : Int, (wrap64 (Int.tdiv a1 8)) = j_ := ⟨_, rfl⟩
   replace H : (if 0 ≤ (ji5) then (if (ji5) < (a0.size : Int) then (if 0 ≤ (IntKind.u64.wrap (wrap64 (7 - (Int.tmod a1 8)))) then (some ((Int.tmod (shr .i64 (wrap64 (bt a0 (ji5))) (IntKind.u64.wrap (wrap64 (7 - (Int.tmod a1 8))))) 2) == 1)) else (none)) else (none)) else (none)) = some r := by first | (rw [hji5] at H; exact H) | (simp only [hji5] at H ⊢; exact H)
   have hji5w : (IntKind.i64.wrap (Int.tdiv a1 8)) = ji5 := (i64_w _).trans hji5
   by_cases c6 : 0 ≤ (ji5)
   ·rw [if_pos c6] at H
    have fc : decide (0 ≤ (ji5)) = true := decide_eq_true c6
    clear c6
    by_cases c7 : (ji5) < (a0.size : Int)
    ·rw [if_pos c7] at H
     have dn : decide ((ji5) < (a0.size : Int)) = true := decide_eq_true c7
     clear c7
     obtain ⟨ji9, hji9⟩ : ∃ j_ : Int, (IntKind.u64.wrap (wrap64 (7 - (Int.tmod a1 8)))) = j_ := ⟨_, rfl⟩
     replace H : (if 0 ≤ (ji9) then (some ((Int.tmod (shr .i64 (wrap64 (bt a0 (ji5))) (ji9)) 2) == 1)) else (none)) = some r := by first | (rw [hji9] at H; exact H) | (simp only [hji9] at H ⊢; exact H)
     by_cases cR : 0 ≤ (ji9)
     ·rw [if_pos cR] at H
      have dl := eq_true cR
      have dV : decide (0 ≤ (ji9)) = true := decide_eq_true cR
      clear cR
      obtain ⟨ji11, hji11⟩ : ∃ j_ : Int, (shr .i64 (wrap64 (bt a0 (ji5))) (ji9)) = j_ := ⟨_, rfl⟩
      replace H : (some ((Int.tmod (ji11) 2) == 1)) = some r := by first | (rw [hji11] at H; exact H) | (simp only [hji11] at H ⊢; exact H)
      have hji11_ : ((wrap64 (bt a0 (ji5))) / 2 ^ min (ji9).toNat 64) = ji11 := hji11
      have hji11z : (ji9) ≤ 64 → ((wrap64 (bt a0 (ji5))) / 2 ^ (ji9).toNat) = ji11 := shr_small hji11
      obtain rfl := Option.some.inj H
      have p8 : 0 ≤ ((ji5) : Int) := of_decide_eq_true Z5
      have q8 : (ji5) < (a0.size : Int) := of_decide_eq_true Z5
      have hx8 := bt_at a0 (ji5)
      replace p8 := eq_true p8
      replace q8 := eq_true q8
      go_enter Try.func53, Try.ntmps53
      go_wp2
      go_ret
      exact ⟨by first | rfl | (simp; done) | (simp only [← hji5, ← hji9, ← hji11] <;> (first | rfl | simp)) | (simp [*]; done), Z10⟩
     ·rw [if_neg cR] at H
      exact absurd H Z36
    ·rw [if_neg c7] at H
     exact absurd H Z36
   ·rw [if_neg c6] at H
    exact absurd H Z36
  ·rw [if_neg c4] at H
   have cG : decide (a1 < (wrap64 (8 * (a0.size : Int)))) = false := decide_eq_false c4
   clear c4
   obtain rfl := Option.some.inj H
   go_enter Try.func53, Try.ntmps53
   go_wp2
   go_ret
   exact ⟨Z7, Z10⟩
 ·rw [if_neg c3] at H
  have bY : decide (0 ≤ a1) = false := decide_eq_false c3
  clear c3
  obtain rfl := Option.some.inj H
  go_enter Try.func53, Try.ntmps53
  go_wp2
  go_ret
  exact ⟨Z7, Z10⟩

/-! ### roadbookref03_Keep: function 48 -/
mutual
def roadbookref03_Keep.l0 : Nat → ByteArray → Int → List Int → Int → Option (ByteArray)
 | 0, _, _, _, _ => none
 | k + 1, x0, x1, x5, x6 => if x6 < (wrap64 (8 * (x0.size : Int))) then (roadbookref03_Keep.j1 k x0 x1 x5 x6 (decide (x6 < x1))) else (roadbookref03_Keep.j1 k x0 x1 x5 x6 false)
def roadbookref03_Keep.j1 : Nat → ByteArray → Int → List Int → Int → Bool → Option (ByteArray)
 | 0, _, _, _, _, _ => none
 | k + 1, x0, x1, x5, x6, jO => if jO = true then ((roadbookref03_Bit.f x0 x6).bind fun aJ => (if aJ = true then (if 0 ≤ (wrap64 (Int.tdiv x6 8)) then (if (wrap64 (Int.tdiv x6 8)) < (x5.length : Int) then (if 0 ≤ (IntKind.u64.wrap (wrap64 (7 - (Int.tmod x6 8)))) then (roadbookref03_Keep.l0 k x0 x1 (x5.set ((wrap64 (Int.tdiv x6 8)) : Int).toNat (((rd x5 (wrap64 (Int.tdiv x6 8))) + (shl .u8 1 (IntKind.u64.wrap (wrap64 (7 - (Int.tmod x6 8)))))) % 256)) (wrap64 (x6 + 1))) else (none)) else (none)) else (none)) else (roadbookref03_Keep.l0 k x0 x1 x5 (wrap64 (x6 + 1))))) else (some (strOfNums x5))
end
def roadbookref03_Keep.f (k : Nat) (a0 : ByteArray) (a1 : Int) : Option (ByteArray) := if 0 ≤ (a0.size : Int) then (if ((a0.size : Int) : Int).toNat ≤ 281474976710656 then (roadbookref03_Keep.l0 k a0 a1 (List.replicate ((a0.size : Int) : Int).toNat 0) 0) else (none)) else (none)
theorem roadbookref03_Keep.mono_l : ∀ k, (∀ y0 y1 y2 y3, LeO (roadbookref03_Keep.l0 k y0 y1 y2 y3) (roadbookref03_Keep.l0 (k + 1) y0 y1 y2 y3)) ∧ (∀ y0 y1 y2 y3 y4, LeO (roadbookref03_Keep.j1 k y0 y1 y2 y3 y4) (roadbookref03_Keep.j1 (k + 1) y0 y1 y2 y3 y4))
 | 0 => ⟨Sq.mz, Sq.mz⟩
 | k + 1 => by
  obtain ⟨ih0, ih1⟩ := roadbookref03_Keep.mono_l k
  refine ⟨?_, ?_⟩
  ·intros
   unfold roadbookref03_Keep.l0
   exact Sq.mo
  ·intros
   unfold roadbookref03_Keep.j1
   exact Sq.mo
theorem roadbookref03_Keep.mono : ∀ a0 a1 k, LeO (roadbookref03_Keep.f k a0 a1) (roadbookref03_Keep.f (k + 1) a0 a1) := by
 intro a0 a1 k
 obtain ⟨ih0, ih1⟩ := roadbookref03_Keep.mono_l k
 unfold roadbookref03_Keep.f
 exact Sq.mo
set_option maxHeartbeats 8000000 in
set_option maxRecDepth 100000 in
theorem roadbookref03_Keep.calls (k : Nat) (a0 : ByteArray) (a1 : Int) (r : ByteArray) (w : World) (h : roadbookref03_Keep.f k a0 a1 = some r) :
  Calls Try.prog 48 #[.string a0, .int .i64 a1] w fun e w' => e = .returned (.string r) ∧ Below w.heap.size w w' := by
 have HB := Aside0.mk (Below.refl w.heap.size w)
 have H : (if 0 ≤ (a0.size : Int) then (if ((a0.size : Int) : Int).toNat ≤ 281474976710656 then (roadbookref03_Keep.l0 k a0 a1 (List.replicate ((a0.size : Int) : Int).toNat 0) 0) else (none)) else (none)) = some r := h
 clear h
 by_cases c3 : 0 ≤ (a0.size : Int)
 ·rw [if_pos c3] at H
  have bY := eq_true c3
  have cE : decide (0 ≤ (a0.size : Int)) = true := decide_eq_true c3
  clear c3
  by_cases c4 : ((a0.size : Int) : Int).toNat ≤ 281474976710656
  ·rw [if_pos c4] at H
   have cG := eq_true c4
   have dG : decide (((a0.size : Int) : Int).toNat ≤ 281474976710656) = true := decide_eq_true c4
   clear c4
   obtain ⟨eS, hy101⟩ : ∃ y_ : List Int, y_ = (List.replicate ((a0.size : Int) : Int).toNat 0) := ⟨_, rfl⟩
   replace H : (roadbookref03_Keep.l0 k a0 a1 eS 0) = some r := by first | (rw [hy101]; with_reducible exact H) | (have H2_ := (Option.bind_some _ _).symm.trans H; rw [hy101]; with_reducible exact H2_) | (have H2_ := (Option.bind_some _ _).symm.trans H; with_reducible exact H2_) | with_reducible exact H | (rw [hy101]; exact H) | exact H
   have Ny101 := Aside0.mk hy101
   clear hy101
   have H' := Aside0.mk H
   clear H
   go_enter Try.func48, Try.ntmps48
   go_wp2_with (first | ((with_reducible refine gate_dst (N := 9) rfl ?_); refine Kd.R_make (Kd.int .u8) _ 5 rfl (N := 9) rfl 38 _ _ rfl (a0.size : Int) rfl rfl Try.underlying38 (.int .u8 0) 1 info5 rfl Z18 Z25 0 (ok := fun _ => True) (okp := fun _ => True) rfl (fun _ hk => hk) trivial (of_decide_eq_true Z5) (Nat.le_trans (Nat.mul_le_mul_right _ (of_decide_eq_true Z5 : (a0.size : Int).toNat ≤ 281474976710656)) Z25) (Below.refl _ _) (Nat.le_refl _) ?_; intro fd w5 ho6 hb hg_ hnew_; clear hg_ hnew_; (first | rw [← Ny101.out] at ho6 | (simp only [Int.reduceToNat] at ho6; rw [← Ny101.out] at ho6)); have ee := Aside0.mk (Kd.R_lower ho6 (below_size Z0)); replace HB := Aside0.mk (below_step Z0 hb); clear hb ho6))
   go_loopg [6] k (fun kq v6 w' => ∃ (aa : List Int) (cH : Int), v6 = .int .i64 cH ∧ Aside0 (roadbookref03_Keep.l0 kq a0 a1 aa cH = some r) ∧ Aside0 (kq ≤ k) ∧ Aside0 (Kd.R (Kd.int .u8) 5 w' w.heap.size (fun _ => True) fd aa) ∧ Aside0 (Below w.heap.size w w'))
   case atStart => exact ⟨(eS), (0), Z7, H', ⟨Nat.le_refl _⟩, ⟨by (with_reducible repeat (first | apply Kd.R_alloc | apply Kd.R_drewN | apply Kd.R_drew)); exact ee.out⟩, ⟨Z0⟩⟩
   case round =>
    clear H'
    try clear p2
    try clear c3
    try clear bY
    try clear cE
    try clear c4
    try clear cG
    try clear dG
    obtain ⟨aa, cH, rfl, HA, HK1, HO_5, HB⟩ := hrel
    cases gk with
    | zero => exact absurd HA.out (by simp [roadbookref03_Keep.l0])
    | succ k1 =>
     have H := HA.out
     clear HA
     simp only [roadbookref03_Keep.l0] at H
     have iP := Aside0.mk H
     clear H
     go_upto_region 3 with (fail)
     go_cut [19] (fun fq wc => ∃ (kq : Nat) (eJ : Bool), fq = .bool eJ ∧ Aside0 (roadbookref03_Keep.j1 kq a0 a1 aa cH eJ = some r) ∧ Aside0 (kq ≤ k1) ∧ Aside0 (Kd.R (Kd.int .u8) 5 wc w.heap.size (fun _ => True) fd aa) ∧ Aside0 (Below w.heap.size w wc))
     case first =>
      have H := iP.out
      clear iP
      by_cases c8 : cH < (wrap64 (8 * (a0.size : Int)))
      ·rw [if_pos c8] at H
       have dS : decide (cH < (wrap64 (8 * (a0.size : Int)))) = true := decide_eq_true c8
       clear c8
       (first | rw [dS] | (simp only [i64_w, i32_w]; rw [dS]) | skip)
       have H' := Aside0.mk H
       clear H
       go_wp2
       go_meet
       case rel => exact ⟨_, (decide (cH < a1)), Z7, H', ⟨by have := HK1.out; first | omega | exact Nat.le_refl _⟩, ⟨Z28⟩, ⟨Z0⟩⟩
      ·rw [if_neg c8] at H
       have dS : decide (cH < (wrap64 (8 * (a0.size : Int)))) = false := decide_eq_false c8
       clear c8
       (first | rw [dS] | (simp only [i64_w, i32_w]; rw [dS]) | skip)
       have H' := Aside0.mk H
       clear H
       go_wp2
       go_meet
       case rel => exact ⟨_, (false), Z7, H', ⟨by have := HK1.out; first | omega | exact Nat.le_refl _⟩, ⟨Z28⟩, ⟨Z0⟩⟩
     case rest =>
      clear iP
      try clear p2
      try clear c3
      try clear bY
      try clear cE
      try clear c4
      try clear cG
      try clear dG
      try clear p2
      obtain ⟨kq, eJ, rfl, HA, iE, HO_5, HB⟩ := hcut
      cases kq with
      | zero => exact absurd HA.out (by simp [roadbookref03_Keep.j1])
      | succ kj6 =>
       have H := HA.out
       clear HA
       simp only [roadbookref03_Keep.j1] at H
       by_cases c9 : eJ = true
       ·subst c9
        replace H := Sq.itT H
        replace H := Option.bind_eq_some_iff.mp H
        obtain ⟨aJ, hD, H⟩ := H
        replace H : (if aJ = true then (if 0 ≤ (wrap64 (Int.tdiv cH 8)) then (if (wrap64 (Int.tdiv cH 8)) < (aa.length : Int) then (if 0 ≤ (IntKind.u64.wrap (wrap64 (7 - (Int.tmod cH 8)))) then (roadbookref03_Keep.l0 kj6 a0 a1 (aa.set ((wrap64 (Int.tdiv cH 8)) : Int).toNat (((rd aa (wrap64 (Int.tdiv cH 8))) + (shl .u8 1 (IntKind.u64.wrap (wrap64 (7 - (Int.tmod cH 8)))))) % 256)) (wrap64 (cH + 1))) else (none)) else (none)) else (none)) else (roadbookref03_Keep.l0 kj6 a0 a1 aa (wrap64 (cH + 1)))) = some r := H
        have fz := Aside0.mk hD
        clear hD
        by_cases eI : aJ = true
        ·subst eI
         replace H := Sq.itT H
         obtain ⟨ji12, hji12⟩ : ∃ j_ : Int, (wrap64 (Int.tdiv cH 8)) = j_ := ⟨_, rfl⟩
         replace H : (if 0 ≤ (ji12) then (if (ji12) < (aa.length : Int) then (if 0 ≤ (IntKind.u64.wrap (wrap64 (7 - (Int.tmod cH 8)))) then (roadbookref03_Keep.l0 kj6 a0 a1 (aa.set ((ji12) : Int).toNat (((rd aa (ji12)) + (shl .u8 1 (IntKind.u64.wrap (wrap64 (7 - (Int.tmod cH 8)))))) % 256)) (wrap64 (cH + 1))) else (none)) else (none)) else (none)) = some r := by first | (rw [hji12] at H; exact H) | (simp only [hji12] at H ⊢; exact H)
         (try rw [hji12] at fz)
         have hji12w : (IntKind.i64.wrap (Int.tdiv cH 8)) = ji12 := (i64_w _).trans hji12
         by_cases eD : 0 ≤ (ji12)
         ·rw [if_pos eD] at H
          have hu : decide (0 ≤ (ji12)) = true := decide_eq_true eD
          clear eD
          by_cases dR : (ji12) < (aa.length : Int)
          ·rw [if_pos dR] at H
           have dW : decide ((ji12) < (aa.length : Int)) = true := decide_eq_true dR
           clear dR
           obtain ⟨ji15, hji15⟩ : ∃ j_ : Int, (IntKind.u64.wrap (wrap64 (7 - (Int.tmod cH 8)))) = j_ := ⟨_, rfl⟩
           replace H : (if 0 ≤ (ji15) then (roadbookref03_Keep.l0 kj6 a0 a1 (aa.set ((ji12) : Int).toNat (((rd aa (ji12)) + (shl .u8 1 (ji15))) % 256)) (wrap64 (cH + 1))) else (none)) = some r := by first | (rw [hji15] at H; exact H) | (simp only [hji15] at H ⊢; exact H)
           (try rw [hji15] at fz)
           by_cases dX : 0 ≤ (ji15)
           ·rw [if_pos dX] at H
            have eK := eq_true dX
            have eL : decide (0 ≤ (ji15)) = true := decide_eq_true dX
            clear dX
            obtain ⟨ji17, hji17⟩ : ∃ j_ : Int, (shl .u8 1 (ji15)) = j_ := ⟨_, rfl⟩
            replace H : (roadbookref03_Keep.l0 kj6 a0 a1 (aa.set ((ji12) : Int).toNat (((rd aa (ji12)) + (ji17)) % 256)) (wrap64 (cH + 1))) = some r := by first | (rw [hji17] at H; exact H) | (simp only [hji17] at H ⊢; exact H)
            (try rw [hji17] at fz)
            have hji17_ : (IntKind.u8.wrap (1 * 2 ^ min (ji15).toNat 8)) = ji17 := hji17
            have hji17z : (ji15) ≤ 8 → (IntKind.u8.wrap (1 * 2 ^ (ji15).toNat)) = ji17 := shl_small hji17
            have hji17u : (IntKind.u8.wrap (2 ^ min (ji15).toNat 8)) = ji17 := by have h_ := hji17_; rw [Int.one_mul] at h_; exact h_
            have hji17v : (ji15) ≤ 8 → (IntKind.u8.wrap (2 ^ (ji15).toNat)) = ji17 := fun hle_ => by have h_ := hji17z hle_; rw [Int.one_mul] at h_; exact h_
            obtain ⟨fY, hy106⟩ : ∃ y_ : List Int, y_ = (aa.set ((ji12) : Int).toNat (((rd aa (ji12)) + (ji17)) % 256)) := ⟨_, rfl⟩
            replace H : (roadbookref03_Keep.l0 kj6 a0 a1 fY (wrap64 (cH + 1))) = some r := by first | (rw [hy106]; with_reducible exact H) | (have H2_ := (Option.bind_some _ _).symm.trans H; rw [hy106]; with_reducible exact H2_) | (have H2_ := (Option.bind_some _ _).symm.trans H; with_reducible exact H2_) | with_reducible exact H | (rw [hy106]; exact H) | exact H
            have Ny106 := Aside0.mk hy106
            clear hy106
            have H' := Aside0.mk H
            clear H
            go_wp2_with (first | ((with_reducible refine gate_callee (f := 53) rfl ?_); refine goesL_ (some 24) rfl rfl Try.func53 Z16 rfl #[.string a0, .int .i64 cH] rfl Z4 ?_; (with_reducible refine (roadbookref03_Bit.calls a0 cH true _ fz.out).mono ?_); rintro e w' ⟨rfl, ⟨nd, rfl⟩⟩; refine ⟨_, rfl, ?_⟩; (try (rw [drewN_self wc]; generalize hq_ : World.drewN wc _ = wc; have cQ : Aside0 (Kd.R (Kd.int .u8) 5 wc w.heap.size (fun _ => True) fd aa) := ⟨by rw [← hq_]; exact Z28⟩; have de : Aside0 (Below w.heap.size w wc) := ⟨by rw [← hq_]; exact Z0⟩; clear HO_5 HB hq_; have HO_5 := cQ; have HB := de; clear cQ de)); obtain ⟨Ao19, iQ, eo19⟩ := Kd.R_slice HO_5.out; subst eo19; have p105 : 0 ≤ ((ji12) : Int) := of_decide_eq_true Z5; have q105 : (ji12) < (aa.length : Int) := of_decide_eq_true Z5; obtain ⟨ad105, e105, hx105_0⟩ := Kd.at_int (Kd.R_reads' HO_5.out).2.2 (ji12) p105 q105; cases e105; replace p105 := eq_true p105; replace q105 := eq_true q105; have p18 : 0 ≤ ((ji12) : Int) := of_decide_eq_true Z5; have q18 : ((ji12) : Int) < ((aa.length : Int) : Int) := of_decide_eq_true Z5; obtain ⟨go18, co18, eo18, hF, gl18, cl18, HG18⟩ := Kd.R_form HO_5.out Z25; (first | cases eo18 | (injection eo18 with ea_ en_ ec_; (first | subst ea_ | (injection ea_ with ea_; subst ea_)); subst ec_; clear en_)); have GB18 := Aside0.mk hF; have GG18 := Aside0.mk HG18; clear hF gl18 HG18; (first | simp only [add_plain] at hx105_0 | skip); obtain ⟨hx18_0, hf18_0⟩ := Kd.R_celln 0 HO_5.out ((ji12) : Int) p18 q18; replace p18 := eq_true p18; replace q18 := eq_true q18; obtain ⟨hy20_, hz20_⟩ := Kd.R_celln 0 HO_5.out ((ji12) : Int) (of_decide_eq_true Z5) (of_decide_eq_true Z5); have HP20 := Kd.R_putg HO_5.out ((ji12) : Int) (((rd aa (ji12)) + (ji17)) % 256)) | ((with_reducible refine gate_store (t := 5) (p := 39) rfl ?_); refine store_event (t := 5) (p := 39) (v := ?vo_w21) (w1 := (wc.setCell ⟨go18, ((ji12) : Int).toNat, none⟩ (.int .u8 (((rd aa (ji12)) + (ji17)) % 256)))) ?hg ?ho ?hn ?hr ?_; (case ho => rfl); (case hg => rfl); (case hn => rfl); (case hr => first | (go_simp; done) | (go_simp; rfl)); intro hG hw; have hg : wc.grownBy hG (some go18) := (by rw [hw]; exact HP20.2); have hp_ : Kd.R (Kd.int .u8) 5 hG w.heap.size (fun _ => True) (.slice (some ⟨go18, 0, none⟩) aa.length iQ) fY := (by rw [hw, Ny106.out]; exact HP20.1); clear HP20; replace HO_5 := Aside0.mk (hp_); replace HB := Aside0.mk ((by rw [hw]; exact below_set (HB.out) GB18.out : Below w.heap.size w hG)); clear hg hw hp_))
            go_roundg kj6
            case measure => have := HK1.out; have := iE.out; omega
            case rel => exact ⟨(fY), (wrap64 (cH + 1)), Z7, H', ⟨by have := HK1.out; have := iE.out; omega⟩, ⟨Z28⟩, ⟨Z0⟩⟩
           ·rw [if_neg dX] at H
            exact absurd H Z36
          ·rw [if_neg dR] at H
           exact absurd H Z36
         ·rw [if_neg eD] at H
          exact absurd H Z36
        ·replace eI := Bool.eq_false_iff.mpr eI
         subst eI
         replace H := Sq.itF H
         have H' := Aside0.mk H
         clear H
         go_wp2_with (first | ((with_reducible refine gate_callee (f := 53) rfl ?_); refine goesL_ (some 24) rfl rfl Try.func53 Z16 rfl #[.string a0, .int .i64 cH] rfl Z4 ?_; (with_reducible refine (roadbookref03_Bit.calls a0 cH false _ fz.out).mono ?_); rintro e w' ⟨rfl, ⟨nd, rfl⟩⟩; refine ⟨_, rfl, ?_⟩))
         go_roundg kj6
         case measure => have := HK1.out; have := iE.out; omega
         case rel => exact ⟨(aa), (wrap64 (cH + 1)), Z7, H', ⟨by have := HK1.out; have := iE.out; omega⟩, ⟨Z28⟩, ⟨Z0⟩⟩
       ·replace c9 := Bool.eq_false_iff.mpr c9
        subst c9
        replace H := Sq.itF H
        obtain rfl := Option.some.inj H
        have hcv22 := own_string (P := Try.prog) Try.underlying38 Try.underlying5 Try.underlying9 (Kd.own_of_R HO_5.out)
        go_wp2
        go_ret
        exact ⟨Z2, Z0⟩
  ·rw [if_neg c4] at H
   exact absurd H Z36
 ·rw [if_neg c3] at H
  exact absurd H Z36

/-! ### roadbookref03_Clean: function 40 -/
def roadbookref03_Clean.f (k : Nat) (a0 : ByteArray) (a1 : Int) : Option (Bool) := (roadbookref03_Keep.f k a0 a1).bind fun aM => (some (aM.toList == a0.toList))
theorem roadbookref03_Clean.mono : ∀ a0 a1 k, LeO (roadbookref03_Clean.f k a0 a1) (roadbookref03_Clean.f (k + 1) a0 a1) := by
 intro a0 a1 k
 unfold roadbookref03_Clean.f
 have m0 := roadbookref03_Keep.mono
 exact Sq.mo
set_option maxHeartbeats 8000000 in
set_option maxRecDepth 100000 in
theorem roadbookref03_Clean.calls (k : Nat) (a0 : ByteArray) (a1 : Int) (r : Bool) (w : World) (h : roadbookref03_Clean.f k a0 a1 = some r) :
  Calls Try.prog 40 #[.string a0, .int .i64 a1] w fun e w' => e = .returned (.bool r) ∧ Below w.heap.size w w' := by
 have HB := Aside0.mk (Below.refl w.heap.size w)
 have H : ((roadbookref03_Keep.f k a0 a1).bind fun aM => (some (aM.toList == a0.toList))) = some r := h
 clear h
 replace H := Option.bind_eq_some_iff.mp H
 obtain ⟨aM, eT, H⟩ := H
 replace H : (some (aM.toList == a0.toList)) = some r := H
 have A3 := Aside0.mk eT
 clear eT
 obtain rfl := Option.some.inj H
 go_enter Try.func40, Try.ntmps40
 go_wp2_with (first | ((with_reducible refine gate_callee (f := 48) rfl ?_); refine goesL_ (some 7) rfl rfl Try.func48 Z16 rfl #[.string a0, .int .i64 a1] rfl Z4 ?_; (with_reducible refine (roadbookref03_Keep.calls k a0 a1 aM _ A3.out).mono ?_); rintro e w4 ⟨rfl, hb⟩; refine ⟨_, rfl, ?_⟩; replace HB := Aside0.mk (below_step Z0 hb); clear hb))
 go_ret
 exact ⟨Z2, Z0⟩

/-! ### roadbookref04_Right: function 24 -/
def roadbookref04_Right.f (k : Nat) (a0 : ByteArray) (a1 : Int) : Option (Bool) := if (a0.size : Int) = 4 then (if a1 ≥ 0 then (if a1 ≤ (wrap64 (8 * (a0.size : Int))) then ((roadbookref03_Clean.f k a0 a1).bind fun aM => (some aM)) else (some false)) else (some false)) else (if (a0.size : Int) = 16 then (if a1 ≥ 0 then (if a1 ≤ (wrap64 (8 * (a0.size : Int))) then ((roadbookref03_Clean.f k a0 a1).bind fun aI => (some aI)) else (some false)) else (some false)) else (some false))
theorem roadbookref04_Right.mono : ∀ a0 a1 k, LeO (roadbookref04_Right.f k a0 a1) (roadbookref04_Right.f (k + 1) a0 a1) := by
 intro a0 a1 k
 unfold roadbookref04_Right.f
 have m0 := roadbookref03_Clean.mono
 exact Sq.mo
set_option maxHeartbeats 8000000 in
set_option maxRecDepth 100000 in
theorem roadbookref04_Right.calls (k : Nat) (a0 : ByteArray) (a1 : Int) (r : Bool) (w : World) (h : roadbookref04_Right.f k a0 a1 = some r) :
  Calls Try.prog 24 #[.string a0, .int .i64 a1] w fun e w' => e = .returned (.bool r) ∧ Below w.heap.size w w' := by
 have HB := Aside0.mk (Below.refl w.heap.size w)
 have H : (if (a0.size : Int) = 4 then (if a1 ≥ 0 then (if a1 ≤ (wrap64 (8 * (a0.size : Int))) then ((roadbookref03_Clean.f k a0 a1).bind fun aM => (some aM)) else (some false)) else (some false)) else (if (a0.size : Int) = 16 then (if a1 ≥ 0 then (if a1 ≤ (wrap64 (8 * (a0.size : Int))) then ((roadbookref03_Clean.f k a0 a1).bind fun aI => (some aI)) else (some false)) else (some false)) else (some false))) = some r := h
 clear h
 by_cases c3 : (a0.size : Int) = 4
 ·rw [if_pos c3] at H
  have bY : ((a0.size : Int) == 4) = true := beq_iff_eq.mpr c3
  have cE : ((a0.size : Int) != 4) = false := bne_eq_false_iff_eq.mpr c3
  clear c3
  by_cases c4 : a1 ≥ 0
  ·rw [if_pos c4] at H
   have cG : decide (0 ≤ a1) = true := decide_eq_true c4
   clear c4
   by_cases c5 : a1 ≤ (wrap64 (8 * (a0.size : Int)))
   ·rw [if_pos c5] at H
    have cY : decide (a1 ≤ (wrap64 (8 * (a0.size : Int)))) = true := decide_eq_true c5
    clear c5
    replace H := Option.bind_eq_some_iff.mp H
    obtain ⟨aM, io, H⟩ := H
    replace H : (some aM) = some r := H
    have A6 := Aside0.mk io
    clear io
    obtain rfl := Option.some.inj H
    go_enter Try.func24, Try.ntmps24
    go_wp2_with (first | (go_at_call 40; (with_reducible refine (roadbookref03_Clean.calls k a0 a1 aM _ A6.out).mono ?_); rintro e w7 ⟨rfl, hb⟩; replace HB := Aside0.mk (below_step Z0 hb); clear hb))
    go_ret
    exact ⟨Z2, Z0⟩
   ·rw [if_neg c5] at H
    have cY : decide (a1 ≤ (wrap64 (8 * (a0.size : Int)))) = false := decide_eq_false c5
    clear c5
    obtain rfl := Option.some.inj H
    go_enter Try.func24, Try.ntmps24
    go_wp2
    go_ret
    exact ⟨Z2, Z0⟩
  ·rw [if_neg c4] at H
   have cG : decide (0 ≤ a1) = false := decide_eq_false c4
   clear c4
   obtain rfl := Option.some.inj H
   go_enter Try.func24, Try.ntmps24
   go_wp2
   go_ret
   exact ⟨Z2, Z0⟩
 ·rw [if_neg c3] at H
  have bY : ((a0.size : Int) == 4) = false := beq_eq_false_iff_ne.mpr c3
  have cE : ((a0.size : Int) != 4) = true := bne_iff_ne.mpr c3
  by_cases c8 : (a0.size : Int) = 16
  ·rw [if_pos c8] at H
   have dS : ((a0.size : Int) == 16) = true := beq_iff_eq.mpr c8
   have ft : ((a0.size : Int) != 16) = false := bne_eq_false_iff_eq.mpr c8
   clear c8
   by_cases c9 : a1 ≥ 0
   ·rw [if_pos c9] at H
    have ha : decide (0 ≤ a1) = true := decide_eq_true c9
    clear c9
    by_cases cR : a1 ≤ (wrap64 (8 * (a0.size : Int)))
    ·rw [if_pos cR] at H
     have dl : decide (a1 ≤ (wrap64 (8 * (a0.size : Int)))) = true := decide_eq_true cR
     clear cR
     replace H := Option.bind_eq_some_iff.mp H
     obtain ⟨aI, fo, H⟩ := H
     replace H : (some aI) = some r := H
     have ju := Aside0.mk fo
     clear fo
     obtain rfl := Option.some.inj H
     go_enter Try.func24, Try.ntmps24
     go_wp2_with (first | (go_at_call 40; (with_reducible refine (roadbookref03_Clean.calls k a0 a1 aI _ ju.out).mono ?_); rintro e hA ⟨rfl, hb⟩; replace HB := Aside0.mk (below_step Z0 hb); clear hb))
     go_ret
     exact ⟨Z2, Z0⟩
    ·rw [if_neg cR] at H
     have dl : decide (a1 ≤ (wrap64 (8 * (a0.size : Int)))) = false := decide_eq_false cR
     clear cR
     obtain rfl := Option.some.inj H
     go_enter Try.func24, Try.ntmps24
     go_wp2
     go_ret
     exact ⟨Z2, Z0⟩
   ·rw [if_neg c9] at H
    have ha : decide (0 ≤ a1) = false := decide_eq_false c9
    clear c9
    obtain rfl := Option.some.inj H
    go_enter Try.func24, Try.ntmps24
    go_wp2
    go_ret
    exact ⟨Z2, Z0⟩
  ·rw [if_neg c8] at H
   have dS : ((a0.size : Int) == 16) = false := beq_eq_false_iff_ne.mpr c8
   have ft : ((a0.size : Int) != 16) = true := bne_iff_ne.mpr c8
   obtain rfl := Option.some.inj H
   go_enter Try.func24, Try.ntmps24
   go_wp2
   go_ret
   exact ⟨Z2, Z0⟩

/-! ### roadbookref02_Fits: function 52 -/
mutual
def roadbookref02_Fits.j0 : Nat → Int → Int → Bool → Option (Bool)
 | 0, _, _, _ => none
 | k + 1, x0, x1, x16 => if x16 = true then (some false) else (roadbookref02_Fits.l0 k x0 x1 1 0)
def roadbookref02_Fits.l0 : Nat → Int → Int → Int → Int → Option (Bool)
 | 0, _, _, _, _ => none
 | k + 1, x0, x1, x5, x6 => if x6 < x1 then (roadbookref02_Fits.l0 k x0 x1 (wrap64 (x5 * 256)) (wrap64 (x6 + 1))) else (some (decide (x0 < x5)))
end
def roadbookref02_Fits.f (k : Nat) (a0 : Int) (a1 : Int) : Option (Bool) := if a1 < 1 then (roadbookref02_Fits.j0 k a0 a1 true) else (if a1 > 7 then (roadbookref02_Fits.j0 k a0 a1 true) else (roadbookref02_Fits.j0 k a0 a1 (decide (a0 < 0))))
theorem roadbookref02_Fits.mono_l : ∀ k, (∀ y0 y1 y2, LeO (roadbookref02_Fits.j0 k y0 y1 y2) (roadbookref02_Fits.j0 (k + 1) y0 y1 y2)) ∧ (∀ y0 y1 y2 y3, LeO (roadbookref02_Fits.l0 k y0 y1 y2 y3) (roadbookref02_Fits.l0 (k + 1) y0 y1 y2 y3))
 | 0 => ⟨Sq.mz, Sq.mz⟩
 | k + 1 => by
  obtain ⟨ih0, ih1⟩ := roadbookref02_Fits.mono_l k
  refine ⟨?_, ?_⟩
  ·intros
   unfold roadbookref02_Fits.j0
   exact Sq.mo
  ·intros
   unfold roadbookref02_Fits.l0
   exact Sq.mo
theorem roadbookref02_Fits.mono : ∀ a0 a1 k, LeO (roadbookref02_Fits.f k a0 a1) (roadbookref02_Fits.f (k + 1) a0 a1) := by
 intro a0 a1 k
 obtain ⟨ih0, ih1⟩ := roadbookref02_Fits.mono_l k
 unfold roadbookref02_Fits.f
 exact Sq.mo
set_option maxHeartbeats 8000000 in
set_option maxRecDepth 100000 in
theorem roadbookref02_Fits.calls (k : Nat) (a0 : Int) (a1 : Int) (r : Bool) (w : World) (h : roadbookref02_Fits.f k a0 a1 = some r) :
  Calls Try.prog 52 #[.int .i64 a0, .int .i64 a1] w fun e w' => e = .returned (.bool r) ∧ Drawn0 w w' := by
 have H : (if a1 < 1 then (roadbookref02_Fits.j0 k a0 a1 true) else (if a1 > 7 then (roadbookref02_Fits.j0 k a0 a1 true) else (roadbookref02_Fits.j0 k a0 a1 (decide (a0 < 0))))) = some r := h
 clear h
 have dg := Aside0.mk H
 clear H
 go_enter Try.func52, Try.ntmps52
 go_upto_region 1 with (fail)
 go_cut [16] (fun fJ wc => ∃ (kq : Nat) (x16_2 : Bool), fJ = .bool x16_2 ∧ Aside0 (roadbookref02_Fits.j0 kq a0 a1 x16_2 = some r) ∧ Aside0 (kq ≤ k) ∧ Drawn0 w wc)
 case first =>
  have H := dg.out
  clear dg
  by_cases c4 : a1 < 1
  ·rw [if_pos c4] at H
   have cG : decide (a1 < 1) = true := decide_eq_true c4
   clear c4
   (first | rw [cG] | (simp only [i64_w, i32_w]; rw [cG]) | skip)
   have H' := Aside0.mk H
   clear H
   go_wp2
   go_meet
   case rel => exact ⟨_, (true), Z7, H', ⟨Z34⟩, Z10⟩
  ·rw [if_neg c4] at H
   have cG : decide (a1 < 1) = false := decide_eq_false c4
   clear c4
   (first | rw [cG] | (simp only [i64_w, i32_w]; rw [cG]) | skip)
   by_cases c5 : a1 > 7
   ·rw [if_pos c5] at H
    have cY : decide (7 < a1) = true := decide_eq_true c5
    clear c5
    have H' := Aside0.mk H
    clear H
    go_wp2
    go_meet
    case rel => exact ⟨_, (true), Z7, H', ⟨Z34⟩, Z10⟩
   ·rw [if_neg c5] at H
    have cY : decide (7 < a1) = false := decide_eq_false c5
    clear c5
    have H' := Aside0.mk H
    clear H
    go_wp2
    go_meet
    case rel => exact ⟨_, (decide (a0 < 0)), Z7, H', ⟨Z34⟩, Z10⟩
 case rest =>
  clear dg
  try clear c5
  obtain ⟨kq, x16_2, rfl, HA, HJ2, ⟨mc2, rfl⟩⟩ := hcut
  cases kq with
  | zero => exact absurd HA.out (by simp [roadbookref02_Fits.j0])
  | succ kj2 =>
   have H := HA.out
   clear HA
   simp only [roadbookref02_Fits.j0] at H
   by_cases c6 : x16_2 = true
   ·subst c6
    replace H := Sq.itT H
    obtain rfl := Option.some.inj H
    go_wp2
    go_ret
    exact ⟨Z7, Z10⟩
   ·replace c6 := Bool.eq_false_iff.mpr c6
    subst c6
    replace H := Sq.itF H
    have H' := Aside0.mk H
    clear H
    go_wp2
    go_loopg [5, 6] kj2 (fun kq v5 v6 w' => ∃ (x5_2 : Int) (x6_2 : Int), v5 = .int .i64 x5_2 ∧ v6 = .int .i64 x6_2 ∧ Aside0 (roadbookref02_Fits.l0 kq a0 a1 x5_2 x6_2 = some r) ∧ Aside0 (kq ≤ kj2) ∧ Drawn0 w w')
    case atStart => exact ⟨(1), (0), Z7, Z7, H', ⟨Nat.le_refl _⟩, Z10⟩
    case round =>
     clear H'
     try clear c2
     try clear p2
     try clear c4
     try clear cG
     try clear c5
     try clear cY
     try clear c6
     obtain ⟨x5_2, x6_2, rfl, rfl, HA, HK2, ⟨m2, rfl⟩⟩ := hrel
     cases gk with
     | zero => exact absurd HA.out (by simp [roadbookref02_Fits.l0])
     | succ k2 =>
      have H := HA.out
      clear HA
      simp only [roadbookref02_Fits.l0] at H
      by_cases c7 : x6_2 < a1
      ·rw [if_pos c7] at H
       have dn : decide (x6_2 < a1) = true := decide_eq_true c7
       clear c7
       have H' := Aside0.mk H
       clear H
       go_wp2
       go_roundg k2
       case measure => have := HJ2.out; have := HK2.out; omega
       case rel => exact ⟨(wrap64 (x5_2 * 256)), (wrap64 (x6_2 + 1)), Z7, Z7, H', ⟨by have := HJ2.out; have := HK2.out; omega⟩, Z10⟩
      ·rw [if_neg c7] at H
       have dn : decide (x6_2 < a1) = false := decide_eq_false c7
       clear c7
       obtain rfl := Option.some.inj H
       go_wp2
       go_ret
       exact ⟨Z7, Z10⟩

/-! ### roadbookref02_Put: function 47 -/
def roadbookref02_Put.l0 : Nat → Int → Int → ByteArray → Int → Option (ByteArray × Bool)
 | 0, _, _, _, _ => none
 | k + 1, x0, x1, x6, x7 => if x7 < x1 then ((some (([(Int.tmod x0 256) % 256] : List Int) : List Int)).bind fun y102 => (if (strOfNums y102).size + x6.size ≤ 9223372036854775807 then (roadbookref02_Put.l0 k (wrap64 (Int.tdiv x0 256)) x1 ((strOfNums y102) ++ x6) (wrap64 (x7 + 1))) else (none))) else (some (x6, true))
def roadbookref02_Put.f (k : Nat) (a0 : Int) (a1 : Int) : Option (ByteArray × Bool) := (roadbookref02_Fits.f k a0 a1).bind fun aM => (if aM = true then (roadbookref02_Put.l0 k a0 a1 (⟨#[]⟩ : ByteArray) 0) else (some ((⟨#[]⟩ : ByteArray), false)))
theorem roadbookref02_Put.mono_l : ∀ k, (∀ y0 y1 y2 y3, LeO (roadbookref02_Put.l0 k y0 y1 y2 y3) (roadbookref02_Put.l0 (k + 1) y0 y1 y2 y3))
 | 0 => Sq.mz
 | k + 1 => by
  have ih0 := roadbookref02_Put.mono_l k
  ·intros
   unfold roadbookref02_Put.l0
   have m0 := roadbookref02_Fits.mono
   exact Sq.mo
theorem roadbookref02_Put.mono : ∀ a0 a1 k, LeO (roadbookref02_Put.f k a0 a1) (roadbookref02_Put.f (k + 1) a0 a1) := by
 intro a0 a1 k
 have ih0 := roadbookref02_Put.mono_l k
 unfold roadbookref02_Put.f
 have m0 := roadbookref02_Fits.mono
 exact Sq.mo
set_option maxHeartbeats 8000000 in
set_option maxRecDepth 100000 in
theorem roadbookref02_Put.calls (k : Nat) (a0 : Int) (a1 : Int) (r1 : ByteArray) (r2 : Bool) (w : World) (h : roadbookref02_Put.f k a0 a1 = some (r1, r2)) :
  Calls Try.prog 47 #[.int .i64 a0, .int .i64 a1] w fun e w' => e = .returned (.tuple #[.string r1, .bool r2]) ∧ Below w.heap.size w w' := by
 have HB := Aside0.mk (Below.refl w.heap.size w)
 have H : ((roadbookref02_Fits.f k a0 a1).bind fun aM => (if aM = true then (roadbookref02_Put.l0 k a0 a1 (⟨#[]⟩ : ByteArray) 0) else (some ((⟨#[]⟩ : ByteArray), false)))) = some (r1, r2) := h
 clear h
 replace H := Option.bind_eq_some_iff.mp H
 obtain ⟨aM, eT, H⟩ := H
 replace H : (if aM = true then (roadbookref02_Put.l0 k a0 a1 (⟨#[]⟩ : ByteArray) 0) else (some ((⟨#[]⟩ : ByteArray), false))) = some (r1, r2) := H
 have A3 := Aside0.mk eT
 clear eT
 by_cases c4 : aM = true
 ·subst c4
  have H1 : (roadbookref02_Put.l0 k a0 a1 (⟨#[]⟩ : ByteArray) 0) = some (r1, r2) := by rw [if_pos rfl] at H; exact H
  clear H
  have H := H1
  clear H1
  have H' := Aside0.mk H
  clear H
  go_enter Try.func47, Try.ntmps47
  go_wp2_with (first | ((with_reducible refine gate_callee (f := 52) rfl ?_); refine goesL_ (some 10) rfl rfl Try.func52 Z16 rfl #[.int .i64 a0, .int .i64 a1] rfl Z4 ?_; (with_reducible refine (roadbookref02_Fits.calls k a0 a1 true _ A3.out).mono ?_); rintro e w' ⟨rfl, ⟨nd, rfl⟩⟩; refine ⟨_, rfl, ?_⟩))
  go_loopg [0, 6, 7] k (fun kq v0 v6 v7 w' => ∃ (x0_1 : Int) (cH : ByteArray) (x7_1 : Int), v0 = .int .i64 x0_1 ∧ v6 = .string cH ∧ v7 = .int .i64 x7_1 ∧ Aside0 (roadbookref02_Put.l0 kq x0_1 a1 cH x7_1 = some (r1, r2)) ∧ Aside0 (kq ≤ k) ∧ Aside0 (Below w.heap.size w w'))
  case atStart => exact ⟨(a0), ((⟨#[]⟩ : ByteArray)), (0), Z7, Z7, Z7, H', ⟨Nat.le_refl _⟩, ⟨Z0⟩⟩
  case round =>
   clear H'
   try clear p2
   try clear c4
   obtain ⟨x0_1, cH, x7_1, rfl, rfl, rfl, HA, HK1, HB⟩ := hrel
   cases gk with
   | zero => exact absurd HA.out (by simp [roadbookref02_Put.l0])
   | succ k1 =>
    have H := HA.out
    clear HA
    simp only [roadbookref02_Put.l0] at H
    by_cases c5 : x7_1 < a1
    ·rw [if_pos c5] at H
     have cY : decide (x7_1 < a1) = true := decide_eq_true c5
     clear c5
     obtain ⟨y102, hy102⟩ : ∃ y_ : List Int, y_ = (([(Int.tmod x0_1 256) % 256] : List Int)) := ⟨_, rfl⟩
     replace H : (if (strOfNums y102).size + cH.size ≤ 9223372036854775807 then (roadbookref02_Put.l0 k1 (wrap64 (Int.tdiv x0_1 256)) a1 ((strOfNums y102) ++ cH) (wrap64 (x7_1 + 1))) else (none)) = some (r1, r2) := by first | (rw [hy102]; with_reducible exact H) | (have H2_ := (Option.bind_some _ _).symm.trans H; rw [hy102]; with_reducible exact H2_) | (have H2_ := (Option.bind_some _ _).symm.trans H; with_reducible exact H2_) | with_reducible exact H | (rw [hy102]; exact H) | exact H
     have Ny102 := Aside0.mk hy102
     clear hy102
     by_cases c6 : (strOfNums y102).size + cH.size ≤ 9223372036854775807
     ·rw [if_pos c6] at H
      have fc := eq_true c6
      have iO : decide ((strOfNums y102).size + cH.size ≤ 9223372036854775807) = true := decide_eq_true c6
      try have c6b2 : (9223372036854775807 < (strOfNums y102).size + cH.size) = False := eq_false (Nat.not_lt.2 c6)
      try (have c6b3 := c6b2; simp only [ByteArray.size_append] at c6b3)
      have H' := Aside0.mk H
      clear H
      go_wp2_with (first | ((with_reducible refine gate_dst (N := 20) rfl ?_); refine Kd.R_lit (Kd.int .u8) _ 5 ?hg (N := 20) ?hd (xs := ([(Int.tmod x0_1 256) % 256] : List Int)) (inner := [.int .u8 ((Int.tmod x0_1 256) % 256)]) (ok := fun _ => True) (okp := fun _ => True) ?hr ?hp (fun _ hk => hk) trivial (Below.refl _ _) (Nat.le_refl _) Z36 ?_; (case hd => rfl); (case hg => rfl); (case hr => first | (go_simp; done) | (go_simp; rfl)); (case hp => exact (Reps.one (show Kd.M (Kd.int .u8) _ _ _ ((Int.tmod x0_1 256) % 256) [.int .u8 ((Int.tmod x0_1 256) % 256)] from rfl) (Reps.none _ _))); intro v103 w7 ho8 hb hg_ hnew_; clear hg_ hnew_; (first | rw [← Ny102.out] at ho8 | (simp only [Int.reduceToNat] at ho8; rw [← Ny102.out] at ho8)); have HO104 := Aside0.mk (Kd.R_lower ho8 (below_size Z0)); replace HB := Aside0.mk (below_step Z0 hb); clear hb ho8; have hcv9 := own_string (P := Try.prog) Try.underlying38 Try.underlying5 Try.underlying9 (Kd.own_of_R HO104.out)))
      go_roundg k1
      case measure => have := HK1.out; omega
      case rel => exact ⟨(wrap64 (Int.tdiv x0_1 256)), ((strOfNums y102) ++ cH), (wrap64 (x7_1 + 1)), Z7, Z7, Z7, H', ⟨by have := HK1.out; omega⟩, ⟨Z0⟩⟩
     ·rw [if_neg c6] at H
      exact absurd H Z36
    ·rw [if_neg c5] at H
     have cY : decide (x7_1 < a1) = false := decide_eq_false c5
     clear c5
     simp only [Option.some.injEq, Prod.mk.injEq] at H
     obtain ⟨rfl, rfl⟩ := H
     go_wp2
     go_ret2
     exact ⟨Z2, Z0⟩
 ·replace c4 := Bool.eq_false_iff.mpr c4
  subst c4
  have H1 : (some ((⟨#[]⟩ : ByteArray), false)) = some (r1, r2) := by rw [if_neg (show ¬ (false = true) by decide)] at H; exact H
  clear H
  have H := H1
  clear H1
  simp only [Option.some.injEq, Prod.mk.injEq] at H
  obtain ⟨rfl, rfl⟩ := H
  go_enter Try.func47, Try.ntmps47
  go_wp2_with (first | ((with_reducible refine gate_callee (f := 52) rfl ?_); refine goesL_ (some 10) rfl rfl Try.func52 Z16 rfl #[.int .i64 a0, .int .i64 a1] rfl Z4 ?_; (with_reducible refine (roadbookref02_Fits.calls k a0 a1 false _ A3.out).mono ?_); rintro e w' ⟨rfl, ⟨nd, rfl⟩⟩; refine ⟨_, rfl, ?_⟩))
  go_ret2
  exact ⟨Z2, Z0⟩

/-! ### roadbookref02_Of: function 33 -/
def roadbookref02_Of.f (k : Nat) (a0 : Int) (a1 : Int) : Option (ByteArray) := (roadbookref02_Put.f k a0 a1).bind fun bt101 => (some bt101.1)
theorem roadbookref02_Of.mono : ∀ a0 a1 k, LeO (roadbookref02_Of.f k a0 a1) (roadbookref02_Of.f (k + 1) a0 a1) := by
 intro a0 a1 k
 unfold roadbookref02_Of.f
 have m0 := roadbookref02_Put.mono
 exact Sq.mo
set_option maxHeartbeats 8000000 in
set_option maxRecDepth 100000 in
theorem roadbookref02_Of.calls (k : Nat) (a0 : Int) (a1 : Int) (r : ByteArray) (w : World) (h : roadbookref02_Of.f k a0 a1 = some r) :
  Calls Try.prog 33 #[.int .i64 a0, .int .i64 a1] w fun e w' => e = .returned (.string r) ∧ Below w.heap.size w w' := by
 have HB := Aside0.mk (Below.refl w.heap.size w)
 have H : ((roadbookref02_Put.f k a0 a1).bind fun bt101 => (some bt101.1)) = some r := h
 clear h
 replace H := Option.bind_eq_some_iff.mp H
 obtain ⟨⟨aM, aI⟩, eT, H⟩ := H
 replace H : (some aM) = some r := H
 have A3 := Aside0.mk eT
 clear eT
 obtain rfl := Option.some.inj H
 go_enter Try.func33, Try.ntmps33
 go_wp2_with (first | ((with_reducible refine gate_callee (f := 47) rfl ?_); refine goesL_ (some 10) rfl rfl Try.func47 Z16 rfl #[.int .i64 a0, .int .i64 a1] rfl Z4 ?_; (with_reducible refine (roadbookref02_Put.calls k a0 a1 aM aI _ A3.out).mono ?_); rintro e w4 ⟨rfl, hb⟩; refine ⟨_, rfl, ?_⟩; replace HB := Aside0.mk (below_step Z0 hb); clear hb))
 go_ret
 exact ⟨Z2, Z0⟩

end Go.Proofs.Ytnifhgackjkkbaa.PN
