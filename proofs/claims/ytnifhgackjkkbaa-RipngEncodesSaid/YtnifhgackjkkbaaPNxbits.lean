-- Written by mp.py, a program of this work (wip/tools), out of the translation; Lean checks it.
import Derived.Test.YtnifhgackjkkbaaPNxZ
import Derived.Test.YtnifhgackjkkbaaCopy
namespace Go.Proofs.Ytnifhgackjkkbaa.PN
open Go.RowKit Go.Proofs.YtnifhgackjkkbaaW.PrintWords Go.Proofs.YtnifhgackjkkbaaW.PrintLast Go.Proofs.YtnifhgackjkkbaaW.PrintMore
attribute [local go_sem] max2_int min2_int max_two min_two max_three min_three max_four min_four   -- for this text's walks alone
set_option linter.unusedVariables false
set_option linter.unusedSimpArgs false

/-! ### bits_Keep: function 49 -/
def bits_Keep.f (a0 : ByteArray) (a1 : Int) : Option ByteArray :=
 if a0.size ≤ 140737488351232 then
  if 8 * (a0.size : Int) ≤ a1 then some a0
  else if a1 ≤ 0 then some (strOfNums (List.replicate a0.size 0))
  else some (strOfNums ((bytesOf (a0.extract 0 (a1 / 8).toNat) ++ (List.replicate a0.size 0).drop (a0.extract 0 (a1 / 8).toNat).size).set (a1 / 8).toNat (Go.bits .andNot .u8 (bt a0 (a1 / 8)) (255 / 2 ^ min (IntKind.u64.wrap (Go.bits .and .i64 a1 7)).toNat 8))))
 else none
set_option maxHeartbeats 8000000 in
set_option maxRecDepth 100000 in
theorem bits_Keep.calls (a0 : ByteArray) (a1 : Int) (r : ByteArray) (w : World) (h : bits_Keep.f a0 a1 = some r) :
  Calls Try.prog 49 #[.string a0, .int .i64 a1] w fun e w' => e = .returned (.string r) ∧ Below w.heap.size w w' := by
 unfold bits_Keep.f at h
 by_cases hs : a0.size ≤ 140737488351232
 ·rw [if_pos hs] at h
  by_cases h1 : 8 * (a0.size : Int) ≤ a1
  ·rw [if_pos h1] at h
   obtain rfl := Option.some.inj h
   clear h
   go_enter Try.func49, Try.ntmps49
   go_wp2
   go_ret
   exact ⟨rfl, Below.refl _ _⟩
  ·rw [if_neg h1] at h
   have hmk := print_make (P := Try.prog) 38 5 .u8 1 Try.underlying38 info5 Z18 a0.size Z25
   have HO := Aside0.mk (own_made w w.heap.size 5 .u8 a0.size (Nat.le_refl _) Z25)
   have HB := Aside0.mk (below_alloc (Below.refl w.heap.size w) (.cells (madeCells #[.int .u8 0] a0.size) 5))
   by_cases h2 : a1 ≤ 0
   ·rw [if_pos h2] at h
    obtain rfl := Option.some.inj h
    clear h
    have hcv := own_string (P := Try.prog) Try.underlying38 Try.underlying5 Try.underlying9 HO.out
    go_enter Try.func49, Try.ntmps49
    go_wp2
    go_ret
    exact ⟨rfl, HB.out⟩
   ·rw [if_neg h2] at h
    obtain rfl := Option.some.inj h
    clear h
    have hk0 : 0 ≤ a1 / 8 := by omega
    have hk1 : a1 / 8 < (a0.size : Int) := by omega
    have hes : (a0.extract 0 (a1 / 8).toNat).size ≤ a0.size := by rw [ByteArray.size_extract]; omega
    obtain ⟨W2, hcp, iL, HB2, hsz⟩ := Pre.copy_own_str (P := Try.prog) 38 9 3 (a0.extract 0 (a1 / 8).toNat) Try.underlying38 Z16 HO.out hes
    have HB2 := Aside0.mk (HB2 (Nat.le_refl _) HB.out)
    obtain ⟨x, hx⟩ : ∃ x, x = bytesOf (a0.extract 0 (a1 / 8).toNat) ++ (List.replicate a0.size 0).drop (a0.extract 0 (a1 / 8).toNat).size := ⟨_, rfl⟩
    rw [← hx] at iL
    obtain ⟨hc, hf⟩ := own_at iL (a1 / 8) hk0 hk1
    have jF := own_store iL (a1 / 8) (Go.bits .andNot .u8 (bt a0 (a1 / 8)) (255 / 2 ^ min (IntKind.u64.wrap (Go.bits .and .i64 a1 7)).toNat 8))
    rw [← hx]
    have hcv := own_string (P := Try.prog) Try.underlying38 Try.underlying5 Try.underlying9 jF.1
    have HB3 := Aside0.mk (Below.setCell HB2.out (p := ⟨w.heap.size, (a1 / 8).toNat, none⟩) (Nat.le_refl _) (.int .u8 (Go.bits .andNot .u8 (bt a0 (a1 / 8)) (255 / 2 ^ min (IntKind.u64.wrap (Go.bits .and .i64 a1 7)).toNat 8))))
    clear hx jF iL HB2 hsz hes HB HO
    have hx7 := bt_at a0 (a1 / 8)
    go_enter Try.func49, Try.ntmps49
    go_wp2_with (first | (with_reducible refine Pre.wpList_copy_ rfl (.tmp 22) (.tmp 25) 38 9 rfl _ _ rfl rfl hcp ?_))
    go_ret
    exact ⟨rfl, HB3.out⟩
 ·rw [if_neg hs] at h; exact absurd h Z36

/-! ### bits_Clean: function 44 -/
def bits_Clean.f (a0 : ByteArray) (a1 : Int) : Option (Bool) := (bits_Keep.f a0 a1).bind fun aM => (some (aM.toList == a0.toList))
set_option maxHeartbeats 8000000 in
set_option maxRecDepth 100000 in
theorem bits_Clean.calls (a0 : ByteArray) (a1 : Int) (r : Bool) (w : World) (h : bits_Clean.f a0 a1 = some r) :
  Calls Try.prog 44 #[.string a0, .int .i64 a1] w fun e w' => e = .returned (.bool r) ∧ Below w.heap.size w w' := by
 have HB := Aside0.mk (Below.refl w.heap.size w)
 have H : ((bits_Keep.f a0 a1).bind fun aM => (some (aM.toList == a0.toList))) = some r := h
 clear h
 replace H := Option.bind_eq_some_iff.mp H
 obtain ⟨aM, eT, H⟩ := H
 replace H : (some (aM.toList == a0.toList)) = some r := H
 have A3 := Aside0.mk eT
 clear eT
 obtain rfl := Option.some.inj H
 go_enter Try.func44, Try.ntmps44
 go_wp2_with (first | ((with_reducible refine gate_callee (f := 49) rfl ?_); refine goesL_ (some 7) rfl rfl Try.func49 Z16 rfl #[.string a0, .int .i64 a1] rfl Z4 ?_; (with_reducible refine (bits_Keep.calls a0 a1 aM _ A3.out).mono ?_); rintro e w4 ⟨rfl, hb⟩; refine ⟨_, rfl, ?_⟩; replace HB := Aside0.mk (below_step Z0 hb); clear hb))
 go_ret
 exact ⟨Z2, Z0⟩

/-! ### prefix_Right: function 29 -/
def prefix_Right.f (a0 : ByteArray) (a1 : Int) : Option (Bool) := if (a0.size : Int) = 4 then (if a1 ≥ 0 then (if a1 ≤ (wrap64 (8 * (a0.size : Int))) then ((bits_Clean.f a0 a1).bind fun aM => (some aM)) else (some false)) else (some false)) else (if (a0.size : Int) = 16 then (if a1 ≥ 0 then (if a1 ≤ (wrap64 (8 * (a0.size : Int))) then ((bits_Clean.f a0 a1).bind fun aI => (some aI)) else (some false)) else (some false)) else (some false))
set_option maxHeartbeats 8000000 in
set_option maxRecDepth 100000 in
theorem prefix_Right.calls (a0 : ByteArray) (a1 : Int) (r : Bool) (w : World) (h : prefix_Right.f a0 a1 = some r) :
  Calls Try.prog 29 #[.string a0, .int .i64 a1] w fun e w' => e = .returned (.bool r) ∧ Below w.heap.size w w' := by
 have HB := Aside0.mk (Below.refl w.heap.size w)
 have H : (if (a0.size : Int) = 4 then (if a1 ≥ 0 then (if a1 ≤ (wrap64 (8 * (a0.size : Int))) then ((bits_Clean.f a0 a1).bind fun aM => (some aM)) else (some false)) else (some false)) else (if (a0.size : Int) = 16 then (if a1 ≥ 0 then (if a1 ≤ (wrap64 (8 * (a0.size : Int))) then ((bits_Clean.f a0 a1).bind fun aI => (some aI)) else (some false)) else (some false)) else (some false))) = some r := h
 clear h
 by_cases c3 : (a0.size : Int) = 4
 ·rw [if_pos c3] at H
  have bY : ((a0.size : Int) == 4) = true := beq_iff_eq.mpr c3
  have cE : ((a0.size : Int) != 4) = false := bne_eq_false_iff_eq.mpr c3
  clear c3
  by_cases c4 : a1 ≥ 0
  ·rw [if_pos c4] at H
   have cG : decide (0 ≤ a1) = true := decide_eq_true c4
   clear c4
   by_cases c5 : a1 ≤ (wrap64 (8 * (a0.size : Int)))
   ·rw [if_pos c5] at H
    have cY : decide (a1 ≤ (wrap64 (8 * (a0.size : Int)))) = true := decide_eq_true c5
    clear c5
    replace H := Option.bind_eq_some_iff.mp H
    obtain ⟨aM, io, H⟩ := H
    replace H : (some aM) = some r := H
    have A6 := Aside0.mk io
    clear io
    obtain rfl := Option.some.inj H
    go_enter Try.func29, Try.ntmps29
    go_wp2_with (first | (go_at_call 44; (with_reducible refine (bits_Clean.calls a0 a1 aM _ A6.out).mono ?_); rintro e w7 ⟨rfl, hb⟩; replace HB := Aside0.mk (below_step Z0 hb); clear hb))
    go_ret
    exact ⟨Z2, Z0⟩
   ·rw [if_neg c5] at H
    have cY : decide (a1 ≤ (wrap64 (8 * (a0.size : Int)))) = false := decide_eq_false c5
    clear c5
    obtain rfl := Option.some.inj H
    go_enter Try.func29, Try.ntmps29
    go_wp2
    go_ret
    exact ⟨Z2, Z0⟩
  ·rw [if_neg c4] at H
   have cG : decide (0 ≤ a1) = false := decide_eq_false c4
   clear c4
   obtain rfl := Option.some.inj H
   go_enter Try.func29, Try.ntmps29
   go_wp2
   go_ret
   exact ⟨Z2, Z0⟩
 ·rw [if_neg c3] at H
  have bY : ((a0.size : Int) == 4) = false := beq_eq_false_iff_ne.mpr c3
  have cE : ((a0.size : Int) != 4) = true := bne_iff_ne.mpr c3
  by_cases c8 : (a0.size : Int) = 16
  ·rw [if_pos c8] at H
   have dS : ((a0.size : Int) == 16) = true := beq_iff_eq.mpr c8
   have ft : ((a0.size : Int) != 16) = false := bne_eq_false_iff_eq.mpr c8
   clear c8
   by_cases c9 : a1 ≥ 0
   ·rw [if_pos c9] at H
    have ha : decide (0 ≤ a1) = true := decide_eq_true c9
    clear c9
    by_cases cR : a1 ≤ (wrap64 (8 * (a0.size : Int)))
    ·rw [if_pos cR] at H
     have dl : decide (a1 ≤ (wrap64 (8 * (a0.size : Int)))) = true := decide_eq_true cR
     clear cR
     replace H := Option.bind_eq_some_iff.mp H
     obtain ⟨aI, fo, H⟩ := H
     replace H : (some aI) = some r := H
     have ju := Aside0.mk fo
     clear fo
     obtain rfl := Option.some.inj H
     go_enter Try.func29, Try.ntmps29
     go_wp2_with (first | (go_at_call 44; (with_reducible refine (bits_Clean.calls a0 a1 aI _ ju.out).mono ?_); rintro e hA ⟨rfl, hb⟩; replace HB := Aside0.mk (below_step Z0 hb); clear hb))
     go_ret
     exact ⟨Z2, Z0⟩
    ·rw [if_neg cR] at H
     have dl : decide (a1 ≤ (wrap64 (8 * (a0.size : Int)))) = false := decide_eq_false cR
     clear cR
     obtain rfl := Option.some.inj H
     go_enter Try.func29, Try.ntmps29
     go_wp2
     go_ret
     exact ⟨Z2, Z0⟩
   ·rw [if_neg c9] at H
    have ha : decide (0 ≤ a1) = false := decide_eq_false c9
    clear c9
    obtain rfl := Option.some.inj H
    go_enter Try.func29, Try.ntmps29
    go_wp2
    go_ret
    exact ⟨Z2, Z0⟩
  ·rw [if_neg c8] at H
   have dS : ((a0.size : Int) == 16) = false := beq_eq_false_iff_ne.mpr c8
   have ft : ((a0.size : Int) != 16) = true := bne_iff_ne.mpr c8
   obtain rfl := Option.some.inj H
   go_enter Try.func29, Try.ntmps29
   go_wp2
   go_ret
   exact ⟨Z2, Z0⟩

end Go.Proofs.Ytnifhgackjkkbaa.PN
