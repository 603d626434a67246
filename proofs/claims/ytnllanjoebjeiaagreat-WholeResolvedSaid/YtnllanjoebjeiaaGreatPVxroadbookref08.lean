-- Written by mp.py, a program of this work (wip/tools), out of the translation; Lean checks it.
import Derived.Test.YtnllanjoebjeiaaGreatPVxZ
namespace Go.Proofs.YtnllanjoebjeiaaGreat.PV
open Go.RowKit Go.Proofs.YtnllanjoebjeiaaGreatW.PrintWords Go.Proofs.YtnllanjoebjeiaaGreatW.PrintLast Go.Proofs.YtnllanjoebjeiaaGreatW.PrintMore
attribute [local go_sem] max2_int min2_int max_two min_two max_three min_three max_four min_four   -- for this text's walks alone
set_option linter.unusedVariables false
set_option linter.unusedSimpArgs false

/-! ### roadbookref08_Number: function 139 -/
def roadbookref08_Number.l0 : Nat → ByteArray → Int → Int → Option (Int)
 | 0, _, _, _ => none
 | k + 1, x0, x3, x4 => if x4 < (x0.size : Int) then (if x4 < 7 then (if 0 ≤ x4 then (roadbookref08_Number.l0 k x0 (wrap64 ((wrap64 (x3 * 256)) + (wrap64 (bt x0 x4)))) (wrap64 (x4 + 1))) else (none)) else (some x3)) else (some x3)
def roadbookref08_Number.f (k : Nat) (a0 : ByteArray) : Option (Int) := roadbookref08_Number.l0 k a0 0 0
theorem roadbookref08_Number.mono_l : ∀ k, (∀ y0 y1 y2, LeO (roadbookref08_Number.l0 k y0 y1 y2) (roadbookref08_Number.l0 (k + 1) y0 y1 y2))
 | 0 => Sq.mz
 | k + 1 => by
  have ih0 := roadbookref08_Number.mono_l k
  ·intros
   unfold roadbookref08_Number.l0
   exact Sq.mo
theorem roadbookref08_Number.mono : ∀ a0 k, LeO (roadbookref08_Number.f k a0) (roadbookref08_Number.f (k + 1) a0) := by
 intro a0 k
 have ih0 := roadbookref08_Number.mono_l k
 unfold roadbookref08_Number.f
 exact Sq.mo
set_option maxHeartbeats 8000000 in
set_option maxRecDepth 100000 in
theorem roadbookref08_Number.calls (k : Nat) (a0 : ByteArray) (r : Int) (w : World) (h : roadbookref08_Number.f k a0 = some r) :
  Calls Tryz.prog 139 #[.string a0] w fun e w' => e = .returned (.int .i64 r) ∧ Drawn0 w w' := by
 have H : (roadbookref08_Number.l0 k a0 0 0) = some r := h
 clear h
 have H' := Aside0.mk H
 clear H
 go_enter Tryz.func139, Tryz.ntmps139
 go_wp2
 go_loopg [3, 4] k (fun kq v3 v4 w' => ∃ (dB : Int) (dR : Int), v3 = .int .i64 dB ∧ v4 = .int .i64 dR ∧ Aside0 (roadbookref08_Number.l0 kq a0 dB dR = some r) ∧ Aside0 (kq ≤ k) ∧ Drawn0 w w')
 case atStart => exact ⟨(0), (0), Z8, Z8, H', ⟨Nat.le_refl _⟩, Z11⟩
 case round =>
  clear H'
  try clear c1
  obtain ⟨dB, dR, rfl, rfl, HA, HK1, ⟨m1, rfl⟩⟩ := hrel
  cases gk with
  | zero => exact absurd HA.out (by simp [roadbookref08_Number.l0])
  | succ k1 =>
   have H := HA.out
   clear HA
   simp only [roadbookref08_Number.l0] at H
   by_cases c2 : dR < (a0.size : Int)
   ·rw [if_pos c2] at H
    have cK : decide (dR < (a0.size : Int)) = true := decide_eq_true c2
    clear c2
    by_cases c3 : dR < 7
    ·rw [if_pos c3] at H
     have bU : decide (dR < 7) = true := decide_eq_true c3
     clear c3
     by_cases c4 : 0 ≤ dR
     ·rw [if_pos c4] at H
      have bP : decide (0 ≤ dR) = true := decide_eq_true c4
      clear c4
      have H' := Aside0.mk H
      clear H
      have p5 : 0 ≤ (dR : Int) := of_decide_eq_true Z7
      have q5 : dR < (a0.size : Int) := of_decide_eq_true Z7
      have hx5 := bt_at a0 dR
      replace p5 := eq_true p5
      replace q5 := eq_true q5
      go_wp2
      go_roundg k1
      case measure => have := HK1.out; omega
      case rel => exact ⟨(wrap64 ((wrap64 (dB * 256)) + (wrap64 (bt a0 dR)))), (wrap64 (dR + 1)), Z8, Z8, H', ⟨Z35⟩, Z11⟩
     ·rw [if_neg c4] at H
      exact absurd H Z27
    ·rw [if_neg c3] at H
     have bU : decide (dR < 7) = false := decide_eq_false c3
     clear c3
     obtain rfl := Option.some.inj H
     go_wp2
     go_ret
     exact ⟨Z8, Z11⟩
   ·rw [if_neg c2] at H
    have cK : decide (dR < (a0.size : Int)) = false := decide_eq_false c2
    clear c2
    obtain rfl := Option.some.inj H
    go_wp2
    go_ret
    exact ⟨Z8, Z11⟩

end Go.Proofs.YtnllanjoebjeiaaGreat.PV
