-- Written by mp.py, a program of this work (wip/tools), out of the translation; Lean checks it.
import Derived.Test.YtccjakjjaemmkaaPRxZ
namespace Go.Proofs.Ytccjakjjaemmkaa.PR
open Go.RowKit Go.Proofs.YtccjakjjaemmkaaW.PrintWords Go.Proofs.YtccjakjjaemmkaaW.PrintLast Go.Proofs.YtccjakjjaemmkaaW.PrintMore
attribute [local go_sem] max2_int min2_int max_two min_two max_three min_three max_four min_four   -- for this text's walks alone
set_option linter.unusedVariables false
set_option linter.unusedSimpArgs false

/-! ### roadbookref08_Number: function 64 -/
def roadbookref08_Number.l0 : Nat → ByteArray → Int → Int → Option (Int)
 | 0, _, _, _ => none
 | k + 1, x0, x3, x4 => if x4 < (x0.size : Int) then (if x4 < 7 then (if 0 ≤ x4 then (roadbookref08_Number.l0 k x0 (wrap64 ((wrap64 (x3 * 256)) + (wrap64 (bt x0 x4)))) (wrap64 (x4 + 1))) else (none)) else (some x3)) else (some x3)
def roadbookref08_Number.f (k : Nat) (a0 : ByteArray) : Option (Int) := roadbookref08_Number.l0 k a0 0 0
theorem roadbookref08_Number.mono_l : ∀ k, (∀ y0 y1 y2, LeO (roadbookref08_Number.l0 k y0 y1 y2) (roadbookref08_Number.l0 (k + 1) y0 y1 y2))
 | 0 => fun _ _ _ r h => by simp [roadbookref08_Number.l0] at h
 | k + 1 => by
  have ih0 := roadbookref08_Number.mono_l k
  ·intro y0 y1 y2
   unfold roadbookref08_Number.l0
   repeat' first
   | (with_reducible exact ih0 ..)
   | (with_reducible exact LeO.refl _)
   | (with_reducible exact LeO.none _)
   | (with_reducible refine LeO.ite ?_ ?_)
   | (with_reducible refine LeO.bind ?_ (fun _ => ?_))
   | exact ih0 ..
   | exact LeO.none _
   | refine LeO.ite ?_ ?_
   | refine LeO.bind ?_ (fun _ => ?_)
theorem roadbookref08_Number.mono : ∀ a0 k, LeO (roadbookref08_Number.f k a0) (roadbookref08_Number.f (k + 1) a0) := by
 intro a0 k
 have ih0 := roadbookref08_Number.mono_l k
 unfold roadbookref08_Number.f
 repeat' first
   | (with_reducible exact ih0 ..)
   | (with_reducible exact LeO.refl _)
   | (with_reducible exact LeO.none _)
   | (with_reducible refine LeO.ite ?_ ?_)
   | (with_reducible refine LeO.bind ?_ (fun _ => ?_))
   | exact ih0 ..
   | exact LeO.none _
   | refine LeO.ite ?_ ?_
   | refine LeO.bind ?_ (fun _ => ?_)
set_option maxHeartbeats 8000000 in
set_option maxRecDepth 100000 in
theorem roadbookref08_Number.calls (k : Nat) (a0 : ByteArray) (r : Int) (w : World) (h : roadbookref08_Number.f k a0 = some r) :
  Calls Try.prog 64 #[.string a0] w fun e w' => e = .returned (.int .i64 r) ∧ Drawn0 w w' := by
 have H : (roadbookref08_Number.l0 k a0 0 0) = some r := h
 clear h
 have H' := Aside0.mk H
 clear H
 go_enter Try.func64, Try.ntmps64
 go_wp2
 go_loopg [3, 4] k (fun kq v3 v4 w' => ∃ (kb : Int) (cI : Int), v3 = .int .i64 kb ∧ v4 = .int .i64 cI ∧ Aside0 (roadbookref08_Number.l0 kq a0 kb cI = some r) ∧ Aside0 (kq ≤ k) ∧ Drawn0 w w')
 case atStart => exact ⟨(0), (0), Z14, Z14, H', ⟨Nat.le_refl _⟩, Z44⟩
 case round =>
  clear H'
  obtain ⟨kb, cI, rfl, rfl, HA, HK1, ⟨m1, rfl⟩⟩ := hrel
  cases gk with
  | zero => exact absurd HA.out (by simp [roadbookref08_Number.l0])
  | succ k1 =>
   have H := HA.out
   clear HA
   simp only [roadbookref08_Number.l0] at H
   by_cases c2 : cI < (a0.size : Int)
   ·rw [if_pos c2] at H
    have iq : decide (cI < (a0.size : Int)) = true := decide_eq_true c2
    clear c2
    by_cases c3 : cI < 7
    ·rw [if_pos c3] at H
     have gw : decide (cI < 7) = true := decide_eq_true c3
     clear c3
     by_cases c4 : 0 ≤ cI
     ·rw [if_pos c4] at H
      have cS : decide (0 ≤ cI) = true := decide_eq_true c4
      clear c4
      have H' := Aside0.mk H
      clear H
      have p5 : 0 ≤ (cI : Int) := of_decide_eq_true Z10
      have q5 : cI < (a0.size : Int) := of_decide_eq_true Z10
      have hx5 := bt_at a0 cI
      replace p5 := eq_true p5
      replace q5 := eq_true q5
      go_wp2
      go_roundg k1
      case measure => have := HK1.out; omega
      case rel => exact ⟨(wrap64 ((wrap64 (kb * 256)) + (wrap64 (bt a0 cI)))), (wrap64 (cI + 1)), Z14, Z14, H', ⟨Z112⟩, Z44⟩
     ·rw [if_neg c4] at H
      exact absurd H Z73
    ·rw [if_neg c3] at H
     have gw : decide (cI < 7) = false := decide_eq_false c3
     clear c3
     obtain rfl := Option.some.inj H
     go_wp2
     go_ret
     exact ⟨Z14, Z44⟩
   ·rw [if_neg c2] at H
    have iq : decide (cI < (a0.size : Int)) = false := decide_eq_false c2
    clear c2
    obtain rfl := Option.some.inj H
    go_wp2
    go_ret
    exact ⟨Z14, Z44⟩

end Go.Proofs.Ytccjakjjaemmkaa.PR
