-- Written by mp.py, a program of this work (wip/tools), out of the translation; Lean checks it.
import Derived.Test.YtnllanjoebjeiaaGreatPVxZ
namespace Go.Proofs.YtnllanjoebjeiaaGreat.PV
open Go.RowKit Go.Proofs.YtnllanjoebjeiaaGreatW.PrintWords Go.Proofs.YtnllanjoebjeiaaGreatW.PrintLast Go.Proofs.YtnllanjoebjeiaaGreatW.PrintMore
attribute [local go_sem] max2_int min2_int max_two min_two max_three min_three max_four min_four   -- for this text's walks alone
set_option linter.unusedVariables false
set_option linter.unusedSimpArgs false

/-! ### roadbookref04_Least: function 141 -/
def roadbookref04_Least.f (a0 : Int) : Option (Int) := if a0 < 0 then (some 0) else (some (wrap64 (Int.tdiv (wrap64 (a0 + 7)) 8)))
set_option maxHeartbeats 8000000 in
set_option maxRecDepth 100000 in
theorem roadbookref04_Least.calls (a0 : Int) (r : Int) (w : World) (h : roadbookref04_Least.f a0 = some r) :
  Calls Tryz.prog 141 #[.int .i64 a0] w fun e w' => e = .returned (.int .i64 r) ∧ Drawn0 w w' := by
 have H : (if a0 < 0 then (some 0) else (some (wrap64 (Int.tdiv (wrap64 (a0 + 7)) 8)))) = some r := h
 clear h
 by_cases c2 : a0 < 0
 ·rw [if_pos c2] at H
  have cK : decide (a0 < 0) = true := decide_eq_true c2
  clear c2
  obtain rfl := Option.some.inj H
  go_enter Tryz.func141, Tryz.ntmps141
  go_wp2
  go_ret
  exact ⟨Z8, Z11⟩
 ·rw [if_neg c2] at H
  have cK : decide (a0 < 0) = false := decide_eq_false c2
  clear c2
  obtain rfl := Option.some.inj H
  go_enter Tryz.func141, Tryz.ntmps141
  go_wp2
  go_ret
  exact ⟨Z8, Z11⟩

/-! ### roadbookref04_Fill: function 143 -/
def roadbookref04_Fill.l0 : Nat → ByteArray → Int → Option (ByteArray)
 | 0, _, _ => none
 | k + 1, x0, x1 => if (x0.size : Int) < x1 then (if x0.size + 1 ≤ 9223372036854775807 then (roadbookref04_Fill.l0 k (x0 ++ (⟨#[0]⟩ : ByteArray)) x1) else (none)) else (some x0)
def roadbookref04_Fill.f (k : Nat) (a0 : ByteArray) (a1 : Int) : Option (ByteArray) := roadbookref04_Fill.l0 k a0 a1
theorem roadbookref04_Fill.mono_l : ∀ k, (∀ y0 y1, LeO (roadbookref04_Fill.l0 k y0 y1) (roadbookref04_Fill.l0 (k + 1) y0 y1))
 | 0 => Sq.mz
 | k + 1 => by
  have ih0 := roadbookref04_Fill.mono_l k
  ·intros
   unfold roadbookref04_Fill.l0
   exact Sq.mo
theorem roadbookref04_Fill.mono : ∀ a0 a1 k, LeO (roadbookref04_Fill.f k a0 a1) (roadbookref04_Fill.f (k + 1) a0 a1) := by
 intro a0 a1 k
 have ih0 := roadbookref04_Fill.mono_l k
 unfold roadbookref04_Fill.f
 exact Sq.mo
set_option maxHeartbeats 8000000 in
set_option maxRecDepth 100000 in
theorem roadbookref04_Fill.calls (k : Nat) (a0 : ByteArray) (a1 : Int) (r : ByteArray) (w : World) (h : roadbookref04_Fill.f k a0 a1 = some r) :
  Calls Tryz.prog 143 #[.string a0, .int .i64 a1] w fun e w' => e = .returned (.string r) ∧ Drawn0 w w' := by
 have H : (roadbookref04_Fill.l0 k a0 a1) = some r := h
 clear h
 have H' := Aside0.mk H
 clear H
 go_enter Tryz.func143, Tryz.ntmps143
 go_wp2
 go_loopg [0] k (fun kq v0 w' => ∃ (dN : ByteArray), v0 = .string dN ∧ Aside0 (roadbookref04_Fill.l0 kq dN a1 = some r) ∧ Aside0 (kq ≤ k) ∧ Drawn0 w w')
 case atStart => exact ⟨(a0), Z8, H', ⟨Nat.le_refl _⟩, Z11⟩
 case round =>
  clear H'
  try clear c1
  try clear p2
  obtain ⟨dN, rfl, HA, HK1, ⟨m1, rfl⟩⟩ := hrel
  cases gk with
  | zero => exact absurd HA.out (by simp [roadbookref04_Fill.l0])
  | succ k1 =>
   have H := HA.out
   clear HA
   simp only [roadbookref04_Fill.l0] at H
   by_cases c3 : (dN.size : Int) < a1
   ·rw [if_pos c3] at H
    have bU : decide ((dN.size : Int) < a1) = true := decide_eq_true c3
    clear c3
    by_cases c4 : dN.size + 1 ≤ 9223372036854775807
    ·rw [if_pos c4] at H
     have bP := eq_true c4
     have cl : decide (dN.size + 1 ≤ 9223372036854775807) = true := decide_eq_true c4
     try have c4b2 : (9223372036854775807 < dN.size + 1) = False := eq_false (Nat.not_lt.2 c4)
     try (have c4b3 := c4b2; simp only [ByteArray.size_append] at c4b3)
     have H' := Aside0.mk H
     clear H
     go_wp2
     go_roundg k1
     case measure => have := HK1.out; omega
     case rel => exact ⟨(dN ++ (⟨#[0]⟩ : ByteArray)), Z8, H', ⟨Z35⟩, Z11⟩
    ·rw [if_neg c4] at H
     exact absurd H Z27
   ·rw [if_neg c3] at H
    have bU : decide ((dN.size : Int) < a1) = false := decide_eq_false c3
    clear c3
    obtain rfl := Option.some.inj H
    go_wp2
    go_ret
    exact ⟨Z8, Z11⟩

end Go.Proofs.YtnllanjoebjeiaaGreat.PV
