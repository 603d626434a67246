-- Written by mp.py, a program of this work (wip/tools), out of the translation; Lean checks it.
import Derived.Test.YtnllanjoebjeiaaGreatPVxZ
namespace Go.Proofs.YtnllanjoebjeiaaGreat.PV
open Go.RowKit Go.Proofs.YtnllanjoebjeiaaGreatW.PrintWords Go.Proofs.YtnllanjoebjeiaaGreatW.PrintLast Go.Proofs.YtnllanjoebjeiaaGreatW.PrintMore
attribute [local go_sem] max2_int min2_int max_two min_two max_three min_three max_four min_four   -- for this text's walks alone
set_option linter.unusedVariables false
set_option linter.unusedSimpArgs false

/-! ### roadbookref20_Long: function 75 -/
def roadbookref20_Long.f (a0 : Int) : Option (Int) := (some (([0, 4, 16, 8] : List Int) : List Int)).bind fun cL => (if 0 ≤ a0 then (if a0 < (cL.length : Int) then (some (rd cL a0)) else (none)) else (none))
set_option maxHeartbeats 8000000 in
set_option maxRecDepth 100000 in
theorem roadbookref20_Long.calls (a0 : Int) (r : Int) (w : World) (h : roadbookref20_Long.f a0 = some r) :
  Calls Tryz.prog 75 #[.int .i64 a0] w fun e w' => e = .returned (.int .i64 r) ∧ Below w.heap.size w w' := by
 have HB := Aside0.mk (Below.refl w.heap.size w)
 have H : ((some (([0, 4, 16, 8] : List Int) : List Int)).bind fun cL => (if 0 ≤ a0 then (if a0 < (cL.length : Int) then (some (rd cL a0)) else (none)) else (none))) = some r := h
 clear h
 obtain ⟨cL, hy101⟩ : ∃ y_ : List Int, y_ = (([0, 4, 16, 8] : List Int)) := ⟨_, rfl⟩
 replace H : (if 0 ≤ a0 then (if a0 < (cL.length : Int) then (some (rd cL a0)) else (none)) else (none)) = some r := by first | (rw [hy101]; with_reducible exact H) | (have H2_ := (Option.bind_some _ _).symm.trans H; rw [hy101]; with_reducible exact H2_) | (have H2_ := (Option.bind_some _ _).symm.trans H; with_reducible exact H2_) | with_reducible exact H | (rw [hy101]; exact H) | exact H
 have Ny101 := Aside0.mk hy101
 clear hy101
 by_cases c2 : 0 ≤ a0
 ·rw [if_pos c2] at H
  have cK : decide (0 ≤ a0) = true := decide_eq_true c2
  clear c2
  by_cases c3 : a0 < (cL.length : Int)
  ·rw [if_pos c3] at H
   have bU : decide (a0 < (cL.length : Int)) = true := decide_eq_true c3
   clear c3
   obtain rfl := Option.some.inj H
   go_enter Tryz.func75, Tryz.ntmps75
   go_wp2_with (first | ((with_reducible refine gate_dst (N := 3) rfl ?_); refine Kd.R_lit (Kd.int .i64) _ 3 ?hg (N := 3) ?hd (xs := ([0, 4, 16, 8] : List Int)) (inner := [.int .i64 0, .int .i64 4, .int .i64 16, .int .i64 8]) (ok := fun _ => True) (okp := fun _ => True) ?hr ?hp (fun _ hk => hk) trivial (Below.refl _ _) (Nat.le_refl _) Z27 ?_; (case hd => rfl); (case hg => rfl); (case hr => first | (go_simp; done) | (go_simp; rfl)); (case hp => exact (Reps.one (show Kd.M (Kd.int .i64) _ _ _ 0 [.int .i64 0] from rfl) (Reps.one (show Kd.M (Kd.int .i64) _ _ _ 4 [.int .i64 4] from rfl) (Reps.one (show Kd.M (Kd.int .i64) _ _ _ 16 [.int .i64 16] from rfl) (Reps.one (show Kd.M (Kd.int .i64) _ _ _ 8 [.int .i64 8] from rfl) (Reps.none _ _)))))); intro hU w4 ho5 hb hg_ hnew_; clear hg_ hnew_; (first | rw [← Ny101.out] at ho5 | (simp only [Int.reduceToNat] at ho5; rw [← Ny101.out] at ho5)); have eH := Aside0.mk (Kd.R_lower ho5 (below_size Z2)); replace HB := Aside0.mk (below_step Z2 hb); clear hb ho5; obtain ⟨iI, iJ, eo6⟩ := Kd.R_slice eH.out; subst eo6; have p104 : 0 ≤ (a0 : Int) := of_decide_eq_true Z7; have q104 : a0 < (cL.length : Int) := of_decide_eq_true Z7; obtain ⟨ad104, e104, hx104_0⟩ := Kd.at_int (Kd.R_reads' eH.out).2.2 a0 p104 q104; cases e104; replace p104 := eq_true p104; replace q104 := eq_true q104))
   go_ret
   exact ⟨Z5, Z2⟩
  ·rw [if_neg c3] at H
   exact absurd H Z27
 ·rw [if_neg c2] at H
  exact absurd H Z27

end Go.Proofs.YtnllanjoebjeiaaGreat.PV
