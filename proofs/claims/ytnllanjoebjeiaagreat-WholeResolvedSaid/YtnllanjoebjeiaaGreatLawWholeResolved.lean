/-
The law roadbooktop.WholeResolved: for every input the call returns true, and each argument reads as it read: the row, out of the pure statement.
-/
import Derived.Test.YtnllanjoebjeiaaGreatRows
import Derived.Test.YtnllanjoebjeiaaGreatQWholeResolved
import Derived.Test.YtnllanjoebjeiaaGreatPureWholeResolved
import Derived.WalkKit
import Derived.ProofKit
import Derived.OpenShut
import Derived.ShutString
import Derived.ChangeOld
import Derived.Below
import Derived.SizedLaws
namespace Go.Proofs.YtnllanjoebjeiaaGreat.PV
open Go.RowKit Go.Proofs.YtnllanjoebjeiaaGreatW.PrintWords Go.Proofs.YtnllanjoebjeiaaGreatW.PrintLast
set_option linter.unusedVariables false
theorem roadbooktop_WholeResolved.walk (P : roadbooktop_WholeResolved.Pure) (A0 : Option Addr) (c0 : Nat) (l0 : List (S32)) (w : World) (w0 : ((l0).length * 288 ≤ 140737488351232 ∧ ∀ x ∈ l0, good32 x)) (hr0 : Kd.C k32 w A0 l0.length l0) (hc0 : l0.length ≤ c0) :
    Calls Tryz.prog 5 #[.slice A0 l0.length c0] w fun e w' => e = .returned (.bool true) ∧ Below w.heap.size w w' := by
  obtain ⟨k, h⟩ := P l0 w0
  refine (roadbooktop_WholeResolved.calls k A0 c0 l0 true w hr0 hc0 (Aside0.mk rfl) h).mono ?_
  rintro e w' ⟨rfl, hd⟩
  exact ⟨rfl, hd⟩
end Go.Proofs.YtnllanjoebjeiaaGreat.PV
namespace Go.Proofs.YtnllanjoebjeiaaGreat.wholeResolved
open Go.ChangeShapes Go.WideShapes Go.ChangeAt Go.RowKit Go.Proofs.YtnllanjoebjeiaaGreat.Open Go.Proofs.YtnllanjoebjeiaaGreat.PV
open Go.Proofs.YtnllanjoebjeiaaGreatW.PrintWords
open Go.ChangeMaps (open_string shut_string)
set_option linter.unusedVariables false
theorem own : ownKnob Tryz.prog.godebug = none := by kernel_rfl
theorem laidOut : laidOutB Tryz.prog = true := by kernel_rfl
set_option maxHeartbeats 4000000 in
set_option maxRecDepth 100000 in
theorem lifted (os : Os) (started : os.Started) (H : Type) (enc : TypeId × Value → H) :
    ReturnsInHanded {} Tryz.checked os 5 .any (Rows.wholeResolvedSpec.pre6 enc Tryz.prog Tryz.f5 Rows.wholeResolvedRow.domain false) (Rows.wholeResolvedSpec.post enc Tryz.prog Tryz.f5 false true false false) := by
  refine returnsInHanded_of_change_sized (C := Tryz.checked) own started (by kernel_rfl) Tryz.func5
    (ChangeSpec.witness6 (enc := enc) (C := Tryz.checked) false ⟨#[], #[.slice none 0 0], []⟩ 8 (by kernel_rfl) (by kernel_rfl) (by kernel_rfl) (by kernel_rfl)) ?_
  intro W base args ds gs before hval0 hW hcnd hsz0 _
  have hsz : (DataW.weightsEach Tryz.prog (Tryz.f5.params.toList ++ Rows.wholeResolvedSpec.plain.varTypes Tryz.prog) (ds ++ gs)).all (· ≤ reachBytes) = true := hsz0
  have hval : ∀ (j : Nat) t v, Tryz.f5.params[j]? = some t → args[j]? = some v → Value.okWide Tryz.prog W .any base t v := hval0
  have hW' := hW
  obtain ⟨p, q, hA0, hV, rfl, hfz, hnd⟩ := hW
  have hA : DataW.TrodAll enc Tryz.prog W 0 (fun _ => true) true Tryz.f5.params.toList args.toList ds p := hA0
  rw [Tryz.params5] at hA hval hsz
  obtain ⟨v0, vs0, d0, ds0, p0, q0, hargs, rfl, rfl, h0, r0⟩ := trodAll_cons hA
  obtain ⟨rfl, rfl, rfl⟩ := trodAll_nil r0
  obtain rfl : args = #[v0] := by cases args; simp_all
  obtain ⟨rfl, rfl⟩ := trodVars_none hV
  have k0 := h0
  have lt0 : ∀ x ∈ p0, x.block < W.heap.size := by obtain ⟨m, hm⟩ := k0; exact DataW.trod_lt m _ _ _ hm
  obtain ⟨a0, len0, cap0, rfl⟩ := okWide_slice Tryz.underlying22 (hval 0 22 v0 rfl rfl)
  obtain ⟨fuel0, hf0⟩ := h0
  obtain ⟨l0, ⟨A0, c0, e0, hc0, hr0⟩, w0⟩ := (show Opn Tryz.prog 22 (Kd.slice 32 k32) (fun l => l.length * 288 ≤ 140737488351232 ∧ ∀ x ∈ l, good32 x) from (Opn.slice (B := 288) Tryz.underlying22 (by kernel_rfl) o32 (by kernel_rfl))).opn hf0 (weights_of hsz (j := 0) (t := 22) rfl rfl)
  simp only [Value.cells, List.cons.injEq, Value.slice.injEq, and_true] at e0
  obtain ⟨rfl, rfl, rfl⟩ := e0
  clear hA0 hval0 hsz0 hsz
  refine (roadbooktop_WholeResolved.walk Pure.WholeResolved a0 cap0 l0 W w0 hr0 hc0).mono fun e W' ⟨he, bel⟩ => ?_
  subst he
  exact ⟨_, rfl, _, _, _, [], _, [], hW', trodAll_mk1 (shut_bool Tryz.underlying4 _), (trodAll_cons_mk (Below.trod laidOut (by kernel_rfl) (of_decide_eq_true (by kernel_rfl)) k0 bel lt0) trodAll_mk0), rfl, bel.frame _, fun h => by cases h⟩
theorem over : Rows.wholeResolvedRow.holds Tryz.pinned (OpenSpec.ofChange Rows.wholeResolvedSpec) :=
  OpenClaim.holds_of_wide 5 Tryz.f5 rfl rfl rfl rfl rfl rfl rfl ⟨rfl, rfl, rfl, rfl, rfl⟩ rfl rfl rfl rfl rfl (by kernel_rfl) Tryz.func5 (by kernel_rfl)
    (of_decide_eq_true (by kernel_rfl)) (by unfold Func.isWrapper; first | (rw [if_pos (by decide +kernel)]; kernel_rfl) | (rw [if_neg (by decide +kernel)]; exact ⟨rfl, rfl⟩))
    (fun os started H enc _ => lifted os started H enc)
theorem proved : Rows.WholeResolvedSaid := over
#print axioms proved
end Go.Proofs.YtnllanjoebjeiaaGreat.wholeResolved
namespace Go.Proofs.YtnllanjoebjeiaaGreat
/-- The row, under a short name, for the claim. -/
theorem wholeResolved_holds : Rows.WholeResolvedSaid := wholeResolved.proved
end Go.Proofs.YtnllanjoebjeiaaGreat
