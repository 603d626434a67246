/-
The law roadbooklaw04.PrefixTells: for every input the call returns true, and each argument reads as it read: the row, out of the pure statement.
-/
import Derived.Test.YtelcciekdoccfaaRows
import Derived.Test.YtelcciekdoccfaaQPrefixTells
import Derived.Test.YtelcciekdoccfaaPurePrefixTells
import Derived.WalkKit
import Derived.ProofKit
import Derived.OpenShut
import Derived.ShutString
import Derived.ChangeOld
import Derived.Below
import Derived.SizedLaws
namespace Go.Proofs.Ytelcciekdoccfaa.PPrefixTells
open Go.RowKit Go.Proofs.YtelcciekdoccfaaW.PrintWords Go.Proofs.YtelcciekdoccfaaW.PrintLast
set_option linter.unusedVariables false
theorem roadbooklaw04_PrefixTells.walk (P : roadbooklaw04_PrefixTells.Pure) (a0_0 : ByteArray) (a0_1 : ByteArray) (a0_2 : Int) (a0_3 : Int) (w : World) (g0 : good35 (⟨a0_0, a0_1, a0_2, a0_3⟩ : S35)) :
    Calls Try.prog 5 #[.agg #[.string a0_0, .string a0_1, .int .i64 a0_2, .int .i64 a0_3]] w fun e w' => e = .returned (.bool true) ∧ Below w.heap.size w w' := by
  obtain ⟨k, h⟩ := P a0_0 a0_1 a0_2 a0_3 g0
  refine (roadbooklaw04_PrefixTells.calls k a0_0 a0_1 a0_2 a0_3 true w  (Aside0.mk rfl) h).mono ?_
  rintro e w' ⟨rfl, hd⟩
  exact ⟨rfl, hd⟩
end Go.Proofs.Ytelcciekdoccfaa.PPrefixTells
namespace Go.Proofs.Ytelcciekdoccfaa.prefixTells
open Go.ChangeShapes Go.WideShapes Go.ChangeAt Go.RowKit Go.Proofs.Ytelcciekdoccfaa.Open Go.Proofs.Ytelcciekdoccfaa.PPrefixTells
open Go.Proofs.YtelcciekdoccfaaW.PrintWords
open Go.ChangeMaps (open_string shut_string)
set_option linter.unusedVariables false
theorem own : ownKnob Try.prog.godebug = none := by kernel_rfl
theorem laidOut : laidOutB Try.prog = true := by kernel_rfl
set_option maxHeartbeats 4000000 in
set_option maxRecDepth 100000 in
theorem lifted (os : Os) (started : os.Started) (H : Type) (enc : TypeId × Value → H) :
    ReturnsInHanded {} Try.checked os 5 .any (Rows.prefixTellsSpec.pre6 enc Try.prog Try.f5 Rows.prefixTellsRow.domain false) (Rows.prefixTellsSpec.post enc Try.prog Try.f5 false true false false) := by
  refine returnsInHanded_of_change_sized (C := Try.checked) own started (by kernel_rfl) Try.func5
    (ChangeSpec.witness6 (enc := enc) (C := Try.checked) false ⟨#[], #[.agg #[.string ByteArray.empty, .string ByteArray.empty, .int .i64 0, .int .i64 0]], []⟩ 8 (by kernel_rfl) (by kernel_rfl) (by kernel_rfl) (by kernel_rfl)) ?_
  intro W base args ds gs before hval0 hW hcnd hsz0 _
  have hsz : (DataW.weightsEach Try.prog (Try.f5.params.toList ++ Rows.prefixTellsSpec.plain.varTypes Try.prog) (ds ++ gs)).all (· ≤ reachBytes) = true := hsz0
  have hval : ∀ (j : Nat) t v, Try.f5.params[j]? = some t → args[j]? = some v → Value.okWide Try.prog W .any base t v := hval0
  have hW' := hW
  obtain ⟨p, q, hA0, hV, rfl, hfz, hnd⟩ := hW
  have hA : DataW.TrodAll enc Try.prog W 0 (fun _ => true) true Try.f5.params.toList args.toList ds p := hA0
  rw [Try.params5] at hA hval hsz
  obtain ⟨v0, vs0, d0, ds0, p0, q0, hargs, rfl, rfl, h0, r0⟩ := trodAll_cons hA
  obtain ⟨rfl, rfl, rfl⟩ := trodAll_nil r0
  obtain rfl : args = #[v0] := by cases args; simp_all
  obtain ⟨rfl, rfl⟩ := trodVars_none hV
  have k0 := h0
  have lt0 : ∀ x ∈ p0, x.block < W.heap.size := by obtain ⟨m, hm⟩ := k0; exact DataW.trod_lt m _ _ _ hm
  obtain ⟨cs0, rfl, hz0⟩ := okWide_struct Try.underlying35 (hval 0 35 v0 rfl rfl)
  obtain ⟨fuel0, hf0⟩ := h0
  obtain ⟨b0, hK0, g0⟩ := o35.opn hf0 (weights_of hsz (j := 0) (t := 35) rfl rfl)
  obtain ⟨_, _, e0, rfl, ⟨_, _, rfl, rfl, ⟨_, _, rfl, rfl, rfl⟩⟩⟩ := hK0
  obtain rfl : cs0 = #[.string (b0.f0), .string (b0.f1), .int .i64 (b0.f2), .int .i64 (b0.f3)] := by
    apply Array.toList_inj.mp
    exact e0
  clear hA0 hval0 hsz0 hsz
  refine (roadbooklaw04_PrefixTells.walk Pure.PrefixTells (b0.f0) (b0.f1) (b0.f2) (b0.f3) W g0).mono fun e W' ⟨he, bel⟩ => ?_
  subst he
  exact ⟨_, rfl, _, _, _, [], _, [], hW', trodAll_mk1 (shut_bool Try.underlying4 _), (trodAll_cons_mk (Below.trod laidOut (by kernel_rfl) (of_decide_eq_true (by kernel_rfl)) k0 bel lt0) trodAll_mk0), rfl, bel.frame _, fun h => by cases h⟩
theorem over : Rows.prefixTellsRow.holds Try.pinned (OpenSpec.ofChange Rows.prefixTellsSpec) :=
  OpenClaim.holds_of_wide 5 Try.f5 rfl rfl rfl rfl rfl rfl rfl ⟨rfl, rfl, rfl, rfl, rfl⟩ rfl rfl rfl rfl rfl (by kernel_rfl) Try.func5 (by kernel_rfl)
    (of_decide_eq_true (by kernel_rfl)) (by unfold Func.isWrapper; first | (rw [if_pos (by decide +kernel)]; kernel_rfl) | (rw [if_neg (by decide +kernel)]; exact ⟨rfl, rfl⟩))
    (fun os started H enc _ => lifted os started H enc)
theorem proved : Rows.PrefixTellsSaid := over
#print axioms proved
end Go.Proofs.Ytelcciekdoccfaa.prefixTells
namespace Go.Proofs.Ytelcciekdoccfaa
/-- The row, under a short name, for the claim. -/
theorem prefixTells_holds : Rows.PrefixTellsSaid := prefixTells.proved
end Go.Proofs.Ytelcciekdoccfaa
