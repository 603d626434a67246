/-
The law roadbooklaw07.MsgLists: for every input the call returns true, and each argument reads as it read: the row, out of the pure statement.
-/
import Derived.Test.YtelcciekdoccfaaRows
import Derived.Test.YtelcciekdoccfaaQMsgLists
import Derived.Test.YtelcciekdoccfaaPureMsgLists
import Derived.WalkKit
import Derived.ProofKit
import Derived.OpenShut
import Derived.ShutString
import Derived.ChangeOld
import Derived.Below
import Derived.SizedLaws
namespace Go.Proofs.Ytelcciekdoccfaa.PM
open Go.RowKit Go.Proofs.YtelcciekdoccfaaW.PrintWords Go.Proofs.YtelcciekdoccfaaW.PrintLast
set_option linter.unusedVariables false
theorem roadbooklaw07_MsgLists.walk (P : roadbooklaw07_MsgLists.Pure) (A0 : Option Addr) (c0 : Nat) (l0 : List (S58)) (A1 : Option Addr) (c1 : Nat) (l1 : List (S58)) (w : World) (w0 : ((l0).length * 288 ≤ 140737488351232 ∧ ∀ x ∈ l0, good58 x)) (hr0 : Kd.C k58 w A0 l0.length l0) (hc0 : l0.length ≤ c0) (w1 : ((l1).length * 288 ≤ 140737488351232 ∧ ∀ x ∈ l1, good58 x)) (hr1 : Kd.C k58 w A1 l1.length l1) (hc1 : l1.length ≤ c1) :
    Calls Try.prog 16 #[.slice A0 l0.length c0, .slice A1 l1.length c1] w fun e w' => e = .returned (.bool true) ∧ Below w.heap.size w w' := by
  obtain ⟨k, h⟩ := P l0 l1 w0 w1
  refine (roadbooklaw07_MsgLists.calls k A0 c0 l0 A1 c1 l1 true w hr0 hc0 hr1 hc1 (Aside0.mk rfl) h).mono ?_
  rintro e w' ⟨rfl, hd⟩
  exact ⟨rfl, hd⟩
end Go.Proofs.Ytelcciekdoccfaa.PM
namespace Go.Proofs.Ytelcciekdoccfaa.msgLists
open Go.ChangeShapes Go.WideShapes Go.ChangeAt Go.RowKit Go.Proofs.Ytelcciekdoccfaa.Open Go.Proofs.Ytelcciekdoccfaa.PM
open Go.Proofs.YtelcciekdoccfaaW.PrintWords
open Go.ChangeMaps (open_string shut_string)
set_option linter.unusedVariables false
theorem own : ownKnob Try.prog.godebug = none := by kernel_rfl
theorem laidOut : laidOutB Try.prog = true := by kernel_rfl
set_option maxHeartbeats 4000000 in
set_option maxRecDepth 100000 in
theorem lifted (os : Os) (started : os.Started) (H : Type) (enc : TypeId × Value → H) :
    ReturnsInHanded {} Try.checked os 16 .any (Rows.msgListsSpec.pre6 enc Try.prog Try.f16 Rows.msgListsRow.domain false) (Rows.msgListsSpec.post enc Try.prog Try.f16 false true false false) := by
  refine returnsInHanded_of_change_sized (C := Try.checked) own started (by kernel_rfl) Try.func16
    (ChangeSpec.witness6 (enc := enc) (C := Try.checked) false ⟨#[], #[.slice none 0 0, .slice none 0 0], []⟩ 8 (by kernel_rfl) (by kernel_rfl) (by kernel_rfl) (by kernel_rfl)) ?_
  intro W base args ds gs before hval0 hW hcnd hsz0 _
  have hsz : (DataW.weightsEach Try.prog (Try.f16.params.toList ++ Rows.msgListsSpec.plain.varTypes Try.prog) (ds ++ gs)).all (· ≤ reachBytes) = true := hsz0
  have hval : ∀ (j : Nat) t v, Try.f16.params[j]? = some t → args[j]? = some v → Value.okWide Try.prog W .any base t v := hval0
  have hW' := hW
  obtain ⟨p, q, hA0, hV, rfl, hfz, hnd⟩ := hW
  have hA : DataW.TrodAll enc Try.prog W 0 (fun _ => true) true Try.f16.params.toList args.toList ds p := hA0
  rw [Try.params16] at hA hval hsz
  obtain ⟨v0, vs0, d0, ds0, p0, q0, hargs, rfl, rfl, h0, r0⟩ := trodAll_cons hA
  obtain ⟨v1, vs1, d1, ds1, p1, q1, rfl, rfl, rfl, h1, r1⟩ := trodAll_cons r0
  obtain ⟨rfl, rfl, rfl⟩ := trodAll_nil r1
  obtain rfl : args = #[v0, v1] := by cases args; simp_all
  obtain ⟨rfl, rfl⟩ := trodVars_none hV
  have k0 := h0
  have lt0 : ∀ x ∈ p0, x.block < W.heap.size := by obtain ⟨m, hm⟩ := k0; exact DataW.trod_lt m _ _ _ hm
  obtain ⟨a0, len0, cap0, rfl⟩ := okWide_slice Try.underlying74 (hval 0 74 v0 rfl rfl)
  obtain ⟨fuel0, hf0⟩ := h0
  obtain ⟨l0, ⟨A0, c0, e0, hc0, hr0⟩, w0⟩ := (show Opn Try.prog 74 (Kd.slice 58 k58) (fun l => l.length * 288 ≤ 140737488351232 ∧ ∀ x ∈ l, good58 x) from (Opn.slice (B := 288) Try.underlying74 (by kernel_rfl) o58 (by kernel_rfl))).opn hf0 (weights_of hsz (j := 0) (t := 74) rfl rfl)
  simp only [Value.cells, List.cons.injEq, Value.slice.injEq, and_true] at e0
  obtain ⟨rfl, rfl, rfl⟩ := e0
  have k1 := h1
  have lt1 : ∀ x ∈ p1, x.block < W.heap.size := by obtain ⟨m, hm⟩ := k1; exact DataW.trod_lt m _ _ _ hm
  obtain ⟨a1, len1, cap1, rfl⟩ := okWide_slice Try.underlying74 (hval 1 74 v1 rfl rfl)
  obtain ⟨fuel1, hf1⟩ := h1
  obtain ⟨l1, ⟨A1, c1, e1, hc1, hr1⟩, w1⟩ := (show Opn Try.prog 74 (Kd.slice 58 k58) (fun l => l.length * 288 ≤ 140737488351232 ∧ ∀ x ∈ l, good58 x) from (Opn.slice (B := 288) Try.underlying74 (by kernel_rfl) o58 (by kernel_rfl))).opn hf1 (weights_of hsz (j := 1) (t := 74) rfl rfl)
  simp only [Value.cells, List.cons.injEq, Value.slice.injEq, and_true] at e1
  obtain ⟨rfl, rfl, rfl⟩ := e1
  clear hA0 hval0 hsz0 hsz
  refine (roadbooklaw07_MsgLists.walk Pure.MsgLists a0 cap0 l0 a1 cap1 l1 W w0 hr0 hc0 w1 hr1 hc1).mono fun e W' ⟨he, bel⟩ => ?_
  subst he
  exact ⟨_, rfl, _, _, _, [], _, [], hW', trodAll_mk1 (shut_bool Try.underlying4 _), (trodAll_cons_mk (Below.trod laidOut (by kernel_rfl) (of_decide_eq_true (by kernel_rfl)) k0 bel lt0) (trodAll_cons_mk (Below.trod laidOut (by kernel_rfl) (of_decide_eq_true (by kernel_rfl)) k1 bel lt1) trodAll_mk0)), rfl, bel.frame _, fun h => by cases h⟩
theorem over : Rows.msgListsRow.holds Try.pinned (OpenSpec.ofChange Rows.msgListsSpec) :=
  OpenClaim.holds_of_wide 16 Try.f16 rfl rfl rfl rfl rfl rfl rfl ⟨rfl, rfl, rfl, rfl, rfl⟩ rfl rfl rfl rfl rfl (by kernel_rfl) Try.func16 (by kernel_rfl)
    (of_decide_eq_true (by kernel_rfl)) (by unfold Func.isWrapper; first | (rw [if_pos (by decide +kernel)]; kernel_rfl) | (rw [if_neg (by decide +kernel)]; exact ⟨rfl, rfl⟩))
    (fun os started H enc _ => lifted os started H enc)
theorem proved : Rows.MsgListsSaid := over
#print axioms proved
end Go.Proofs.Ytelcciekdoccfaa.msgLists
namespace Go.Proofs.Ytelcciekdoccfaa
/-- The row, under a short name, for the claim. -/
theorem msgLists_holds : Rows.MsgListsSaid := msgLists.proved
end Go.Proofs.Ytelcciekdoccfaa
