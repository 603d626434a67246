/-
The law roadbooklaw07.MsgTells: for every input the call returns true, and each argument reads as it read: the row, out of the pure statement.
-/
import Derived.Test.YtelcciekdoccfaaRows
import Derived.Test.YtelcciekdoccfaaQMsgTells
import Derived.Test.YtelcciekdoccfaaPureMsgTells
import Derived.WalkKit
import Derived.ProofKit
import Derived.OpenShut
import Derived.ShutString
import Derived.ChangeOld
import Derived.Below
import Derived.SizedLaws
namespace Go.Proofs.Ytelcciekdoccfaa.PM
open Go.RowKit Go.Proofs.YtelcciekdoccfaaW.PrintWords Go.Proofs.YtelcciekdoccfaaW.PrintLast
set_option linter.unusedVariables false
theorem roadbooklaw07_MsgTells.walk (P : roadbooklaw07_MsgTells.Pure) (a0_0 : Int) (a0_1 : Int) (a0_2 : Int) (a0_3 : ByteArray) (a0_4 : Int) (a0_5 : Int) (a0_6 : ByteArray) (a0_7 : Int) (a0_8 : Int) (a0_9 : ByteArray) (a0_10 : Int) (a0_11 : ByteArray) (a0_12 : Int) (a0_13 : Int) (a0_14 : Int) (a0_15 : Int) (a0_16 : Int) (a0_17 : Int) (a0_18 : Int) (a0_19 : ByteArray) (a0_20 : ByteArray) (A0_21 : Option Addr) (c0_21 : Nat) (l0_21 : List (S61)) (a0_22 : Int) (a0_23 : ByteArray) (A0_24 : Option Addr) (c0_24 : Nat) (l0_24 : List (S63)) (a1_0 : Int) (a1_1 : Int) (a1_2 : Int) (a1_3 : ByteArray) (a1_4 : Int) (a1_5 : Int) (a1_6 : ByteArray) (a1_7 : Int) (a1_8 : Int) (a1_9 : ByteArray) (a1_10 : Int) (a1_11 : ByteArray) (a1_12 : Int) (a1_13 : Int) (a1_14 : Int) (a1_15 : Int) (a1_16 : Int) (a1_17 : Int) (a1_18 : Int) (a1_19 : ByteArray) (a1_20 : ByteArray) (A1_21 : Option Addr) (c1_21 : Nat) (l1_21 : List (S61)) (a1_22 : Int) (a1_23 : ByteArray) (A1_24 : Option Addr) (c1_24 : Nat) (l1_24 : List (S63)) (a2_0 : Int) (a2_1 : Int) (w : World) (g0 : good58 (⟨a0_0, a0_1, a0_2, a0_3, a0_4, a0_5, a0_6, a0_7, a0_8, a0_9, a0_10, a0_11, a0_12, a0_13, a0_14, a0_15, a0_16, a0_17, a0_18, a0_19, a0_20, l0_21, a0_22, a0_23, l0_24⟩ : S58)) (hr0_21 : Kd.C k61 w A0_21 l0_21.length l0_21) (hc0_21 : l0_21.length ≤ c0_21) (hr0_24 : Kd.C k63 w A0_24 l0_24.length l0_24) (hc0_24 : l0_24.length ≤ c0_24) (g1 : good58 (⟨a1_0, a1_1, a1_2, a1_3, a1_4, a1_5, a1_6, a1_7, a1_8, a1_9, a1_10, a1_11, a1_12, a1_13, a1_14, a1_15, a1_16, a1_17, a1_18, a1_19, a1_20, l1_21, a1_22, a1_23, l1_24⟩ : S58)) (hr1_21 : Kd.C k61 w A1_21 l1_21.length l1_21) (hc1_21 : l1_21.length ≤ c1_21) (hr1_24 : Kd.C k63 w A1_24 l1_24.length l1_24) (hc1_24 : l1_24.length ≤ c1_24) (g2 : good65 (⟨a2_0, a2_1⟩ : S65)) :
    Calls Try.prog 12 #[.agg #[.int .i64 a0_0, .int .i64 a0_1, .int .i64 a0_2, .string a0_3, .int .i64 a0_4, .int .i64 a0_5, .string a0_6, .int .i64 a0_7, .int .i64 a0_8, .string a0_9, .int .i64 a0_10, .string a0_11, .int .i64 a0_12, .int .i64 a0_13, .int .i64 a0_14, .int .i64 a0_15, .int .i64 a0_16, .int .i64 a0_17, .int .i64 a0_18, .string a0_19, .string a0_20, .slice A0_21 l0_21.length c0_21, .int .i64 a0_22, .string a0_23, .slice A0_24 l0_24.length c0_24], .agg #[.int .i64 a1_0, .int .i64 a1_1, .int .i64 a1_2, .string a1_3, .int .i64 a1_4, .int .i64 a1_5, .string a1_6, .int .i64 a1_7, .int .i64 a1_8, .string a1_9, .int .i64 a1_10, .string a1_11, .int .i64 a1_12, .int .i64 a1_13, .int .i64 a1_14, .int .i64 a1_15, .int .i64 a1_16, .int .i64 a1_17, .int .i64 a1_18, .string a1_19, .string a1_20, .slice A1_21 l1_21.length c1_21, .int .i64 a1_22, .string a1_23, .slice A1_24 l1_24.length c1_24], .agg #[.int .i64 a2_0, .int .i64 a2_1]] w fun e w' => e = .returned (.bool true) ∧ Below w.heap.size w w' := by
  obtain ⟨k, h⟩ := P a0_0 a0_1 a0_2 a0_3 a0_4 a0_5 a0_6 a0_7 a0_8 a0_9 a0_10 a0_11 a0_12 a0_13 a0_14 a0_15 a0_16 a0_17 a0_18 a0_19 a0_20 l0_21 a0_22 a0_23 l0_24 a1_0 a1_1 a1_2 a1_3 a1_4 a1_5 a1_6 a1_7 a1_8 a1_9 a1_10 a1_11 a1_12 a1_13 a1_14 a1_15 a1_16 a1_17 a1_18 a1_19 a1_20 l1_21 a1_22 a1_23 l1_24 a2_0 a2_1 g0 g1 g2
  refine (roadbooklaw07_MsgTells.calls k a0_0 a0_1 a0_2 a0_3 a0_4 a0_5 a0_6 a0_7 a0_8 a0_9 a0_10 a0_11 a0_12 a0_13 a0_14 a0_15 a0_16 a0_17 a0_18 a0_19 a0_20 A0_21 c0_21 l0_21 a0_22 a0_23 A0_24 c0_24 l0_24 a1_0 a1_1 a1_2 a1_3 a1_4 a1_5 a1_6 a1_7 a1_8 a1_9 a1_10 a1_11 a1_12 a1_13 a1_14 a1_15 a1_16 a1_17 a1_18 a1_19 a1_20 A1_21 c1_21 l1_21 a1_22 a1_23 A1_24 c1_24 l1_24 a2_0 a2_1 true w hr0_21 hc0_21 hr0_24 hc0_24 hr1_21 hc1_21 hr1_24 hc1_24 (Aside0.mk rfl) h).mono ?_
  rintro e w' ⟨rfl, hd⟩
  exact ⟨rfl, hd⟩
end Go.Proofs.Ytelcciekdoccfaa.PM
namespace Go.Proofs.Ytelcciekdoccfaa.msgTells
open Go.ChangeShapes Go.WideShapes Go.ChangeAt Go.RowKit Go.Proofs.Ytelcciekdoccfaa.Open Go.Proofs.Ytelcciekdoccfaa.PM
open Go.Proofs.YtelcciekdoccfaaW.PrintWords
open Go.ChangeMaps (open_string shut_string)
set_option linter.unusedVariables false
theorem own : ownKnob Try.prog.godebug = none := by kernel_rfl
theorem laidOut : laidOutB Try.prog = true := by kernel_rfl
set_option maxHeartbeats 4000000 in
set_option maxRecDepth 100000 in
theorem lifted (os : Os) (started : os.Started) (H : Type) (enc : TypeId × Value → H) :
    ReturnsInHanded {} Try.checked os 12 .any (Rows.msgTellsSpec.pre6 enc Try.prog Try.f12 Rows.msgTellsRow.domain false) (Rows.msgTellsSpec.post enc Try.prog Try.f12 false true false false) := by
  refine returnsInHanded_of_change_sized (C := Try.checked) own started (by kernel_rfl) Try.func12
    (ChangeSpec.witness6 (enc := enc) (C := Try.checked) false ⟨#[], #[.agg #[.int .i64 0, .int .i64 0, .int .i64 0, .string ByteArray.empty, .int .i64 0, .int .i64 0, .string ByteArray.empty, .int .i64 0, .int .i64 0, .string ByteArray.empty, .int .i64 0, .string ByteArray.empty, .int .i64 0, .int .i64 0, .int .i64 0, .int .i64 0, .int .i64 0, .int .i64 0, .int .i64 0, .string ByteArray.empty, .string ByteArray.empty, .slice none 0 0, .int .i64 0, .string ByteArray.empty, .slice none 0 0], .agg #[.int .i64 0, .int .i64 0, .int .i64 0, .string ByteArray.empty, .int .i64 0, .int .i64 0, .string ByteArray.empty, .int .i64 0, .int .i64 0, .string ByteArray.empty, .int .i64 0, .string ByteArray.empty, .int .i64 0, .int .i64 0, .int .i64 0, .int .i64 0, .int .i64 0, .int .i64 0, .int .i64 0, .string ByteArray.empty, .string ByteArray.empty, .slice none 0 0, .int .i64 0, .string ByteArray.empty, .slice none 0 0], .agg #[.int .i64 0, .int .i64 0]], []⟩ 8 (by kernel_rfl) (by kernel_rfl) (by kernel_rfl) (by kernel_rfl)) ?_
  intro W base args ds gs before hval0 hW hcnd hsz0 _
  have hsz : (DataW.weightsEach Try.prog (Try.f12.params.toList ++ Rows.msgTellsSpec.plain.varTypes Try.prog) (ds ++ gs)).all (· ≤ reachBytes) = true := hsz0
  have hval : ∀ (j : Nat) t v, Try.f12.params[j]? = some t → args[j]? = some v → Value.okWide Try.prog W .any base t v := hval0
  have hW' := hW
  obtain ⟨p, q, hA0, hV, rfl, hfz, hnd⟩ := hW
  have hA : DataW.TrodAll enc Try.prog W 0 (fun _ => true) true Try.f12.params.toList args.toList ds p := hA0
  rw [Try.params12] at hA hval hsz
  obtain ⟨v0, vs0, d0, ds0, p0, q0, hargs, rfl, rfl, h0, r0⟩ := trodAll_cons hA
  obtain ⟨v1, vs1, d1, ds1, p1, q1, rfl, rfl, rfl, h1, r1⟩ := trodAll_cons r0
  obtain ⟨v2, vs2, d2, ds2, p2, q2, rfl, rfl, rfl, h2, r2⟩ := trodAll_cons r1
  obtain ⟨rfl, rfl, rfl⟩ := trodAll_nil r2
  obtain rfl : args = #[v0, v1, v2] := by cases args; simp_all
  obtain ⟨rfl, rfl⟩ := trodVars_none hV
  have k0 := h0
  have lt0 : ∀ x ∈ p0, x.block < W.heap.size := by obtain ⟨m, hm⟩ := k0; exact DataW.trod_lt m _ _ _ hm
  obtain ⟨cs0, rfl, hz0⟩ := okWide_struct Try.underlying58 (hval 0 58 v0 rfl rfl)
  obtain ⟨fuel0, hf0⟩ := h0
  obtain ⟨b0, hK0, g0⟩ := o58.opn hf0 (weights_of hsz (j := 0) (t := 58) rfl rfl)
  obtain ⟨_, _, e0, rfl, ⟨_, _, rfl, rfl, ⟨_, _, rfl, rfl, ⟨_, _, rfl, rfl, ⟨_, _, rfl, rfl, ⟨_, _, rfl, rfl, ⟨_, _, rfl, rfl, ⟨_, _, rfl, rfl, ⟨_, _, rfl, rfl, ⟨_, _, rfl, rfl, ⟨_, _, rfl, rfl, ⟨_, _, rfl, rfl, ⟨_, _, rfl, rfl, ⟨_, _, rfl, rfl, ⟨_, _, rfl, rfl, ⟨_, _, rfl, rfl, ⟨_, _, rfl, rfl, ⟨_, _, rfl, rfl, ⟨_, _, rfl, rfl, ⟨_, _, rfl, rfl, ⟨_, _, rfl, rfl, ⟨_, _, rfl, ⟨A0_21, c0_21, rfl, hc0_21, hr0_21⟩, ⟨_, _, rfl, rfl, ⟨_, _, rfl, rfl, ⟨A0_24, c0_24, rfl, hc0_24, hr0_24⟩⟩⟩⟩⟩⟩⟩⟩⟩⟩⟩⟩⟩⟩⟩⟩⟩⟩⟩⟩⟩⟩⟩⟩⟩ := hK0
  obtain rfl : cs0 = #[.int .i64 (b0.f0), .int .i64 (b0.f1), .int .i64 (b0.f2), .string (b0.f3), .int .i64 (b0.f4), .int .i64 (b0.f5), .string (b0.f6), .int .i64 (b0.f7), .int .i64 (b0.f8), .string (b0.f9), .int .i64 (b0.f10), .string (b0.f11), .int .i64 (b0.f12), .int .i64 (b0.f13), .int .i64 (b0.f14), .int .i64 (b0.f15), .int .i64 (b0.f16), .int .i64 (b0.f17), .int .i64 (b0.f18), .string (b0.f19), .string (b0.f20), .slice A0_21 (b0.f21).length c0_21, .int .i64 (b0.f22), .string (b0.f23), .slice A0_24 (b0.f24).length c0_24] := by
    apply Array.toList_inj.mp
    exact e0
  have k1 := h1
  have lt1 : ∀ x ∈ p1, x.block < W.heap.size := by obtain ⟨m, hm⟩ := k1; exact DataW.trod_lt m _ _ _ hm
  obtain ⟨cs1, rfl, hz1⟩ := okWide_struct Try.underlying58 (hval 1 58 v1 rfl rfl)
  obtain ⟨fuel1, hf1⟩ := h1
  obtain ⟨b1, hK1, g1⟩ := o58.opn hf1 (weights_of hsz (j := 1) (t := 58) rfl rfl)
  obtain ⟨_, _, e1, rfl, ⟨_, _, rfl, rfl, ⟨_, _, rfl, rfl, ⟨_, _, rfl, rfl, ⟨_, _, rfl, rfl, ⟨_, _, rfl, rfl, ⟨_, _, rfl, rfl, ⟨_, _, rfl, rfl, ⟨_, _, rfl, rfl, ⟨_, _, rfl, rfl, ⟨_, _, rfl, rfl, ⟨_, _, rfl, rfl, ⟨_, _, rfl, rfl, ⟨_, _, rfl, rfl, ⟨_, _, rfl, rfl, ⟨_, _, rfl, rfl, ⟨_, _, rfl, rfl, ⟨_, _, rfl, rfl, ⟨_, _, rfl, rfl, ⟨_, _, rfl, rfl, ⟨_, _, rfl, rfl, ⟨_, _, rfl, ⟨A1_21, c1_21, rfl, hc1_21, hr1_21⟩, ⟨_, _, rfl, rfl, ⟨_, _, rfl, rfl, ⟨A1_24, c1_24, rfl, hc1_24, hr1_24⟩⟩⟩⟩⟩⟩⟩⟩⟩⟩⟩⟩⟩⟩⟩⟩⟩⟩⟩⟩⟩⟩⟩⟩⟩ := hK1
  obtain rfl : cs1 = #[.int .i64 (b1.f0), .int .i64 (b1.f1), .int .i64 (b1.f2), .string (b1.f3), .int .i64 (b1.f4), .int .i64 (b1.f5), .string (b1.f6), .int .i64 (b1.f7), .int .i64 (b1.f8), .string (b1.f9), .int .i64 (b1.f10), .string (b1.f11), .int .i64 (b1.f12), .int .i64 (b1.f13), .int .i64 (b1.f14), .int .i64 (b1.f15), .int .i64 (b1.f16), .int .i64 (b1.f17), .int .i64 (b1.f18), .string (b1.f19), .string (b1.f20), .slice A1_21 (b1.f21).length c1_21, .int .i64 (b1.f22), .string (b1.f23), .slice A1_24 (b1.f24).length c1_24] := by
    apply Array.toList_inj.mp
    exact e1
  have k2 := h2
  have lt2 : ∀ x ∈ p2, x.block < W.heap.size := by obtain ⟨m, hm⟩ := k2; exact DataW.trod_lt m _ _ _ hm
  obtain ⟨cs2, rfl, hz2⟩ := okWide_array Try.underlying65 (hval 2 65 v2 rfl rfl)
  obtain ⟨fuel2, hf2⟩ := h2
  obtain ⟨b2, hK2, g2⟩ := o65.opn hf2 (weights_of hsz (j := 2) (t := 65) rfl rfl)
  obtain ⟨_, _, e2, rfl, rfl⟩ := hK2
  obtain rfl : cs2 = #[.int .i64 (b2.f0), .int .i64 (b2.f1)] := by
    apply Array.toList_inj.mp
    exact e2
  clear hA0 hval0 hsz0 hsz
  refine (roadbooklaw07_MsgTells.walk Pure.MsgTells (b0.f0) (b0.f1) (b0.f2) (b0.f3) (b0.f4) (b0.f5) (b0.f6) (b0.f7) (b0.f8) (b0.f9) (b0.f10) (b0.f11) (b0.f12) (b0.f13) (b0.f14) (b0.f15) (b0.f16) (b0.f17) (b0.f18) (b0.f19) (b0.f20) A0_21 c0_21 (b0.f21) (b0.f22) (b0.f23) A0_24 c0_24 (b0.f24) (b1.f0) (b1.f1) (b1.f2) (b1.f3) (b1.f4) (b1.f5) (b1.f6) (b1.f7) (b1.f8) (b1.f9) (b1.f10) (b1.f11) (b1.f12) (b1.f13) (b1.f14) (b1.f15) (b1.f16) (b1.f17) (b1.f18) (b1.f19) (b1.f20) A1_21 c1_21 (b1.f21) (b1.f22) (b1.f23) A1_24 c1_24 (b1.f24) (b2.f0) (b2.f1) W g0 hr0_21 hc0_21 hr0_24 hc0_24 g1 hr1_21 hc1_21 hr1_24 hc1_24 g2).mono fun e W' ⟨he, bel⟩ => ?_
  subst he
  exact ⟨_, rfl, _, _, _, [], _, [], hW', trodAll_mk1 (shut_bool Try.underlying4 _), (trodAll_cons_mk (Below.trod laidOut (by kernel_rfl) (of_decide_eq_true (by kernel_rfl)) k0 bel lt0) (trodAll_cons_mk (Below.trod laidOut (by kernel_rfl) (of_decide_eq_true (by kernel_rfl)) k1 bel lt1) (trodAll_cons_mk (Below.trod laidOut (by kernel_rfl) (of_decide_eq_true (by kernel_rfl)) k2 bel lt2) trodAll_mk0))), rfl, bel.frame _, fun h => by cases h⟩
theorem over : Rows.msgTellsRow.holds Try.pinned (OpenSpec.ofChange Rows.msgTellsSpec) :=
  OpenClaim.holds_of_wide 12 Try.f12 rfl rfl rfl rfl rfl rfl rfl ⟨rfl, rfl, rfl, rfl, rfl⟩ rfl rfl rfl rfl rfl (by kernel_rfl) Try.func12 (by kernel_rfl)
    (of_decide_eq_true (by kernel_rfl)) (by unfold Func.isWrapper; first | (rw [if_pos (by decide +kernel)]; kernel_rfl) | (rw [if_neg (by decide +kernel)]; exact ⟨rfl, rfl⟩))
    (fun os started H enc _ => lifted os started H enc)
theorem proved : Rows.MsgTellsSaid := over
#print axioms proved
end Go.Proofs.Ytelcciekdoccfaa.msgTells
namespace Go.Proofs.Ytelcciekdoccfaa
/-- The row, under a short name, for the claim. -/
theorem msgTells_holds : Rows.MsgTellsSaid := msgTells.proved
end Go.Proofs.Ytelcciekdoccfaa
