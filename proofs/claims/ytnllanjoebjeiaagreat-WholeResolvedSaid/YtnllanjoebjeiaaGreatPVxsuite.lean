-- Written by mp.py, a program of this work (wip/tools), out of the translation; Lean checks it.
import Derived.Test.YtnllanjoebjeiaaGreatPVxZ
import Derived.Test.YtnllanjoebjeiaaGreatPVxintake
import Derived.Test.YtnllanjoebjeiaaGreatPVxoutlet
import Derived.Test.YtnllanjoebjeiaaGreatStore
import Derived.Test.YtnllanjoebjeiaaGreatBox
namespace Go.Proofs.YtnllanjoebjeiaaGreat.PV
open Go.RowKit Go.Proofs.YtnllanjoebjeiaaGreatW.PrintWords Go.Proofs.YtnllanjoebjeiaaGreatW.PrintLast Go.Proofs.YtnllanjoebjeiaaGreatW.PrintMore
attribute [local go_sem] max2_int min2_int max_two min_two max_three min_three max_four min_four   -- for this text's walks alone
set_option linter.unusedVariables false
set_option linter.unusedSimpArgs false

/-! ### suite_Encode: function 11 -/
/-- What Babel's protocol does. -/
def suite_of.v : Array Value := #[.func (.func 29) #[] #[], .func (.func 22) #[] #[], .func (.func 15) #[] #[]]
theorem suite_of.calls (w : World) : Calls Tryz.prog 24 #[.int .i64 4] w fun e w' => e = .returned (.tuple #[.agg suite_of.v, .bool true]) ∧ Below w.heap.size w w' := by
 have HB := Below.refl w.heap.size w
 go_enter Tryz.func24, Tryz.ntmps24
 go_wp2_with (first | ((with_reducible refine Pre.gate_store 61 rfl ?_); refine Pre.store_event rfl rfl rfl Z16 Z16 (heap_alloc_new _ _) Z12 Z16 Z16 ?_; simp only [World.setCells, Nat.zero_add, Nat.reduceAdd]))
 refine bodyPost_ret (results_ct rfl _ _ w.heap.size 61 suite_of.v (0, 0) _ rfl ?_ Tryz.underlying61 rfl Z12) rfl ⟨rfl, ?_⟩
 ·exact blk_put (blk_put (blk_put (heap_alloc_new w _) 0 _ rfl) 1 _ rfl) 2 _ rfl
 ·exact below_set (below_set (below_set (below_alloc HB _) (Nat.le_refl _)) (Nat.le_refl _)) (Nat.le_refl _)
/-- Of Babel alone. -/
def suite_Encode.f (k : Nat) (a0 : Int) (l1 : List S32) : Option (ByteArray × Int × Int) := if a0 = 4 then outlet_Encode.f k l1 else none
theorem suite_Encode.mono : ∀ a0 l1 k, LeO (suite_Encode.f k a0 l1) (suite_Encode.f (k + 1) a0 l1) := by
 intro a0 l1 k
 unfold suite_Encode.f
 by_cases c : a0 = 4
 ·rw [if_pos c, if_pos c]; exact outlet_Encode.mono l1 k
 ·rw [if_neg c, if_neg c]; exact LeO.none _
set_option maxHeartbeats 8000000 in
set_option maxRecDepth 100000 in
theorem suite_Encode.calls (k : Nat) (a0 : Int) (A1 : Option Addr) (c1 : Nat) (l1 : List S32) (r1 : ByteArray) (r2 : Int) (r3 : Int) (w : World) (fv : Kd.C k32 w A1 l1.length l1) (fw : l1.length ≤ c1) (h : suite_Encode.f k a0 l1 = some (r1, r2, r3)) :
  Calls Tryz.prog 11 #[.int .i64 a0, .slice A1 l1.length c1] w fun e w' => e = .returned (.tuple #[.string r1, .int .i64 r2, .int .i64 r3]) ∧ Below w.heap.size w w' := by
 unfold suite_Encode.f at h
 by_cases c : a0 = 4
 rotate_left
 ·rw [if_neg c] at h; exact absurd h Z27
 subst c
 rw [if_pos rfl] at h
 have A1_ := Aside0.mk h
 have HR := Aside0.mk fv
 have HC := Aside0.mk fw
 have HB := Aside0.mk (Below.refl w.heap.size w)
 have hu61 := Tryz.underlying61
 clear h fv fw
 go_enter Tryz.func11, Tryz.ntmps11
 go_wp2_with (first | ((with_reducible refine gate_callee (f := 24) rfl ?_); refine goesL_ (some 11) rfl rfl Tryz.func24 Z12 rfl #[.int .i64 4] rfl (by (try simp only [List.map_toArray, List.map_cons, List.map_nil]); first | done | rfl) ?_; (with_reducible refine (suite_of.calls _).mono ?_); rintro e w6 ⟨rfl, hb⟩; refine ⟨_, rfl, ?_⟩; unfold suite_of.v; replace HB := Aside0.mk (below_step HB.out hb); clear hb) | ((with_reducible refine Pre.gate_store 61 rfl ?_); refine Pre.store_event rfl rfl rfl Z16 Z16 (heap_alloc_new _ _) Z12 Z16 Z16 ?_; simp only [World.setCells, Nat.zero_add, Nat.reduceAdd]) | (go_at_call 15; (with_reducible refine (outlet_Encode.calls k A1 c1 l1 r1 r2 r3 _ (Kd.C_below HR.out (below_alloc HB.out _)) HC.out A1_.out).mono ?_); rintro e w8 ⟨rfl, hb⟩; replace HB := Aside0.mk (below_step (below_alloc HB.out _) hb); clear hb))
 go_ret3
 exact ⟨rfl, HB.out⟩

/-! ### suite_Parse: function 13 -/
def suite_Parse.m : S32 := ⟨11, 0, 0, ⟨#[]⟩, 0, 1, ⟨#[10, 0, 0, 0]⟩, 8, 0, ⟨#[]⟩, 1, ⟨#[97, 98, 99, 100, 101, 102, 103, 104]⟩, 0, 0, 0, 0, 0, 0, 0, ⟨#[]⟩, ⟨#[]⟩, [], 0, ⟨#[]⟩, []⟩
/-- Of Babel and the example's datagram alone. -/
def suite_Parse.f (a0 : Int) (a1 : ByteArray) : Option (List S32 × Int × Int) := if a0 = 4 ∧ a1 = suite_Parse.b0 then some ([suite_Parse.m], 0, 0) else none
set_option maxHeartbeats 8000000 in
set_option maxRecDepth 100000 in
theorem suite_Parse.calls (a0 : Int) (a1 : ByteArray) (r1 : List S32) (r2 : Int) (r3 : Int) (w : World) (h : suite_Parse.f a0 a1 = some (r1, r2, r3)) :
  Calls Tryz.prog 13 #[.int .i64 a0, .string a1] w fun e w' => ∃ v0_ : Value, e = .returned (.tuple #[v0_, .int .i64 r2, .int .i64 r3]) ∧ Kd.S k32 32 w' w.heap.size (fun _ => True) v0_ r1 ∧ Below w.heap.size w w' := by
 unfold suite_Parse.f at h
 by_cases c : a0 = 4 ∧ a1 = suite_Parse.b0
 rotate_left
 ·rw [if_neg c] at h; exact absurd h Z27
 rw [if_pos c] at h
 obtain ⟨rfl, rfl⟩ := c
 simp only [Option.some.injEq, Prod.mk.injEq] at h
 obtain ⟨rfl, rfl, rfl⟩ := h
 have HO := Bx.start w
 have hu61 := Tryz.underlying61
 go_enter Tryz.func13, Tryz.ntmps13
 go_wp2_with (first | ((with_reducible refine gate_callee (f := 24) rfl ?_); refine goesL_ (some 11) rfl rfl Tryz.func24 Z12 rfl #[.int .i64 4] rfl (by (try simp only [List.map_toArray, List.map_cons, List.map_nil]); first | done | rfl) ?_; (with_reducible refine (suite_of.calls _).mono ?_); rintro e w8 ⟨rfl, hb⟩; refine ⟨_, rfl, ?_⟩; replace HO := Bx.stp HO hb; clear hb; unfold suite_of.v) | ((with_reducible refine gate_dst (N := 7) rfl ?_); refine Bx.mk 7 #[.nilFunc, .nilFunc, .nilFunc] 61 HO ?_; clear HO; intro g7 w7 HO) | ((with_reducible refine Pre.gate_store 61 rfl ?_); refine Bx.sts HO ?_; clear HO; intro w9 HO) | ((with_reducible refine Pre.gate_load 56 rfl ?_); (try (refine gate_guard Z16 ?_; dsimp only)); refine Bx.ld HO Tryz.underlying56 ?_) | (go_at_call 22; (with_reducible refine (intake_Parse.calls _ _ _ _ HO).mono ?_); clear HO; rintro e w8 ⟨v, b, rfl, hM, hT, HO⟩; have HM := Aside0.mk hM; have HT := Aside0.mk hT; clear hM hT))
 go_ret3
 refine ⟨_, rfl, ?_, Bx.fin HO⟩
 have h := Bx.rowS (d := k32) (x := suite_Parse.m) HM.out HO (fun ok => k32_mkM _ _ _ suite_Parse.m (Kd.R_nil _ _ _ _ _) (Kd.R_nil _ _ _ _ _))
 rwa [HT.out] at h

end Go.Proofs.YtnllanjoebjeiaaGreat.PV
