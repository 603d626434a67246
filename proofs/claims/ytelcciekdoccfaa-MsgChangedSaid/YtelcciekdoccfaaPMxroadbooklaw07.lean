-- Written by mp.py, a program of this work (wip/tools), out of the translation; Lean checks it.
import Derived.Test.YtelcciekdoccfaaPMxZ
import Derived.Test.YtelcciekdoccfaaPMxmsgBare
import Derived.Test.YtelcciekdoccfaaPMxmsgBytes
import Derived.Test.YtelcciekdoccfaaPMxmsgSame
namespace Go.Proofs.Ytelcciekdoccfaa.PM
open Go.RowKit Go.Proofs.YtelcciekdoccfaaW.PrintWords Go.Proofs.YtelcciekdoccfaaW.PrintLast Go.Proofs.YtelcciekdoccfaaW.PrintMore
attribute [local go_sem] max2_int min2_int max_two min_two max_three min_three max_four min_four   -- for this text's walks alone
set_option linter.unusedVariables false
set_option linter.unusedSimpArgs false

/-! ### roadbooklaw07_awake: function 49 -/
def roadbooklaw07_awake.f (k : Nat)  : Option (Bool) := (msg_Bare.f 8 0 0 (⟨#[]⟩ : ByteArray) 0 0 (⟨#[]⟩ : ByteArray) 0 0 (⟨#[]⟩ : ByteArray) 0 (⟨#[]⟩ : ByteArray) 0 0 0 0 0 7 0 (⟨#[]⟩ : ByteArray) (⟨#[]⟩ : ByteArray) ([] : List (S61)) 0 (⟨#[]⟩ : ByteArray) ([] : List (S63))).bind fun fo => (if fo = true then ((msg_Bare.f 8 0 0 (⟨#[]⟩ : ByteArray) 0 0 (⟨#[]⟩ : ByteArray) 0 0 (⟨#[]⟩ : ByteArray) 0 (⟨#[]⟩ : ByteArray) 1 0 0 0 0 0 0 (⟨#[]⟩ : ByteArray) (⟨#[]⟩ : ByteArray) ([] : List (S61)) 0 (⟨#[]⟩ : ByteArray) ([] : List (S63))).bind fun dy => (if dy = true then (some false) else ((msg_Same.f k 3 0 0 (⟨#[]⟩ : ByteArray) 0 0 (⟨#[]⟩ : ByteArray) 0 0 (⟨#[]⟩ : ByteArray) 0 (⟨#[]⟩ : ByteArray) 0 0 0 0 0 0 0 (⟨#[]⟩ : ByteArray) (⟨#[]⟩ : ByteArray) ([] : List (S61)) 0 (⟨#[]⟩ : ByteArray) ([] : List (S63)) 3 0 0 (⟨#[]⟩ : ByteArray) 0 0 (⟨#[]⟩ : ByteArray) 0 0 (⟨#[]⟩ : ByteArray) 0 (⟨#[]⟩ : ByteArray) 0 0 0 0 0 0 0 (⟨#[]⟩ : ByteArray) (⟨#[]⟩ : ByteArray) ([] : List (S61)) 0 (⟨#[]⟩ : ByteArray) ([] : List (S63))).bind fun cC => (if cC = true then ((msg_Bytes.f k (([(⟨2, (⟨#[97, 98, 99]⟩ : ByteArray)⟩ : S63)] : List (S63)))).bind fun cK => (some (cK == 5))) else (some false))))) else (some false))
theorem roadbooklaw07_awake.mono : ∀ k, LeO (roadbooklaw07_awake.f k ) (roadbooklaw07_awake.f (k + 1) ) := by
 intro  k
 unfold roadbooklaw07_awake.f
 repeat' first
   | (with_reducible exact msg_Bytes.mono _ _)
   | (with_reducible exact msg_Same.mono _ _ _ _ _ _ _ _ _ _ _ _ _ _ _ _ _ _ _ _ _ _ _ _ _ _ _ _ _ _ _ _ _ _ _ _ _ _ _ _ _ _ _ _ _ _ _ _ _ _ _)
   | (with_reducible exact LeO.refl _)
   | (with_reducible exact LeO.none _)
   | (with_reducible refine LeO.ite ?_ ?_)
   | (with_reducible refine LeO.bind ?_ (fun _ => ?_))
   | exact msg_Bytes.mono _ _
   | exact msg_Same.mono _ _ _ _ _ _ _ _ _ _ _ _ _ _ _ _ _ _ _ _ _ _ _ _ _ _ _ _ _ _ _ _ _ _ _ _ _ _ _ _ _ _ _ _ _ _ _ _ _ _ _
   | exact LeO.none _
   | refine LeO.ite ?_ ?_
   | refine LeO.bind ?_ (fun _ => ?_)
set_option maxRecDepth 100000 in
theorem roadbooklaw07_awake.bd1 (v0 : Int) (ft : Int) : Try.prog.built 58 [(0, .int .i64 v0), (17, .int .i64 ft)] = some #[.int .i64 v0, .int .i64 0, .int .i64 0, .string ⟨#[]⟩, .int .i64 0, .int .i64 0, .string ⟨#[]⟩, .int .i64 0, .int .i64 0, .string ⟨#[]⟩, .int .i64 0, .string ⟨#[]⟩, .int .i64 0, .int .i64 0, .int .i64 0, .int .i64 0, .int .i64 0, .int .i64 ft, .int .i64 0, .string ⟨#[]⟩, .string ⟨#[]⟩, .slice none 0 0, .int .i64 0, .string ⟨#[]⟩, .slice none 0 0] := by kernel_rfl
set_option maxRecDepth 100000 in
theorem roadbooklaw07_awake.bd4 (v0 : Int) (fu : Int) : Try.prog.built 58 [(0, .int .i64 v0), (12, .int .i64 fu)] = some #[.int .i64 v0, .int .i64 0, .int .i64 0, .string ⟨#[]⟩, .int .i64 0, .int .i64 0, .string ⟨#[]⟩, .int .i64 0, .int .i64 0, .string ⟨#[]⟩, .int .i64 0, .string ⟨#[]⟩, .int .i64 fu, .int .i64 0, .int .i64 0, .int .i64 0, .int .i64 0, .int .i64 0, .int .i64 0, .string ⟨#[]⟩, .string ⟨#[]⟩, .slice none 0 0, .int .i64 0, .string ⟨#[]⟩, .slice none 0 0] := by kernel_rfl
set_option maxHeartbeats 8000000 in
set_option maxRecDepth 100000 in
theorem roadbooklaw07_awake.calls (k : Nat)  (r : Bool) (w : World) (hr_ : Aside0 (r = true)) (h : roadbooklaw07_awake.f k  = some r) :
  Calls Try.prog 49 #[] w fun e w' => e = .returned (.bool r) ∧ Below w.heap.size w w' := by
 have fp := Try.underlying58
 have fO := Try.underlying63
 have HB := Aside0.mk (Below.refl w.heap.size w)
 have H : ((msg_Bare.f 8 0 0 (⟨#[]⟩ : ByteArray) 0 0 (⟨#[]⟩ : ByteArray) 0 0 (⟨#[]⟩ : ByteArray) 0 (⟨#[]⟩ : ByteArray) 0 0 0 0 0 7 0 (⟨#[]⟩ : ByteArray) (⟨#[]⟩ : ByteArray) ([] : List (S61)) 0 (⟨#[]⟩ : ByteArray) ([] : List (S63))).bind fun fo => (if fo = true then ((msg_Bare.f 8 0 0 (⟨#[]⟩ : ByteArray) 0 0 (⟨#[]⟩ : ByteArray) 0 0 (⟨#[]⟩ : ByteArray) 0 (⟨#[]⟩ : ByteArray) 1 0 0 0 0 0 0 (⟨#[]⟩ : ByteArray) (⟨#[]⟩ : ByteArray) ([] : List (S61)) 0 (⟨#[]⟩ : ByteArray) ([] : List (S63))).bind fun dy => (if dy = true then (some false) else ((msg_Same.f k 3 0 0 (⟨#[]⟩ : ByteArray) 0 0 (⟨#[]⟩ : ByteArray) 0 0 (⟨#[]⟩ : ByteArray) 0 (⟨#[]⟩ : ByteArray) 0 0 0 0 0 0 0 (⟨#[]⟩ : ByteArray) (⟨#[]⟩ : ByteArray) ([] : List (S61)) 0 (⟨#[]⟩ : ByteArray) ([] : List (S63)) 3 0 0 (⟨#[]⟩ : ByteArray) 0 0 (⟨#[]⟩ : ByteArray) 0 0 (⟨#[]⟩ : ByteArray) 0 (⟨#[]⟩ : ByteArray) 0 0 0 0 0 0 0 (⟨#[]⟩ : ByteArray) (⟨#[]⟩ : ByteArray) ([] : List (S61)) 0 (⟨#[]⟩ : ByteArray) ([] : List (S63))).bind fun cC => (if cC = true then ((msg_Bytes.f k (([(⟨2, (⟨#[97, 98, 99]⟩ : ByteArray)⟩ : S63)] : List (S63)))).bind fun cK => (some (cK == 5))) else (some false))))) else (some false))) = some r := h
 clear h
 replace H := Option.bind_eq_some_iff.mp H
 obtain ⟨fo, iA, H⟩ := H
 replace H : (if fo = true then ((msg_Bare.f 8 0 0 (⟨#[]⟩ : ByteArray) 0 0 (⟨#[]⟩ : ByteArray) 0 0 (⟨#[]⟩ : ByteArray) 0 (⟨#[]⟩ : ByteArray) 1 0 0 0 0 0 0 (⟨#[]⟩ : ByteArray) (⟨#[]⟩ : ByteArray) ([] : List (S61)) 0 (⟨#[]⟩ : ByteArray) ([] : List (S63))).bind fun dy => (if dy = true then (some false) else ((msg_Same.f k 3 0 0 (⟨#[]⟩ : ByteArray) 0 0 (⟨#[]⟩ : ByteArray) 0 0 (⟨#[]⟩ : ByteArray) 0 (⟨#[]⟩ : ByteArray) 0 0 0 0 0 0 0 (⟨#[]⟩ : ByteArray) (⟨#[]⟩ : ByteArray) ([] : List (S61)) 0 (⟨#[]⟩ : ByteArray) ([] : List (S63)) 3 0 0 (⟨#[]⟩ : ByteArray) 0 0 (⟨#[]⟩ : ByteArray) 0 0 (⟨#[]⟩ : ByteArray) 0 (⟨#[]⟩ : ByteArray) 0 0 0 0 0 0 0 (⟨#[]⟩ : ByteArray) (⟨#[]⟩ : ByteArray) ([] : List (S61)) 0 (⟨#[]⟩ : ByteArray) ([] : List (S63))).bind fun cC => (if cC = true then ((msg_Bytes.f k (([(⟨2, (⟨#[97, 98, 99]⟩ : ByteArray)⟩ : S63)] : List (S63)))).bind fun cK => (some (cK == 5))) else (some false))))) else (some false)) = some r := H
 have A1 := Aside0.mk iA
 clear iA
 by_cases c2 : fo = true
 ·subst c2
  replace H := Sq.itT H
  replace H := Option.bind_eq_some_iff.mp H
  obtain ⟨dy, hC, H⟩ := H
  replace H : (if dy = true then (some false) else ((msg_Same.f k 3 0 0 (⟨#[]⟩ : ByteArray) 0 0 (⟨#[]⟩ : ByteArray) 0 0 (⟨#[]⟩ : ByteArray) 0 (⟨#[]⟩ : ByteArray) 0 0 0 0 0 0 0 (⟨#[]⟩ : ByteArray) (⟨#[]⟩ : ByteArray) ([] : List (S61)) 0 (⟨#[]⟩ : ByteArray) ([] : List (S63)) 3 0 0 (⟨#[]⟩ : ByteArray) 0 0 (⟨#[]⟩ : ByteArray) 0 0 (⟨#[]⟩ : ByteArray) 0 (⟨#[]⟩ : ByteArray) 0 0 0 0 0 0 0 (⟨#[]⟩ : ByteArray) (⟨#[]⟩ : ByteArray) ([] : List (S61)) 0 (⟨#[]⟩ : ByteArray) ([] : List (S63))).bind fun cC => (if cC = true then ((msg_Bytes.f k (([(⟨2, (⟨#[97, 98, 99]⟩ : ByteArray)⟩ : S63)] : List (S63)))).bind fun cK => (some (cK == 5))) else (some false)))) = some r := H
  have A3 := Aside0.mk hC
  clear hC
  by_cases c4 : dy = true
  ·subst c4
   replace H := Sq.itT H
   exact absurd (Option.some.inj H) (by rw [hr_.out]; exact Bool.false_ne_true)
  ·replace c4 := Bool.eq_false_iff.mpr c4
   subst c4
   replace H := Sq.itF H
   replace H := Option.bind_eq_some_iff.mp H
   obtain ⟨cC, iB, H⟩ := H
   replace H : (if cC = true then ((msg_Bytes.f k (([(⟨2, (⟨#[97, 98, 99]⟩ : ByteArray)⟩ : S63)] : List (S63)))).bind fun cK => (some (cK == 5))) else (some false)) = some r := H
   have A5 := Aside0.mk iB
   clear iB
   by_cases c6 : cC = true
   ·subst c6
    replace H := Sq.itT H
    obtain ⟨hD, hy104⟩ : ∃ y_ : List (S63), y_ = (([(⟨2, (⟨#[97, 98, 99]⟩ : ByteArray)⟩ : S63)] : List (S63))) := ⟨_, rfl⟩
    replace H : ((msg_Bytes.f k hD).bind fun cK => (some (cK == 5))) = some r := by first | (rw [hy104]; with_reducible exact H) | (have H2_ := (Option.bind_some _ _).symm.trans H; rw [hy104]; with_reducible exact H2_) | (have H2_ := (Option.bind_some _ _).symm.trans H; with_reducible exact H2_) | with_reducible exact H | (rw [hy104]; exact H) | exact H
    have Ny104 := Aside0.mk hy104
    clear hy104
    replace H := Option.bind_eq_some_iff.mp H
    obtain ⟨cK, hF, H⟩ := H
    replace H : (some (cK == 5)) = some r := H
    have A7 := Aside0.mk hF
    clear hF
    obtain rfl := Option.some.inj H
    go_enter Try.func49, Try.ntmps49
    go_wp2_with (first | ((with_reducible refine gate_dst (N := 1) rfl ?_); refine Pre.build_event 1 58 [(0, Go.Operand.const (Go.Value.int Go.IntKind.i64 8)), (17, Go.Operand.const (Go.Value.int Go.IntKind.i64 7))] rfl rfl rfl (roadbooklaw07_awake.bd1 _ _) ?_) | ((with_reducible refine gate_dst (N := 4) rfl ?_); refine Pre.build_event 4 58 [(0, Go.Operand.const (Go.Value.int Go.IntKind.i64 8)), (12, Go.Operand.const (Go.Value.int Go.IntKind.i64 1))] rfl rfl rfl (roadbooklaw07_awake.bd4 _ _) ?_) | ((with_reducible refine gate_callee (f := 51) rfl ?_); refine goesL_ (some 2) rfl rfl Try.func51 Z5 rfl #[.agg #[.int .i64 8, .int .i64 0, .int .i64 0, .string ⟨#[]⟩, .int .i64 0, .int .i64 0, .string ⟨#[]⟩, .int .i64 0, .int .i64 0, .string ⟨#[]⟩, .int .i64 0, .string ⟨#[]⟩, .int .i64 0, .int .i64 0, .int .i64 0, .int .i64 0, .int .i64 0, .int .i64 7, .int .i64 0, .string ⟨#[]⟩, .string ⟨#[]⟩, .slice none 0 0, .int .i64 0, .string ⟨#[]⟩, .slice none 0 0]] rfl Z9 ?_; (refine (msg_Bare.calls 8 0 0 (⟨#[]⟩ : ByteArray) 0 0 (⟨#[]⟩ : ByteArray) 0 0 (⟨#[]⟩ : ByteArray) 0 (⟨#[]⟩ : ByteArray) 0 0 0 0 0 7 0 (⟨#[]⟩ : ByteArray) (⟨#[]⟩ : ByteArray) _ _ ([] : List (S61)) 0 (⟨#[]⟩ : ByteArray) _ _ ([] : List (S63)) true _ ?side1 ?side2 ?side3 ?side4 A1.out).mono ?_); (case side1 => exact Kd.C_nil _ _); (case side2 => exact Nat.le_refl _); (case side3 => exact Kd.C_nil _ _); (case side4 => exact Nat.le_refl _); rintro e w8 ⟨rfl, hb⟩; refine ⟨_, rfl, ?_⟩; have aH := Aside0.mk (below_step Z0 hb); replace HB := aH; clear aH; (try clear hb); (try clear hb2); (try clear hk); (try clear hi)) | (go_at_call 51; (refine (msg_Bare.calls 8 0 0 (⟨#[]⟩ : ByteArray) 0 0 (⟨#[]⟩ : ByteArray) 0 0 (⟨#[]⟩ : ByteArray) 0 (⟨#[]⟩ : ByteArray) 1 0 0 0 0 0 0 (⟨#[]⟩ : ByteArray) (⟨#[]⟩ : ByteArray) _ _ ([] : List (S61)) 0 (⟨#[]⟩ : ByteArray) _ _ ([] : List (S63)) false _ ?side1 ?side2 ?side3 ?side4 A3.out).mono ?_); (case side1 => exact Kd.C_nil _ _); (case side2 => exact Nat.le_refl _); (case side3 => exact Kd.C_nil _ _); (case side4 => exact Nat.le_refl _); rintro e w9 ⟨rfl, hb⟩; have aH := Aside0.mk (below_step Z0 hb); replace HB := aH; clear aH; (try clear hb); (try clear hb2); (try clear hk); (try clear hi)) | (go_at_call 50; (refine (msg_Same.calls k 3 0 0 (⟨#[]⟩ : ByteArray) 0 0 (⟨#[]⟩ : ByteArray) 0 0 (⟨#[]⟩ : ByteArray) 0 (⟨#[]⟩ : ByteArray) 0 0 0 0 0 0 0 (⟨#[]⟩ : ByteArray) (⟨#[]⟩ : ByteArray) _ _ ([] : List (S61)) 0 (⟨#[]⟩ : ByteArray) _ _ ([] : List (S63)) 3 0 0 (⟨#[]⟩ : ByteArray) 0 0 (⟨#[]⟩ : ByteArray) 0 0 (⟨#[]⟩ : ByteArray) 0 (⟨#[]⟩ : ByteArray) 0 0 0 0 0 0 0 (⟨#[]⟩ : ByteArray) (⟨#[]⟩ : ByteArray) _ _ ([] : List (S61)) 0 (⟨#[]⟩ : ByteArray) _ _ ([] : List (S63)) true _ ?side1 ?side2 ?side3 ?side4 ?side5 ?side6 ?side7 ?side8 A5.out).mono ?_); (case side1 => exact Kd.C_nil _ _); (case side2 => exact Nat.le_refl _); (case side3 => exact Kd.C_nil _ _); (case side4 => exact Nat.le_refl _); (case side5 => exact Kd.C_nil _ _); (case side6 => exact Nat.le_refl _); (case side7 => exact Kd.C_nil _ _); (case side8 => exact Nat.le_refl _); rintro e il ⟨rfl, hb⟩; have aH := Aside0.mk (below_step Z0 hb); replace HB := aH; clear aH; (try clear hb); (try clear hb2); (try clear hk); (try clear hi)) | ((with_reducible refine gate_dst (N := 15) rfl ?_); (try (refine gate_guard Z13 ?_; dsimp only)); refine Kd.R_lit k63 _ 63 ?hg (N := 15) ?hd (xs := ([(⟨2, (⟨#[97, 98, 99]⟩ : ByteArray)⟩ : S63)] : List (S63))) (inner := [.int .i64 2, .string (⟨#[97, 98, 99]⟩ : ByteArray)]) (ok := fun _ => True) (okp := fun _ => True) ?hr ?hp (fun _ hk => hk) trivial (Below.refl _ _) (Nat.le_refl _) (by simp) ?_; (case hd => rfl); (case hg => rfl); (case hr => first | (go_simp; done) | (go_simp; rfl)); (case hp => exact (Reps.c2 (show Kd.M k63 _ _ _ (⟨2, (⟨#[97, 98, 99]⟩ : ByteArray)⟩ : S63) [.int .i64 2, .string (⟨#[97, 98, 99]⟩ : ByteArray)] from (k63_mkM _ _ _ (⟨2, (⟨#[97, 98, 99]⟩ : ByteArray)⟩ : S63) )) (Reps.none _ _))); intro v105 hG ho12 hb hg_ hnew_; clear hg_ hnew_; (first | rw [← Ny104.out] at ho12 | (simp only [Int.reduceToNat] at ho12; rw [← Ny104.out] at ho12)); have aH := Aside0.mk (Kd.R_lower ho12 (below_size Z0)); have aK := Aside0.mk (below_step Z0 hb); have fa := aH; replace HB := aK; clear aH aK; clear hb ho12; obtain ⟨Ao13, co13, eo13⟩ := Kd.R_slice fa.out; subst eo13) | (go_at_call 53; (with_reducible refine (msg_Bytes.calls k _ _ hD cK _ ?side1 ?side2 A7.out).mono ?_); (case side1 => exact (by repeat (first | exact (Kd.R_reads' fa.out).2.2 | (with_reducible refine Kd.C_alloc ?_ _) | (with_reducible refine Kd.C_drewN ?_ _) | (with_reducible refine Kd.C_drew ?_)))); (case side2 => exact (Kd.R_reads' fa.out).2.1); rintro e ie ⟨rfl, hb⟩; have aH := Aside0.mk (Kd.R_below (by (with_reducible repeat (first | apply Kd.R_alloc | apply Kd.R_drewN | apply Kd.R_drew)); exact fa.out) hb); have aK := Aside0.mk (below_step Z0 hb); replace fa := aH; replace HB := aK; clear aH aK; (try clear hb); (try clear hb2); (try clear hk); (try clear hi)))
    go_ret
    exact ⟨Z8, Z0⟩
   ·replace c6 := Bool.eq_false_iff.mpr c6
    subst c6
    replace H := Sq.itF H
    exact absurd (Option.some.inj H) (by rw [hr_.out]; exact Bool.false_ne_true)
 ·replace c2 := Bool.eq_false_iff.mpr c2
  subst c2
  replace H := Sq.itF H
  exact absurd (Option.some.inj H) (by rw [hr_.out]; exact Bool.false_ne_true)

end Go.Proofs.Ytelcciekdoccfaa.PM
