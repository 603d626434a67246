-- Written by mp.py, a program of this work (wip/tools), out of the translation; Lean checks it.
import Derived.Test.YtnllanjoebjeiaaGreatPVxZ
import Derived.Test.YtnllanjoebjeiaaGreatPVxroadbookref07
import Derived.Test.YtnllanjoebjeiaaGreatPVxsuite
namespace Go.Proofs.YtnllanjoebjeiaaGreat.PV
open Go.RowKit Go.Proofs.YtnllanjoebjeiaaGreatW.PrintWords Go.Proofs.YtnllanjoebjeiaaGreatW.PrintLast Go.Proofs.YtnllanjoebjeiaaGreatW.PrintMore
attribute [local go_sem] max2_int min2_int max_two min_two max_three min_three max_four min_four   -- for this text's walks alone
set_option linter.unusedVariables false
set_option linter.unusedSimpArgs false

/-! ### roadbooktop_awake: function 10 -/
def roadbooktop_awake.f (k : Nat)  : Option (Bool) := (some (([(⟨11, 0, 0, (⟨#[]⟩ : ByteArray), 0, 1, (⟨#[10, 0, 0, 0]⟩ : ByteArray), 8, 0, (⟨#[]⟩ : ByteArray), 1, (⟨#[97, 98, 99, 100, 101, 102, 103, 104]⟩ : ByteArray), 0, 0, 0, 0, 0, 0, 0, (⟨#[]⟩ : ByteArray), (⟨#[]⟩ : ByteArray), ([] : List (S78)), 0, (⟨#[]⟩ : ByteArray), ([] : List (S80))⟩ : S32)] : List (S32)) : List (S32))).bind fun cL => ((suite_Encode.f k 4 cL).bind fun eg => ((suite_Parse.f 4 eg.1).bind fun bt107 => (if eg.2.2 = 0 then (if bt107.2.2 = 0 then (if (eg.1.size : Int) = 29 then ((roadbookref07_SameAll.f cL bt107.1).bind fun t112 => (some t112)) else (some false)) else (some false)) else (some false))))
theorem roadbooktop_awake.mono : ∀ k, LeO (roadbooktop_awake.f k ) (roadbooktop_awake.f (k + 1) ) := by
 intro  k
 unfold roadbooktop_awake.f
 have m0 := suite_Encode.mono
 exact Sq.mo
set_option maxRecDepth 100000 in
theorem roadbooktop_awake.bd8 (v0 : Int) (v5 : Int) (v6 : ByteArray) (v7 : Int) (fh : Int) (es : ByteArray) : Tryz.prog.built 32 [(0, .int .i64 v0), (5, .int .i64 v5), (6, .string v6), (7, .int .i64 v7), (10, .int .i64 fh), (11, .string es)] = some #[.int .i64 v0, .int .i64 0, .int .i64 0, .string ⟨#[]⟩, .int .i64 0, .int .i64 v5, .string v6, .int .i64 v7, .int .i64 0, .string ⟨#[]⟩, .int .i64 fh, .string es, .int .i64 0, .int .i64 0, .int .i64 0, .int .i64 0, .int .i64 0, .int .i64 0, .int .i64 0, .string ⟨#[]⟩, .string ⟨#[]⟩, .slice none 0 0, .int .i64 0, .string ⟨#[]⟩, .slice none 0 0] := by kernel_rfl
set_option maxHeartbeats 8000000 in
set_option maxRecDepth 100000 in
theorem roadbooktop_awake.calls (k : Nat)  (r : Bool) (w : World) (hr_ : Aside0 (r = true)) (h : roadbooktop_awake.f k  = some r) :
  Calls Tryz.prog 10 #[] w fun e w' => e = .returned (.bool r) ∧ Below w.heap.size w w' := by
 have dP := Tryz.underlying32
 have HB := Aside0.mk (Below.refl w.heap.size w)
 have H : ((some (([(⟨11, 0, 0, (⟨#[]⟩ : ByteArray), 0, 1, (⟨#[10, 0, 0, 0]⟩ : ByteArray), 8, 0, (⟨#[]⟩ : ByteArray), 1, (⟨#[97, 98, 99, 100, 101, 102, 103, 104]⟩ : ByteArray), 0, 0, 0, 0, 0, 0, 0, (⟨#[]⟩ : ByteArray), (⟨#[]⟩ : ByteArray), ([] : List (S78)), 0, (⟨#[]⟩ : ByteArray), ([] : List (S80))⟩ : S32)] : List (S32)) : List (S32))).bind fun cL => ((suite_Encode.f k 4 cL).bind fun eg => ((suite_Parse.f 4 eg.1).bind fun bt107 => (if eg.2.2 = 0 then (if bt107.2.2 = 0 then (if (eg.1.size : Int) = 29 then ((roadbookref07_SameAll.f cL bt107.1).bind fun t112 => (some t112)) else (some false)) else (some false)) else (some false))))) = some r := h
 clear h
 obtain ⟨cL, hy101⟩ : ∃ y_ : List (S32), y_ = (([(⟨11, 0, 0, (⟨#[]⟩ : ByteArray), 0, 1, (⟨#[10, 0, 0, 0]⟩ : ByteArray), 8, 0, (⟨#[]⟩ : ByteArray), 1, (⟨#[97, 98, 99, 100, 101, 102, 103, 104]⟩ : ByteArray), 0, 0, 0, 0, 0, 0, 0, (⟨#[]⟩ : ByteArray), (⟨#[]⟩ : ByteArray), ([] : List (S78)), 0, (⟨#[]⟩ : ByteArray), ([] : List (S80))⟩ : S32)] : List (S32))) := ⟨_, rfl⟩
 replace H : ((suite_Encode.f k 4 cL).bind fun eg => ((suite_Parse.f 4 eg.1).bind fun bt107 => (if eg.2.2 = 0 then (if bt107.2.2 = 0 then (if (eg.1.size : Int) = 29 then ((roadbookref07_SameAll.f cL bt107.1).bind fun t112 => (some t112)) else (some false)) else (some false)) else (some false)))) = some r := by first | (rw [hy101]; with_reducible exact H) | (have H2_ := (Option.bind_some _ _).symm.trans H; rw [hy101]; with_reducible exact H2_) | (have H2_ := (Option.bind_some _ _).symm.trans H; with_reducible exact H2_) | with_reducible exact H | (rw [hy101]; exact H) | exact H
 have Ny101 := Aside0.mk hy101
 clear hy101
 replace H := Option.bind_eq_some_iff.mp H
 obtain ⟨⟨bQ, ch, cb⟩, io, H⟩ := H
 replace H : ((suite_Parse.f 4 bQ).bind fun bt107 => (if cb = 0 then (if bt107.2.2 = 0 then (if (bQ.size : Int) = 29 then ((roadbookref07_SameAll.f cL bt107.1).bind fun t112 => (some t112)) else (some false)) else (some false)) else (some false))) = some r := H
 have A1 := Aside0.mk io
 clear io
 replace H := Option.bind_eq_some_iff.mp H
 obtain ⟨⟨ci, cj, cm⟩, dQ, H⟩ := H
 replace H : (if cb = 0 then (if cm = 0 then (if (bQ.size : Int) = 29 then ((roadbookref07_SameAll.f cL ci).bind fun t112 => (some t112)) else (some false)) else (some false)) else (some false)) = some r := H
 have A2 := Aside0.mk dQ
 clear dQ
 by_cases c3 : cb = 0
 ·rw [if_pos c3] at H
  have bU : (cb == 0) = true := beq_iff_eq.mpr c3
  have ck : (cb != 0) = false := bne_eq_false_iff_eq.mpr c3
  clear c3
  by_cases c4 : cm = 0
  ·rw [if_pos c4] at H
   have bP : (cm == 0) = true := beq_iff_eq.mpr c4
   have cl : (cm != 0) = false := bne_eq_false_iff_eq.mpr c4
   clear c4
   by_cases c5 : (bQ.size : Int) = 29
   ·rw [if_pos c5] at H
    have ca : ((bQ.size : Int) == 29) = true := beq_iff_eq.mpr c5
    have dM : ((bQ.size : Int) != 29) = false := bne_eq_false_iff_eq.mpr c5
    clear c5
    replace H := Option.bind_eq_some_iff.mp H
    obtain ⟨t112, fR, H⟩ := H
    replace H : (some t112) = some r := H
    have A6 := Aside0.mk fR
    clear fR
    obtain rfl := Option.some.inj H
    go_enter Tryz.func10, Tryz.ntmps10
    go_wp2_with (first | ((with_reducible refine gate_dst (N := 8) rfl ?_); refine Pre.build_event 8 32 [(0, Go.Operand.const (Go.Value.int Go.IntKind.i64 11)), (5, Go.Operand.const (Go.Value.int Go.IntKind.i64 1)), (6, Go.Operand.const (Go.Value.string { data := #[10, 0, 0, 0] })), (7, Go.Operand.const (Go.Value.int Go.IntKind.i64 8)), (10, Go.Operand.const (Go.Value.int Go.IntKind.i64 1)), (11, Go.Operand.const (Go.Value.string { data := #[97, 98, 99, 100, 101, 102, 103, 104] }))] rfl rfl rfl (roadbooktop_awake.bd8 _ _ _ _ _ _) ?_) | ((with_reducible refine gate_dst (N := 9) rfl ?_); (try (refine gate_guard Z16 ?_; dsimp only)); refine Kd.S_lit k32 _ 32 ?hg (N := 9) ?hd (xs := ([(⟨11, 0, 0, (⟨#[]⟩ : ByteArray), 0, 1, (⟨#[10, 0, 0, 0]⟩ : ByteArray), 8, 0, (⟨#[]⟩ : ByteArray), 1, (⟨#[97, 98, 99, 100, 101, 102, 103, 104]⟩ : ByteArray), 0, 0, 0, 0, 0, 0, 0, (⟨#[]⟩ : ByteArray), (⟨#[]⟩ : ByteArray), ([] : List (S78)), 0, (⟨#[]⟩ : ByteArray), ([] : List (S80))⟩ : S32)] : List (S32))) (inner := [.int .i64 11, .int .i64 0, .int .i64 0, .string ⟨#[]⟩, .int .i64 0, .int .i64 1, .string (⟨#[10, 0, 0, 0]⟩ : ByteArray), .int .i64 8, .int .i64 0, .string ⟨#[]⟩, .int .i64 1, .string (⟨#[97, 98, 99, 100, 101, 102, 103, 104]⟩ : ByteArray), .int .i64 0, .int .i64 0, .int .i64 0, .int .i64 0, .int .i64 0, .int .i64 0, .int .i64 0, .string ⟨#[]⟩, .string ⟨#[]⟩, .slice none 0 0, .int .i64 0, .string ⟨#[]⟩, .slice none 0 0]) (ok := fun _ => True) (okp := fun _ => True) ?hr ?hp (fun _ hk => hk) trivial (Below.refl _ _) (Nat.le_refl _) Z27 ?_; (case hd => rfl); (case hg => rfl); (case hr => first | (go_simp; done) | (go_simp; rfl)); (case hp => exact (Reps.front (show Kd.M k32 _ _ _ (⟨11, 0, 0, (⟨#[]⟩ : ByteArray), 0, 1, (⟨#[10, 0, 0, 0]⟩ : ByteArray), 8, 0, (⟨#[]⟩ : ByteArray), 1, (⟨#[97, 98, 99, 100, 101, 102, 103, 104]⟩ : ByteArray), 0, 0, 0, 0, 0, 0, 0, (⟨#[]⟩ : ByteArray), (⟨#[]⟩ : ByteArray), ([] : List (S78)), 0, (⟨#[]⟩ : ByteArray), ([] : List (S80))⟩ : S32) [.int .i64 11, .int .i64 0, .int .i64 0, .string ⟨#[]⟩, .int .i64 0, .int .i64 1, .string (⟨#[10, 0, 0, 0]⟩ : ByteArray), .int .i64 8, .int .i64 0, .string ⟨#[]⟩, .int .i64 1, .string (⟨#[97, 98, 99, 100, 101, 102, 103, 104]⟩ : ByteArray), .int .i64 0, .int .i64 0, .int .i64 0, .int .i64 0, .int .i64 0, .int .i64 0, .int .i64 0, .string ⟨#[]⟩, .string ⟨#[]⟩, .slice none 0 0, .int .i64 0, .string ⟨#[]⟩, .slice none 0 0] from (k32_mkM _ _ _ (⟨11, 0, 0, (⟨#[]⟩ : ByteArray), 0, 1, (⟨#[10, 0, 0, 0]⟩ : ByteArray), 8, 0, (⟨#[]⟩ : ByteArray), 1, (⟨#[97, 98, 99, 100, 101, 102, 103, 104]⟩ : ByteArray), 0, 0, 0, 0, 0, 0, 0, (⟨#[]⟩ : ByteArray), (⟨#[]⟩ : ByteArray), ([] : List (S78)), 0, (⟨#[]⟩ : ByteArray), ([] : List (S80))⟩ : S32) (Kd.R_nil _ _ _ _ _) (Kd.R_nil _ _ _ _ _))) rfl (Reps.none _ _) rfl)); intro hU w7 ho8 hb hg_ hnew_; clear hg_ hnew_; (first | rw [← Ny101.out] at ho8 | (simp only [Int.reduceToNat] at ho8; rw [← Ny101.out] at ho8)); have eH := Aside0.mk (Kd.S_lower ho8 (below_size Z2)); replace HB := Aside0.mk (below_step Z2 hb); clear hb ho8; obtain ⟨Ao9, co9, eo9⟩ := Kd.S_slice eH.out; subst eo9) | ((with_reducible refine gate_callee (f := 11) rfl ?_); refine goesL_ (some 12) rfl rfl Tryz.func11 Z12 rfl #[.int .i64 4, .slice Ao9 cL.length co9] rfl Z3 ?_; (with_reducible refine (suite_Encode.calls k 4 _ _ cL bQ ch cb _ ?side1 ?side2 A1.out).mono ?_); (case side1 => exact (by repeat (first | exact (Kd.S_reads' eH.out).2.2 | (with_reducible refine Kd.C_alloc ?_ _) | (with_reducible refine Kd.C_drewN ?_ _) | (with_reducible refine Kd.C_drew ?_)))); (case side2 => exact (Kd.S_reads' eH.out).2.1); rintro e dL ⟨rfl, hb⟩; refine ⟨_, rfl, ?_⟩; replace eH := Aside0.mk (Kd.S_below (by (with_reducible repeat (first | apply Kd.S_alloc | apply Kd.S_drewN | apply Kd.S_drew)); exact eH.out) hb); replace HB := Aside0.mk (below_step Z2 hb); clear hb) | ((with_reducible refine gate_callee (f := 13) rfl ?_); refine goesL_ (some 18) rfl rfl Tryz.func13 Z12 rfl #[.int .i64 4, .string bQ] rfl Z3 ?_; (with_reducible refine (suite_Parse.calls 4 bQ ci cj cm _ A2.out).mono ?_); rintro e fg ⟨v110, rfl, ho0, hb⟩; refine ⟨_, rfl, ?_⟩; have HO111 := Aside0.mk (Kd.S_lower (Kd.S_new' ho0 (Kd.S_lt (by (with_reducible repeat (first | apply Kd.S_alloc | apply Kd.S_drewN | apply Kd.S_drew)); exact eH.out))) (below_size Z2)); replace eH := Aside0.mk (Kd.S_elder' (by (with_reducible repeat (first | apply Kd.S_alloc | apply Kd.S_drewN | apply Kd.S_drew)); exact eH.out) (Kd.S_base ho0) hb); replace HB := Aside0.mk (below_step Z2 hb); clear hb ho0; obtain ⟨Ao12, hO, eo12⟩ := Kd.S_slice HO111.out; subst eo12) | (go_at_call 14; (with_reducible refine (roadbookref07_SameAll.calls _ _ cL _ _ ci t112 _ ?side1 ?side2 ?side3 ?side4 A6.out).mono ?_); (case side1 => exact (by repeat (first | exact (Kd.S_reads' eH.out).2.2 | (with_reducible refine Kd.C_alloc ?_ _) | (with_reducible refine Kd.C_drewN ?_ _) | (with_reducible refine Kd.C_drew ?_)))); (case side2 => exact (Kd.S_reads' eH.out).2.1); (case side3 => exact (by repeat (first | exact (Kd.S_reads' HO111.out).2.2 | (with_reducible refine Kd.C_alloc ?_ _) | (with_reducible refine Kd.C_drewN ?_ _) | (with_reducible refine Kd.C_drew ?_)))); (case side4 => exact (Kd.S_reads' HO111.out).2.1); rintro e gi ⟨rfl, hb⟩; replace eH := Aside0.mk (Kd.S_below (by (with_reducible repeat (first | apply Kd.S_alloc | apply Kd.S_drewN | apply Kd.S_drew)); exact eH.out) hb); replace HO111 := Aside0.mk (Kd.S_below (by (with_reducible repeat (first | apply Kd.S_alloc | apply Kd.S_drewN | apply Kd.S_drew)); exact HO111.out) hb); replace HB := Aside0.mk (below_step Z2 hb); clear hb))
    go_ret
    exact ⟨Z5, Z2⟩
   ·rw [if_neg c5] at H
    have ca : ((bQ.size : Int) == 29) = false := beq_eq_false_iff_ne.mpr c5
    have dM : ((bQ.size : Int) != 29) = true := bne_iff_ne.mpr c5
    exact absurd (Option.some.inj H) (by rw [hr_.out]; exact Bool.false_ne_true)
  ·rw [if_neg c4] at H
   have bP : (cm == 0) = false := beq_eq_false_iff_ne.mpr c4
   have cl : (cm != 0) = true := bne_iff_ne.mpr c4
   exact absurd (Option.some.inj H) (by rw [hr_.out]; exact Bool.false_ne_true)
 ·rw [if_neg c3] at H
  have bU : (cb == 0) = false := beq_eq_false_iff_ne.mpr c3
  have ck : (cb != 0) = true := bne_iff_ne.mpr c3
  exact absurd (Option.some.inj H) (by rw [hr_.out]; exact Bool.false_ne_true)

end Go.Proofs.YtnllanjoebjeiaaGreat.PV
