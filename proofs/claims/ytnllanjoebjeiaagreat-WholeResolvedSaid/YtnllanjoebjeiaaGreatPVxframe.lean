-- Written by mp.py, a program of this work (wip/tools), out of the translation; Lean checks it.
import Derived.Test.YtnllanjoebjeiaaGreatPVxZ
import Derived.Test.YtnllanjoebjeiaaGreatPVxcursor
import Derived.Test.YtnllanjoebjeiaaGreatPVxoctet
import Derived.Test.YtnllanjoebjeiaaGreatBox
namespace Go.Proofs.YtnllanjoebjeiaaGreat.PV
open Go.RowKit Go.Proofs.YtnllanjoebjeiaaGreatW.PrintWords Go.Proofs.YtnllanjoebjeiaaGreatW.PrintLast Go.Proofs.YtnllanjoebjeiaaGreatW.PrintMore
attribute [local go_sem] max2_int min2_int max_two min_two max_three min_three max_four min_four   -- for this text's walks alone
set_option linter.unusedVariables false
set_option linter.unusedSimpArgs false

/-! ### frame_Put: function 130 -/
def frame_Put.f (a0 : Int) (a1 : ByteArray) : Option (ByteArray × Bool) := if a0 < 1 then (some ((⟨#[]⟩ : ByteArray), false)) else (if a0 > 255 then (some ((⟨#[]⟩ : ByteArray), false)) else (if (a1.size : Int) > 255 then (some ((⟨#[]⟩ : ByteArray), false)) else ((some (([(a0) % 256, ((a1.size : Int)) % 256] : List Int) : List Int)).bind fun cL => (if (strOfNums cL).size + a1.size ≤ 9223372036854775807 then (some ((strOfNums cL) ++ a1, true)) else (none)))))
set_option maxHeartbeats 8000000 in
set_option maxRecDepth 100000 in
theorem frame_Put.calls (a0 : Int) (a1 : ByteArray) (r1 : ByteArray) (r2 : Bool) (w : World) (h : frame_Put.f a0 a1 = some (r1, r2)) :
  Calls Tryz.prog 130 #[.int .i64 a0, .string a1] w fun e w' => e = .returned (.tuple #[.string r1, .bool r2]) ∧ Below w.heap.size w w' := by
 have HB := Aside0.mk (Below.refl w.heap.size w)
 have H : (if a0 < 1 then (some ((⟨#[]⟩ : ByteArray), false)) else (if a0 > 255 then (some ((⟨#[]⟩ : ByteArray), false)) else (if (a1.size : Int) > 255 then (some ((⟨#[]⟩ : ByteArray), false)) else ((some (([(a0) % 256, ((a1.size : Int)) % 256] : List Int) : List Int)).bind fun cL => (if (strOfNums cL).size + a1.size ≤ 9223372036854775807 then (some ((strOfNums cL) ++ a1, true)) else (none)))))) = some (r1, r2) := h
 clear h
 by_cases c3 : a0 < 1
 ·rw [if_pos c3] at H
  have bU : decide (a0 < 1) = true := decide_eq_true c3
  clear c3
  simp only [Option.some.injEq, Prod.mk.injEq] at H
  obtain ⟨rfl, rfl⟩ := H
  go_enter Tryz.func130, Tryz.ntmps130
  go_wp2
  go_ret2
  exact ⟨Z5, Z2⟩
 ·rw [if_neg c3] at H
  have bU : decide (a0 < 1) = false := decide_eq_false c3
  clear c3
  by_cases c4 : a0 > 255
  ·rw [if_pos c4] at H
   have bP : decide (255 < a0) = true := decide_eq_true c4
   clear c4
   simp only [Option.some.injEq, Prod.mk.injEq] at H
   obtain ⟨rfl, rfl⟩ := H
   go_enter Tryz.func130, Tryz.ntmps130
   go_wp2
   go_ret2
   exact ⟨Z5, Z2⟩
  ·rw [if_neg c4] at H
   have bP : decide (255 < a0) = false := decide_eq_false c4
   clear c4
   by_cases c5 : (a1.size : Int) > 255
   ·rw [if_pos c5] at H
    have ca : decide (255 < (a1.size : Int)) = true := decide_eq_true c5
    have dM : decide (255 < a1.size) = true := decide_eq_true Z23
    clear c5
    simp only [Option.some.injEq, Prod.mk.injEq] at H
    obtain ⟨rfl, rfl⟩ := H
    go_enter Tryz.func130, Tryz.ntmps130
    go_wp2
    go_ret2
    exact ⟨Z5, Z2⟩
   ·rw [if_neg c5] at H
    have ca : decide (255 < (a1.size : Int)) = false := decide_eq_false c5
    have dM : decide (255 < a1.size) = false := decide_eq_false Z23
    clear c5
    obtain ⟨cL, hy101⟩ : ∃ y_ : List Int, y_ = (([(a0) % 256, ((a1.size : Int)) % 256] : List Int)) := ⟨_, rfl⟩
    replace H : (if (strOfNums cL).size + a1.size ≤ 9223372036854775807 then (some ((strOfNums cL) ++ a1, true)) else (none)) = some (r1, r2) := by first | (rw [hy101]; with_reducible exact H) | (have H2_ := (Option.bind_some _ _).symm.trans H; rw [hy101]; with_reducible exact H2_) | (have H2_ := (Option.bind_some _ _).symm.trans H; with_reducible exact H2_) | with_reducible exact H | (rw [hy101]; exact H) | exact H
    have Ny101 := Aside0.mk hy101
    clear hy101
    by_cases c6 : (strOfNums cL).size + a1.size ≤ 9223372036854775807
    ·rw [if_pos c6] at H
     have ce := eq_true c6
     have cJ : decide ((strOfNums cL).size + a1.size ≤ 9223372036854775807) = true := decide_eq_true c6
     try have fD : (9223372036854775807 < (strOfNums cL).size + a1.size) = False := eq_false (Nat.not_lt.2 c6)
     try (have fE := fD; simp only [ByteArray.size_append] at fE)
     simp only [Option.some.injEq, Prod.mk.injEq] at H
     obtain ⟨rfl, rfl⟩ := H
     go_enter Tryz.func130, Tryz.ntmps130
     go_wp2_with (first | ((with_reducible refine gate_dst (N := 22) rfl ?_); (try (refine gate_guard Z16 ?_; dsimp only)); refine Kd.R_lit (Kd.int .u8) _ 5 ?hg (N := 22) ?hd (xs := ([(a0) % 256, ((a1.size : Int)) % 256] : List Int)) (inner := [.int .u8 ((a0) % 256), .int .u8 (((a1.size : Int)) % 256)]) (ok := fun _ => True) (okp := fun _ => True) ?hr ?hp (fun _ hk => hk) trivial (Below.refl _ _) (Nat.le_refl _) Z27 ?_; (case hd => rfl); (case hg => rfl); (case hr => first | (go_simp; done) | (go_simp; rfl)); (case hp => exact (Reps.one (show Kd.M (Kd.int .u8) _ _ _ ((a0) % 256) [.int .u8 ((a0) % 256)] from rfl) (Reps.one (show Kd.M (Kd.int .u8) _ _ _ (((a1.size : Int)) % 256) [.int .u8 (((a1.size : Int)) % 256)] from rfl) (Reps.none _ _)))); intro hU w7 ho8 hb hg_ hnew_; clear hg_ hnew_; (first | rw [← Ny101.out] at ho8 | (simp only [Int.reduceToNat] at ho8; rw [← Ny101.out] at ho8)); have eH := Aside0.mk (Kd.R_lower ho8 (below_size Z2)); replace HB := Aside0.mk (below_step Z2 hb); clear hb ho8; have hcv9 := own_string (P := Tryz.prog) Tryz.underlying64 Tryz.underlying5 Tryz.underlying9 (Kd.own_of_R eH.out)))
     go_ret2
     exact ⟨Z5, Z2⟩
    ·rw [if_neg c6] at H
     exact absurd H Z27

/-! ### frame_Wrap: function 31 -/
def frame_Wrap.f (k : Nat) (a0 : ByteArray) : Option (ByteArray × Bool) := (octet_Put.f k (a0.size : Int) 2).bind fun cM => (if cM.2 = true then (if (a0.size : Int) > 65531 then (some ((⟨#[]⟩ : ByteArray), false)) else (if 2 + cM.1.size ≤ 9223372036854775807 then (if ((⟨#[42, 2]⟩ : ByteArray) ++ cM.1).size + a0.size ≤ 9223372036854775807 then (some (((⟨#[42, 2]⟩ : ByteArray) ++ cM.1) ++ a0, true)) else (none)) else (none))) else (some ((⟨#[]⟩ : ByteArray), false)))
theorem frame_Wrap.mono : ∀ a0 k, LeO (frame_Wrap.f k a0) (frame_Wrap.f (k + 1) a0) := by
 intro a0 k
 unfold frame_Wrap.f
 have m0 := octet_Put.mono
 exact Sq.mo
set_option maxHeartbeats 8000000 in
set_option maxRecDepth 100000 in
theorem frame_Wrap.calls (k : Nat) (a0 : ByteArray) (r1 : ByteArray) (r2 : Bool) (w : World) (h : frame_Wrap.f k a0 = some (r1, r2)) :
  Calls Tryz.prog 31 #[.string a0] w fun e w' => e = .returned (.tuple #[.string r1, .bool r2]) ∧ Below w.heap.size w w' := by
 have HB := Aside0.mk (Below.refl w.heap.size w)
 have H : ((octet_Put.f k (a0.size : Int) 2).bind fun cM => (if cM.2 = true then (if (a0.size : Int) > 65531 then (some ((⟨#[]⟩ : ByteArray), false)) else (if 2 + cM.1.size ≤ 9223372036854775807 then (if ((⟨#[42, 2]⟩ : ByteArray) ++ cM.1).size + a0.size ≤ 9223372036854775807 then (some (((⟨#[42, 2]⟩ : ByteArray) ++ cM.1) ++ a0, true)) else (none)) else (none))) else (some ((⟨#[]⟩ : ByteArray), false)))) = some (r1, r2) := h
 clear h
 replace H := Option.bind_eq_some_iff.mp H
 obtain ⟨⟨aM, bl⟩, dQ, H⟩ := H
 replace H : (if bl = true then (if (a0.size : Int) > 65531 then (some ((⟨#[]⟩ : ByteArray), false)) else (if 2 + aM.size ≤ 9223372036854775807 then (if ((⟨#[42, 2]⟩ : ByteArray) ++ aM).size + a0.size ≤ 9223372036854775807 then (some (((⟨#[42, 2]⟩ : ByteArray) ++ aM) ++ a0, true)) else (none)) else (none))) else (some ((⟨#[]⟩ : ByteArray), false))) = some (r1, r2) := H
 have A2 := Aside0.mk dQ
 clear dQ
 by_cases c3 : bl = true
 ·subst c3
  have H1 : (if (a0.size : Int) > 65531 then (some ((⟨#[]⟩ : ByteArray), false)) else (if 2 + aM.size ≤ 9223372036854775807 then (if ((⟨#[42, 2]⟩ : ByteArray) ++ aM).size + a0.size ≤ 9223372036854775807 then (some (((⟨#[42, 2]⟩ : ByteArray) ++ aM) ++ a0, true)) else (none)) else (none))) = some (r1, r2) := by rw [if_pos rfl] at H; exact H
  clear H
  have H := H1
  clear H1
  by_cases c4 : (a0.size : Int) > 65531
  ·rw [if_pos c4] at H
   have bP : decide (65531 < (a0.size : Int)) = true := decide_eq_true c4
   have cl : decide (65531 < a0.size) = true := decide_eq_true Z23
   clear c4
   simp only [Option.some.injEq, Prod.mk.injEq] at H
   obtain ⟨rfl, rfl⟩ := H
   go_enter Tryz.func31, Tryz.ntmps31
   go_wp2_with (first | ((with_reducible refine gate_callee (f := 73) rfl ?_); refine goesL_ (some 9) rfl rfl Tryz.func73 Z12 rfl #[.int .i64 (a0.size : Int), .int .i64 2] rfl Z3 ?_; (with_reducible refine (octet_Put.calls k (a0.size : Int) 2 aM true _ A2.out).mono ?_); rintro e w5 ⟨rfl, hb⟩; refine ⟨_, rfl, ?_⟩; replace HB := Aside0.mk (below_step Z2 hb); clear hb))
   go_ret2
   exact ⟨Z5, Z2⟩
  ·rw [if_neg c4] at H
   have bP : decide (65531 < (a0.size : Int)) = false := decide_eq_false c4
   have cl : decide (65531 < a0.size) = false := decide_eq_false Z23
   clear c4
   by_cases c6 : 2 + aM.size ≤ 9223372036854775807
   ·rw [if_pos c6] at H
    have ce := eq_true c6
    have cJ : decide (2 + aM.size ≤ 9223372036854775807) = true := decide_eq_true c6
    try have fD : (9223372036854775807 < 2 + aM.size) = False := eq_false (Nat.not_lt.2 c6)
    try (have fE := fD; simp only [ByteArray.size_append] at fE)
    by_cases c7 : ((⟨#[42, 2]⟩ : ByteArray) ++ aM).size + a0.size ≤ 9223372036854775807
    ·rw [if_pos c7] at H
     have cN := eq_true c7
     have fN : decide (((⟨#[42, 2]⟩ : ByteArray) ++ aM).size + a0.size ≤ 9223372036854775807) = true := decide_eq_true c7
     try have ie : (9223372036854775807 < ((⟨#[42, 2]⟩ : ByteArray) ++ aM).size + a0.size) = False := eq_false (Nat.not_lt.2 c7)
     try (have ig := ie; simp only [ByteArray.size_append, show (⟨#[42, 2]⟩ : ByteArray).size = 2 from rfl] at ig)
     simp only [Option.some.injEq, Prod.mk.injEq] at H
     obtain ⟨rfl, rfl⟩ := H
     go_enter Tryz.func31, Tryz.ntmps31
     go_wp2_with (first | ((with_reducible refine gate_callee (f := 73) rfl ?_); refine goesL_ (some 9) rfl rfl Tryz.func73 Z12 rfl #[.int .i64 (a0.size : Int), .int .i64 2] rfl Z3 ?_; (with_reducible refine (octet_Put.calls k (a0.size : Int) 2 aM true _ A2.out).mono ?_); rintro e w8 ⟨rfl, hb⟩; refine ⟨_, rfl, ?_⟩; replace HB := Aside0.mk (below_step Z2 hb); clear hb))
     go_ret2
     exact ⟨Z5, Z2⟩
    ·rw [if_neg c7] at H
     exact absurd H Z27
   ·rw [if_neg c6] at H
    exact absurd H Z27
 ·replace c3 := Bool.eq_false_iff.mpr c3
  subst c3
  have H1 : (some ((⟨#[]⟩ : ByteArray), false)) = some (r1, r2) := by rw [if_neg (show ¬ (false = true) by decide)] at H; exact H
  clear H
  have H := H1
  clear H1
  simp only [Option.some.injEq, Prod.mk.injEq] at H
  obtain ⟨rfl, rfl⟩ := H
  go_enter Tryz.func31, Tryz.ntmps31
  go_wp2_with (first | ((with_reducible refine gate_callee (f := 73) rfl ?_); refine goesL_ (some 9) rfl rfl Tryz.func73 Z12 rfl #[.int .i64 (a0.size : Int), .int .i64 2] rfl Z3 ?_; (with_reducible refine (octet_Put.calls k (a0.size : Int) 2 aM false _ A2.out).mono ?_); rintro e w9 ⟨rfl, hb⟩; refine ⟨_, rfl, ?_⟩; replace HB := Aside0.mk (below_step Z2 hb); clear hb))
  go_ret2
  exact ⟨Z5, Z2⟩

/-! ### frame_size: function 83 -/
def frame_size.f (a0 : ByteArray) : Option (Int) := if 2 < (a0.size : Int) then (if 3 < (a0.size : Int) then (some (Go.bits .or .i64 (wrap64 ((wrap64 (bt a0 2)) * 256)) (wrap64 (bt a0 3)))) else (none)) else (none)
set_option maxHeartbeats 8000000 in
set_option maxRecDepth 100000 in
theorem frame_size.calls (a0 : ByteArray) (r : Int) (w : World) (h : frame_size.f a0 = some r) :
  Calls Tryz.prog 83 #[.string a0] w fun e w' => e = .returned (.int .i64 r) ∧ Drawn0 w w' := by
 have H : (if 2 < (a0.size : Int) then (if 3 < (a0.size : Int) then (some (Go.bits .or .i64 (wrap64 ((wrap64 (bt a0 2)) * 256)) (wrap64 (bt a0 3)))) else (none)) else (none)) = some r := h
 clear h
 by_cases c2 : 2 < (a0.size : Int)
 ·rw [if_pos c2] at H
  have cK : decide (2 < (a0.size : Int)) = true := decide_eq_true c2
  have cR : decide (2 < a0.size) = true := decide_eq_true Z23
  clear c2
  by_cases c4 : 3 < (a0.size : Int)
  ·rw [if_pos c4] at H
   have bP : decide (3 < (a0.size : Int)) = true := decide_eq_true c4
   have cl : decide (3 < a0.size) = true := decide_eq_true Z23
   clear c4
   obtain rfl := Option.some.inj H
   have p3 : 0 ≤ (2 : Int) := Z23
   have q3 : 2 < a0.size := (by have : (2 : Int) < (a0.size : Int) := of_decide_eq_true Z7; omega)
   have hx3 : ∀ h : 2 < a0.size, ((a0[2]'h).toNat : Int) = bt a0 2 := bt_at a0 2
   clear p3
   have qi3 : (2 < (a0.size : Int)) = True := eq_true (of_decide_eq_true Z7)
   replace q3 := eq_true q3
   have p5 : 0 ≤ (3 : Int) := Z23
   have q5 : 3 < a0.size := (by have : (3 : Int) < (a0.size : Int) := of_decide_eq_true Z7; omega)
   have hx5 : ∀ h : 3 < a0.size, ((a0[3]'h).toNat : Int) = bt a0 3 := bt_at a0 3
   clear p5
   have qi5 : (3 < (a0.size : Int)) = True := eq_true (of_decide_eq_true Z7)
   replace q5 := eq_true q5
   go_enter Tryz.func83, Tryz.ntmps83
   go_wp2
   repeat (go_quiet (fail); try go_wp2)
   go_ret
   exact ⟨Z8, Z11⟩
  ·rw [if_neg c4] at H
   exact absurd H Z27
 ·rw [if_neg c2] at H
  exact absurd H Z27

/-! ### frame_Body: function 38 -/
def frame_Body.f (a0 : ByteArray) : Option (ByteArray × Int × Int) := if (a0.size : Int) > 65535 then (none) else (if (a0.size : Int) < 4 then (none) else (if 0 < (a0.size : Int) then (if (bt a0 0) = 42 then (if 1 < (a0.size : Int) then (if (bt a0 1) = 2 then ((frame_size.f a0).bind fun aM => (if (a0.size : Int) < (wrap64 (4 + aM)) then (none) else ((frame_size.f a0).bind fun bl => (if 4 ≤ (wrap64 (4 + bl)) then (if (wrap64 (4 + bl)) ≤ (a0.size : Int) then (some (a0.extract 4 ((wrap64 (4 + bl)) : Int).toNat, 0, 0)) else (none)) else (none))))) else (none)) else (none)) else (none)) else (none)))
set_option maxHeartbeats 8000000 in
set_option maxRecDepth 100000 in
theorem frame_Body.calls (a0 : ByteArray) (r1 : ByteArray) (r2 : Int) (r3 : Int) (w : World) (h : frame_Body.f a0 = some (r1, r2, r3)) :
  Calls Tryz.prog 38 #[.string a0] w fun e w' => e = .returned (.tuple #[.string r1, .int .i64 r2, .int .i64 r3]) ∧ Drawn0 w w' := by
 have H : (if (a0.size : Int) > 65535 then (none) else (if (a0.size : Int) < 4 then (none) else (if 0 < (a0.size : Int) then (if (bt a0 0) = 42 then (if 1 < (a0.size : Int) then (if (bt a0 1) = 2 then ((frame_size.f a0).bind fun aM => (if (a0.size : Int) < (wrap64 (4 + aM)) then (none) else ((frame_size.f a0).bind fun bl => (if 4 ≤ (wrap64 (4 + bl)) then (if (wrap64 (4 + bl)) ≤ (a0.size : Int) then (some (a0.extract 4 ((wrap64 (4 + bl)) : Int).toNat, 0, 0)) else (none)) else (none))))) else (none)) else (none)) else (none)) else (none)))) = some (r1, r2, r3) := h
 clear h
 by_cases c2 : (a0.size : Int) > 65535
 ·rw [if_pos c2] at H
  exact absurd H Z27
 ·rw [if_neg c2] at H
  have cK : decide (65535 < (a0.size : Int)) = false := decide_eq_false c2
  have cR : decide (65535 < a0.size) = false := decide_eq_false Z23
  clear c2
  by_cases c3 : (a0.size : Int) < 4
  ·rw [if_pos c3] at H
   exact absurd H Z27
  ·rw [if_neg c3] at H
   have bU : decide ((a0.size : Int) < 4) = false := decide_eq_false c3
   have ck : decide (a0.size < 4) = false := decide_eq_false Z23
   clear c3
   by_cases c4 : 0 < (a0.size : Int)
   ·rw [if_pos c4] at H
    have bP : decide (0 < (a0.size : Int)) = true := decide_eq_true c4
    have cl : decide (0 < a0.size) = true := decide_eq_true Z23
    clear c4
    by_cases c6 : (bt a0 0) = 42
    ·rw [if_pos c6] at H
     have ce : ((bt a0 0) == 42) = true := beq_iff_eq.mpr c6
     have cJ : ((bt a0 0) != 42) = false := bne_eq_false_iff_eq.mpr c6
     clear c6
     by_cases c7 : 1 < (a0.size : Int)
     ·rw [if_pos c7] at H
      have cN : decide (1 < (a0.size : Int)) = true := decide_eq_true c7
      have fN : decide (1 < a0.size) = true := decide_eq_true Z23
      clear c7
      by_cases c9 : (bt a0 1) = 2
      ·rw [if_pos c9] at H
       have dX : ((bt a0 1) == 2) = true := beq_iff_eq.mpr c9
       have hS : ((bt a0 1) != 2) = false := bne_eq_false_iff_eq.mpr c9
       clear c9
       replace H := Option.bind_eq_some_iff.mp H
       obtain ⟨aM, gZ, H⟩ := H
       replace H : (if (a0.size : Int) < (wrap64 (4 + aM)) then (none) else ((frame_size.f a0).bind fun bl => (if 4 ≤ (wrap64 (4 + bl)) then (if (wrap64 (4 + bl)) ≤ (a0.size : Int) then (some (a0.extract 4 ((wrap64 (4 + bl)) : Int).toNat, 0, 0)) else (none)) else (none)))) = some (r1, r2, r3) := H
       have io := Aside0.mk gZ
       clear gZ
       by_cases cS : (a0.size : Int) < (wrap64 (4 + aM))
       ·rw [if_pos cS] at H
        exact absurd H Z27
       ·rw [if_neg cS] at H
        have fP : decide ((a0.size : Int) < (wrap64 (4 + aM))) = false := decide_eq_false cS
        clear cS
        replace H := Option.bind_eq_some_iff.mp H
        obtain ⟨bl, gL, H⟩ := H
        replace H : (if 4 ≤ (wrap64 (4 + bl)) then (if (wrap64 (4 + bl)) ≤ (a0.size : Int) then (some (a0.extract 4 ((wrap64 (4 + bl)) : Int).toNat, 0, 0)) else (none)) else (none)) = some (r1, r2, r3) := H
        have iz := Aside0.mk gL
        clear gL
        by_cases eN : 4 ≤ (wrap64 (4 + bl))
        ·rw [if_pos eN] at H
         have gn := eq_true eN
         have gp : decide (4 ≤ (wrap64 (4 + bl))) = true := decide_eq_true eN
         by_cases cV : (wrap64 (4 + bl)) ≤ (a0.size : Int)
         ·rw [if_pos cV] at H
          have eF := eq_true cV
          have c14b1 : decide ((wrap64 (4 + bl)) ≤ (a0.size : Int)) = true := decide_eq_true cV
          simp only [Option.some.injEq, Prod.mk.injEq] at H
          obtain ⟨rfl, rfl, rfl⟩ := H
          have p5 : 0 ≤ (0 : Int) := Z23
          have q5 : 0 < a0.size := (by have : (0 : Int) < (a0.size : Int) := of_decide_eq_true Z7; omega)
          have hx5 : ∀ h : 0 < a0.size, ((a0[0]'h).toNat : Int) = bt a0 0 := bt_at a0 0
          clear p5
          have qi5 : (0 < (a0.size : Int)) = True := eq_true (of_decide_eq_true Z7)
          replace q5 := eq_true q5
          have p8 : 0 ≤ (1 : Int) := Z23
          have q8 : 1 < a0.size := (by have : (1 : Int) < (a0.size : Int) := of_decide_eq_true Z7; omega)
          have hx8 : ∀ h : 1 < a0.size, ((a0[1]'h).toNat : Int) = bt a0 1 := bt_at a0 1
          clear p8
          have qi8 : (1 < (a0.size : Int)) = True := eq_true (of_decide_eq_true Z7)
          replace q8 := eq_true q8
          go_enter Tryz.func38, Tryz.ntmps38
          go_wp2_with (first | ((with_reducible refine gate_callee (f := 83) rfl ?_); refine goesL_ (some 26) rfl rfl Tryz.func83 Z12 rfl #[.string a0] rfl Z3 ?_; (with_reducible refine (frame_size.calls a0 aM _ io.out).mono ?_); rintro e w' ⟨rfl, ⟨nd, rfl⟩⟩; refine ⟨_, rfl, ?_⟩) | ((with_reducible refine gate_callee (f := 83) rfl ?_); refine goesL_ (some 32) rfl rfl Tryz.func83 Z12 rfl #[.string a0] rfl Z3 ?_; (with_reducible refine (frame_size.calls a0 bl _ iz.out).mono ?_); rintro e w' ⟨rfl, ⟨nd, rfl⟩⟩; refine ⟨_, rfl, ?_⟩))
          go_ret3
          exact ⟨Z8, Z11⟩
         ·rw [if_neg cV] at H
          exact absurd H Z27
        ·rw [if_neg eN] at H
         exact absurd H Z27
      ·rw [if_neg c9] at H
       exact absurd H Z27
     ·rw [if_neg c7] at H
      exact absurd H Z27
    ·rw [if_neg c6] at H
     exact absurd H Z27
   ·rw [if_neg c4] at H
    exact absurd H Z27

/-! ### frame_next: function 86 -/
/-- A TLV at a place, and what is behind it; of one that is padding nothing is told. -/
def frame_next.f (s : ByteArray) (p : Int) (q : Int) (b : Bool) : Option (Int × Int × ByteArray × ByteArray × Int × Int × Bool) := (cursor_Num.f s p q b 1).bind fun x => if x.1 = 0 then none else (cursor_Num.f x.2.1 x.2.2.1 x.2.2.2.1 x.2.2.2.2 1).bind fun y => (cursor_Text.f y.2.1 y.2.2.1 y.2.2.2.1 y.2.2.2.2 y.1).bind fun z => some (x.1, p, z)
def frame_next.T7 : Bool × List (List Nat × List Nat) := (true, [([], []), ([], []), ([0, 0], [0]), ([1, 2, 0, 1, 2], [1])])
def frame_next.B7 : List Nat := [0, 0, 1, 7]
theorem frame_next.tab7 : rtab .any (opsOf Tryz.f86 7) = frame_next.T7 := by kernel_rfl
theorem frame_next.bits7 : waitsOk frame_next.T7.2 frame_next.B7 = true := by kernel_rfl
set_option maxHeartbeats 8000000 in
set_option maxRecDepth 100000 in
theorem frame_next.calls (s : ByteArray) (p q : Int) (b : Bool) (r1 r2 : Int) (r3 : ByteArray) (r4 : ByteArray) (r5 r6 : Int) (r7 : Bool) (w : World) (h : frame_next.f s p q b = some (r1, r2, r3, r4, r5, r6, r7)) :
  Calls Tryz.prog 86 #[.agg #[.string s, .int .i64 p, .int .i64 q, .bool b]] w fun e w' => e = .returned (.tuple #[.agg #[.int .i64 r1, .int .i64 r2, .string r3], .agg #[.string r4, .int .i64 r5, .int .i64 r6, .bool r7]]) ∧ Below w.heap.size w w' := by
 obtain ⟨⟨x, s1, p1, q1, b1⟩, h1, h⟩ := Option.bind_eq_some_iff.mp h
 have A1 := Aside0.mk h1
 by_cases c : x = 0
 ·rw [if_pos c] at h; cases h
 rw [if_neg c] at h
 obtain ⟨⟨n, s2, p2, q2, b2⟩, h2, h⟩ := Option.bind_eq_some_iff.mp h
 have A2 := Aside0.mk h2
 obtain ⟨⟨d, s3, p3, q3, b3⟩, h3, h⟩ := Option.bind_eq_some_iff.mp h
 have A3 := Aside0.mk h3
 simp only [Option.some.injEq, Prod.mk.injEq] at h
 obtain ⟨rfl, rfl, rfl, rfl, rfl, rfl, rfl⟩ := h
 have c0 : (x == 0) = false := beq_eq_false_iff_ne.mpr c
 clear h1 h2 h3 c
 have hu48 := Tryz.underlying48
 have hu105 := Tryz.underlying105
 have HO := Bx.start w
 go_enter Tryz.func86, Tryz.ntmps86
 go_upto_region 7 with (first | ((with_reducible refine gate_dst (N := 1) rfl ?_); refine Bx.mk 1 #[.string s, .int .i64 p, .int .i64 q, .bool b] 105 HO ?_; clear HO; intro g1 w1 HO) | ((with_reducible refine gate_dst (N := 2) rfl ?_); refine Bx.mk 2 #[.int .i64 0, .int .i64 0, .string ⟨#[]⟩] 48 HO ?_; clear HO; intro g2 w2 HO) | ((with_reducible refine gate_dst (N := 3) rfl ?_); refine Bx.mk 3 #[.string ⟨#[]⟩, .int .i64 0, .int .i64 0, .bool false] 105 HO ?_; clear HO; intro g3 w3 HO) | ((with_reducible refine Pre.gate_load 3 rfl ?_); (try (refine gate_guard Z16 ?_; dsimp only)); refine Bx.ld HO Tryz.underlying3 ?_) | ((with_reducible refine gate_dst (N := 4) rfl ?_); refine Bx.mk 4 #[.int .i64 0, .int .i64 0, .string ⟨#[]⟩] 48 HO ?_; clear HO; intro g4 w4 HO) | ((with_reducible refine Pre.gate_store 48 rfl ?_); refine Bx.sts HO ?_; clear HO; intro w9 HO) | ((with_reducible refine Pre.gate_store 3 rfl ?_); refine Bx.st HO ?_; clear HO; intro w9 HO) | ((with_reducible refine Pre.gate_load 105 rfl ?_); refine Bx.lds [.string s, .int .i64 p, .int .i64 q, .bool b] HO Tryz.underlying105 ?_) | ((with_reducible refine Pre.gate_load 105 rfl ?_); refine Bx.lds [.string s1, .int .i64 p1, .int .i64 q1, .bool b1] HO Tryz.underlying105 ?_) | ((with_reducible refine Pre.gate_load 105 rfl ?_); refine Bx.lds [.string s2, .int .i64 p2, .int .i64 q2, .bool b2] HO Tryz.underlying105 ?_) | ((with_reducible refine gate_callee (f := 144) rfl ?_); refine goesL_ (some 11) rfl rfl Tryz.func144 Z12 rfl #[.agg #[.string s, .int .i64 p, .int .i64 q, .bool b], .int .i64 1] rfl (by (try simp only [List.map_toArray, List.map_cons, List.map_nil]); first | done | rfl) ?_; (with_reducible refine (cursor_Num.calls s p q b 1 x s1 p1 q1 b1 _ A1.out).mono ?_); rintro e w8 ⟨rfl, hb⟩; refine ⟨_, rfl, ?_⟩; replace HO := Bx.stp HO hb; clear hb) | ((with_reducible refine gate_callee (f := 144) rfl ?_); refine goesL_ (some 22) rfl rfl Tryz.func144 Z12 rfl #[.agg #[.string s1, .int .i64 p1, .int .i64 q1, .bool b1], .int .i64 1] rfl (by (try simp only [List.map_toArray, List.map_cons, List.map_nil]); first | done | rfl) ?_; (with_reducible refine (cursor_Num.calls s1 p1 q1 b1 1 n s2 p2 q2 b2 _ A2.out).mono ?_); rintro e w8 ⟨rfl, hb⟩; refine ⟨_, rfl, ?_⟩; replace HO := Bx.stp HO hb; clear hb) | ((with_reducible refine gate_callee (f := 145) rfl ?_); refine goesL_ (some 28) rfl rfl Tryz.func145 Z12 rfl #[.agg #[.string s2, .int .i64 p2, .int .i64 q2, .bool b2], .int .i64 n] rfl (by (try simp only [List.map_toArray, List.map_cons, List.map_nil]); first | done | rfl) ?_; (with_reducible refine (cursor_Text.calls s2 p2 q2 b2 n d s3 p3 q3 b3 _ A3.out).mono ?_); rintro e w8 ⟨rfl, hb⟩; refine ⟨_, rfl, ?_⟩; replace HO := Bx.stp HO hb; clear hb) | ((with_reducible refine Pre.gate_store 105 rfl ?_); refine Bx.sts HO ?_; clear HO; intro w9 HO) | ((with_reducible refine Pre.gate_store 9 rfl ?_); refine Bx.st HO ?_; clear HO; intro w9 HO))
 refine Bx.rgo (Sq.b 4 0) [3] [(g4, #[.int .i64 x, .int .i64 p, .string d], 48), (g1, #[.string s3, .int .i64 p3, .int .i64 q3, .bool b3], 105)] frame_next.tab7 frame_next.bits7 HO ?_
 clear HO
 intro w9 HO HS HT_ HW_
 refine Bx.rlds 0 32 (Sq.b 4 1) [.int .i64 x, .int .i64 p, .string d] HT_ HW_ HS Tryz.underlying48 ?_
 refine Bx.rlds 1 33 (Sq.b 4 3) [.string s3, .int .i64 p3, .int .i64 q3, .bool b3] HT_ HW_ HS Tryz.underlying105 ?_
 refine Bx.rsts1 2 (Sq.b 4 7) HT_ HO ?_
 clear HO
 intro w9 HO
 refine Bx.rsts 3 (Sq.b 4 15) HT_ HO ?_
 clear HO
 intro w9 HO
 refine done_ (done_of HT_.out Z12) ?_
 go_wp2
 exact Bx.ret [.cell 2 48, .cell 3 105] (Bx.vc HO Tryz.underlying48 (Bx.vc HO Tryz.underlying105 .nil)) ⟨rfl, Bx.fin HO⟩

/-! ### frame_Split: function 39 -/
/-- The cells of the TLVs behind a place, one behind the other; where one breaks off nothing is told. -/
def frame_Split.l : Nat → Int → ByteArray → Int → Int → Nat → List Value → Option (Nat × List Value)
 | 0, _, _, _, _, _, _ => none
 | k + 1, a1, s, p, q, n, xs => (cursor_Left.f s p q false).bind fun m => if 0 < m then (frame_next.f s p q false).bind fun t => if t.2.2.2.2.2.2 = false ∧ n < 999 then frame_Split.l k a1 t.2.2.2.1 t.2.2.2.2.1 t.2.2.2.2.2.1 (n + 1) (xs ++ [.int .i64 t.1, .int .i64 (wrap64 (t.2.1 + a1)), .string t.2.2.1]) else none else some (n, xs)
def frame_Split.f (k : Nat) (a0 : ByteArray) (a1 : Int) : Option (Nat × List Value) := frame_Split.l k a1 a0 0 a0.size 0 []
def frame_Split.T8 : Bool × List (List Nat × List Nat) := (true, [([], []), ([], []), ([1], [1]), ([0, 2], [0, 2]), ([], []), ([3, 3, 0, 1, 2, 3], [0, 3]), ([4, 5, 0, 1, 2, 3, 4, 5], [4])])
def frame_Split.B8 : List Nat := [0, 0, 2, 7, 0, 15, 63]
theorem frame_Split.tab8 : rtab .any (opsOf Tryz.f39 8) = frame_Split.T8 := by kernel_rfl
theorem frame_Split.bits8 : waitsOk frame_Split.T8.2 frame_Split.B8 = true := by kernel_rfl
set_option maxHeartbeats 8000000 in
set_option maxRecDepth 100000 in
theorem frame_Split.calls (k : Nat) (a0 : ByteArray) (a1 : Int) (n : Nat) (xs : List Value) (B : Nat) (hs : List Bx.Box) (w0 w : World) (HO : Aside0 (Bx.Own B w0 w hs)) (h : frame_Split.f k a0 a1 = some (n, xs)) :
  Calls Tryz.prog 39 #[.string a0, .int .i64 a1] w fun e w' => ∃ v rs, e = .returned (.tuple #[v, .int .i64 0, .int .i64 0]) ∧ Aside0 (Bx.Rowed 3 n v xs 48 rs) ∧ Aside0 (Bx.Own B w0 w' (rs ++ hs)) := by
 have HL := Aside0.mk h
 clear h
 have hu48 := Tryz.underlying48
 have hu105 := Tryz.underlying105
 go_enter Tryz.func39, Tryz.ntmps39
 go_wp2_with (first | ((with_reducible refine gate_callee (f := 84) rfl ?_); refine goesL_ (some 12) rfl rfl Tryz.func84 Z12 rfl #[.string a0] rfl (by (try simp only [List.map_toArray, List.map_cons, List.map_nil]); first | done | rfl) ?_; (with_reducible refine (cursor_New.calls a0 a0 0 a0.size false _ rfl).mono ?_); rintro e w8 ⟨rfl, hb⟩; refine ⟨_, rfl, ?_⟩; replace HO := Bx.stp HO hb; clear hb) | ((with_reducible refine gate_dst (N := 8) rfl ?_); refine Bx.mk 8 #[.string ⟨#[]⟩, .int .i64 0, .int .i64 0, .bool false] 105 HO ?_; clear HO; intro g0 w8 HO) | ((with_reducible refine Pre.gate_store 105 rfl ?_); refine Bx.sts HO ?_; clear HO; intro w9 HO))
 simp only [Act.put, Sq.s1, Sq.s2, Sq.s3]
 go_loopg [7, 8] k (fun kq v7 v8 w' => ∃ (g : Nat) (s : ByteArray) (p q : Int) (m : Nat) (ys : List Value) (rs : List Bx.Box), v8 = .pointer (some ⟨g, 0, none⟩) ∧ Aside0 (kq ≤ k) ∧ Aside0 (frame_Split.l kq a1 s p q m ys = some (n, xs)) ∧ Aside0 (Bx.Rowed 3 m v7 ys 48 rs) ∧ Aside0 (Bx.Own B w0 w' ((g, #[.string s, .int .i64 p, .int .i64 q, .bool false], 105) :: (rs ++ hs))))
 case atStart => exact ⟨g0, _, _, _, _, _, _, rfl, ⟨Nat.le_refl _⟩, HL, ⟨.nil⟩, HO⟩
 case round =>
  clear HL HO
  obtain ⟨g, s, p, q, m, ys, rs, rfl, HK1, HA, HR, HO⟩ := hrel
  cases gk with
  | zero => exact absurd HA.out (by simp [frame_Split.l])
  | succ k1 =>
   have H := HA.out
   clear HA
   obtain ⟨l, hl, H⟩ := Option.bind_eq_some_iff.mp H
   have A1 := Aside0.mk hl
   clear hl
   by_cases c : 0 < l
   rotate_left
   ·rw [if_neg c] at H
    simp only [Option.some.injEq, Prod.mk.injEq] at H
    obtain ⟨rfl, rfl⟩ := H
    have c1 : decide (0 < l) = false := decide_eq_false c
    clear c
    go_wp2_with (first | ((with_reducible refine Pre.gate_load 105 rfl ?_); refine Bx.lds [.string s, .int .i64 p, .int .i64 q, .bool false] HO Tryz.underlying105 ?_) | ((with_reducible refine gate_callee (f := 85) rfl ?_); refine goesL_ (some 14) rfl rfl Tryz.func85 Z12 rfl #[.agg #[.string s, .int .i64 p, .int .i64 q, .bool false]] rfl (by (try simp only [List.map_toArray, List.map_cons, List.map_nil]); first | done | rfl) ?_; (with_reducible refine (cursor_Left.calls s p q false l _ A1.out).mono ?_); rintro e w8 ⟨rfl, hb⟩; refine ⟨_, rfl, ?_⟩; replace HO := Bx.stp HO hb; clear hb))
    go_ret3
    exact ⟨_, _, rfl, HR, Bx.drop HO⟩
   rw [if_pos c] at H
   have c1 : decide (0 < l) = true := decide_eq_true c
   obtain ⟨⟨ty, p_, d, s1, p1, q1, b1⟩, h2, H'⟩ := Option.bind_eq_some_iff.mp H
   clear H
   have H := H'
   clear H'
   have e_ : p_ = p := by
    obtain ⟨x, _, h2⟩ := Option.bind_eq_some_iff.mp h2
    split at h2
    ·cases h2
    ·obtain ⟨y, _, h2⟩ := Option.bind_eq_some_iff.mp h2
     obtain ⟨z, _, h2⟩ := Option.bind_eq_some_iff.mp h2
     simp only [Option.some.injEq, Prod.mk.injEq] at h2
     exact h2.2.1.symm
   rw [e_] at h2
   try dsimp only at H
   rw [e_] at H
   clear e_
   have A2 := Aside0.mk h2
   clear h2 c
   by_cases c2 : b1 = false ∧ m < 999
   rotate_left
   ·rw [if_neg c2] at H; cases H
   rw [if_pos c2] at H
   obtain ⟨rfl, c3⟩ := c2
   have HA := Aside0.mk H
   have LM := Aside0.mk c3
   clear H c3
   go_upto_region 8 with (first | ((with_reducible refine Pre.gate_load 105 rfl ?_); refine Bx.lds [.string s, .int .i64 p, .int .i64 q, .bool false] HO Tryz.underlying105 ?_) | ((with_reducible refine gate_callee (f := 85) rfl ?_); refine goesL_ (some 14) rfl rfl Tryz.func85 Z12 rfl #[.agg #[.string s, .int .i64 p, .int .i64 q, .bool false]] rfl (by (try simp only [List.map_toArray, List.map_cons, List.map_nil]); first | done | rfl) ?_; (with_reducible refine (cursor_Left.calls s p q false l _ A1.out).mono ?_); rintro e w8 ⟨rfl, hb⟩; refine ⟨_, rfl, ?_⟩; replace HO := Bx.stp HO hb; clear hb) | ((with_reducible refine gate_callee (f := 86) rfl ?_); refine goesL_ (some 18) rfl rfl Tryz.func86 Z12 rfl #[.agg #[.string s, .int .i64 p, .int .i64 q, .bool false]] rfl (by (try simp only [List.map_toArray, List.map_cons, List.map_nil]); first | done | rfl) ?_; (with_reducible refine (frame_next.calls s p q false ty p d s1 p1 q1 false _ A2.out).mono ?_); rintro e w8 ⟨rfl, hb⟩; refine ⟨_, rfl, ?_⟩; replace HO := Bx.stp HO hb; clear hb) | ((with_reducible refine gate_dst (N := 9) rfl ?_); refine Bx.mk 9 #[.int .i64 0, .int .i64 0, .string ⟨#[]⟩] 48 HO ?_; clear HO; intro g2 w9 HO) | ((with_reducible refine gate_dst (N := 10) rfl ?_); refine Bx.mk 10 #[.string ⟨#[]⟩, .int .i64 0, .int .i64 0, .bool false] 105 HO ?_; clear HO; intro g3 dL HO) | ((with_reducible refine Pre.gate_store 48 rfl ?_); refine Bx.sts HO ?_; clear HO; intro w9 HO) | ((with_reducible refine Pre.gate_store 105 rfl ?_); refine Bx.sts HO ?_; clear HO; intro w9 HO) | ((with_reducible refine Pre.gate_load 3 rfl ?_); (try (refine gate_guard Z16 ?_; dsimp only)); refine Bx.ld HO Tryz.underlying3 ?_) | ((with_reducible refine Pre.gate_store 3 rfl ?_); refine Bx.st HO ?_; clear HO; intro w9 HO) | ((with_reducible refine Pre.gate_load 4 rfl ?_); (try (refine gate_guard Z16 ?_; dsimp only)); refine Bx.ld HO Tryz.underlying4 ?_))
   refine Bx.rgo (Sq.b 7 0) [6] [(g3, #[.string s1, .int .i64 p1, .int .i64 q1, .bool false], 105), (g2, #[.int .i64 ty, .int .i64 (wrap64 (p + a1)), .string d], 48)] frame_Split.tab8 frame_Split.bits8 HO ?_
   clear HO
   intro w9 HO HS HT_ HW_
   refine Sq.pur 0 (some 30) (Sq.b 7 1) HT_.out ?_
   refine Bx.rlds 1 31 (Sq.b 7 3) [.int .i64 ty, .int .i64 (wrap64 (p + a1)), .string d] HT_ HW_ HS Tryz.underlying48 ?_
   refine Bx.rlds 4 34 (Sq.b 7 19) [.string s1, .int .i64 p1, .int .i64 q1, .bool false] HT_ HW_ HS Tryz.underlying105 ?_
   refine Bx.rlit 2 32 (Sq.b 7 23) #[.int .i64 ty, .int .i64 (wrap64 (p + a1)), .string d] 48 1 HT_ HO ?_
   clear HO HS
   intro g4 w9 HO
   replace HO := Bx.front [_, _, _, _] HO
   refine Bx.rapp 3 33 (Sq.b 7 31) [.int .i64 ty, .int .i64 (wrap64 (p + a1)), .string d] HT_ HO HR.out Tryz.underlying40 info48 ?_ (h63 := by have := LM.out; omega)
   clear HO
   intro v2 g5 c5 w9 hR2 HO
   replace HR := Aside0.mk (Bx.Rowed.row Z23 hR2)
   clear hR2
   refine norm_ (a' := ?_) ?_ ?_
   rotate_left
   ·simp only [Act.put, Sq.s1, Sq.s2, Sq.s3]
    rfl
   refine Sq.pur 5 (some 7) (Sq.b 7 63) HT_.out ?_
   refine Bx.rsts 6 (Sq.b 7 127) HT_ HO ?_
   clear HO
   intro w9 HO
   refine done_ (done_of HT_.out Z12) ?_
   go_wp2_with (first | ((with_reducible refine Pre.gate_load 105 rfl ?_); refine Bx.lds [.string s1, .int .i64 p1, .int .i64 q1, .bool false] HO Tryz.underlying105 ?_) | ((with_reducible refine gate_dst (N := 8) rfl ?_); refine Bx.mk 8 #[.string ⟨#[]⟩, .int .i64 0, .int .i64 0, .bool false] 105 HO ?_; clear HO; intro g6 w8 HO) | ((with_reducible refine Pre.gate_store 105 rfl ?_); refine Bx.sts HO ?_; clear HO; intro w9 HO))
   go_roundg k1
   case measure => have := HK1.out; omega
   case rel => exact ⟨g6, _, _, _, _, _, _, rfl, ⟨Z35⟩, HA, HR, ⟨HO.out.sub (by repeat (first | exact List.Sublist.refl _ | apply List.Sublist.cons_cons | apply List.Sublist.cons))⟩⟩

/-! ### frame_Trailer: function 40 -/
def frame_Trailer.f (a0 : ByteArray) : Option (ByteArray) := (frame_size.f a0).bind fun aM => (if 0 ≤ (wrap64 (4 + aM)) then (if (wrap64 (4 + aM)) ≤ (a0.size : Int) then (some (a0.extract ((wrap64 (4 + aM)) : Int).toNat a0.size)) else (none)) else (none))
set_option maxHeartbeats 8000000 in
set_option maxRecDepth 100000 in
theorem frame_Trailer.calls (a0 : ByteArray) (r : ByteArray) (w : World) (h : frame_Trailer.f a0 = some r) :
  Calls Tryz.prog 40 #[.string a0] w fun e w' => e = .returned (.string r) ∧ Drawn0 w w' := by
 have H : ((frame_size.f a0).bind fun aM => (if 0 ≤ (wrap64 (4 + aM)) then (if (wrap64 (4 + aM)) ≤ (a0.size : Int) then (some (a0.extract ((wrap64 (4 + aM)) : Int).toNat a0.size)) else (none)) else (none))) = some r := h
 clear h
 replace H := Option.bind_eq_some_iff.mp H
 obtain ⟨aM, dQ, H⟩ := H
 replace H : (if 0 ≤ (wrap64 (4 + aM)) then (if (wrap64 (4 + aM)) ≤ (a0.size : Int) then (some (a0.extract ((wrap64 (4 + aM)) : Int).toNat a0.size)) else (none)) else (none)) = some r := H
 have A2 := Aside0.mk dQ
 clear dQ
 obtain ⟨ji3, hji3⟩ : ∃ j_ : Int, (wrap64 (4 + aM)) = j_ := ⟨_, rfl⟩
 replace H : (if 0 ≤ (ji3) then (if (ji3) ≤ (a0.size : Int) then (some (a0.extract ((ji3) : Int).toNat a0.size)) else (none)) else (none)) = some r := by first | (rw [hji3] at H; exact H) | (simp only [hji3] at H ⊢; exact H)
 (try rw [hji3] at A2)
 have hji3w : (IntKind.i64.wrap (4 + aM)) = ji3 := (i64_w _).trans hji3
 by_cases c4 : 0 ≤ (ji3)
 ·rw [if_pos c4] at H
  have bP := eq_true c4
  have cl : decide (0 ≤ (ji3)) = true := decide_eq_true c4
  clear c4
  by_cases c5 : (ji3) ≤ (a0.size : Int)
  ·rw [if_pos c5] at H
   have ca := eq_true c5
   have dM : decide ((ji3) ≤ (a0.size : Int)) = true := decide_eq_true c5
   clear c5
   obtain rfl := Option.some.inj H
   go_enter Tryz.func40, Tryz.ntmps40
   go_wp2_with (first | ((with_reducible refine gate_callee (f := 83) rfl ?_); refine goesL_ (some 5) rfl rfl Tryz.func83 Z12 rfl #[.string a0] rfl Z3 ?_; (with_reducible refine (frame_size.calls a0 aM _ A2.out).mono ?_); rintro e w' ⟨rfl, ⟨nd, rfl⟩⟩; refine ⟨_, rfl, ?_⟩))
   go_ret
   exact ⟨by first | rfl | (simp; done) | (simp only [← hji3] <;> (first | rfl | simp)) | (simp [*]; done), Z11⟩
  ·rw [if_neg c5] at H
   exact absurd H Z27
 ·rw [if_neg c4] at H
  exact absurd H Z27

end Go.Proofs.YtnllanjoebjeiaaGreat.PV
