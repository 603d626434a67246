-- Written by mp.py, a program of this work (wip/tools), out of the translation; Lean checks it.
import Derived.Test.YtccjakjjaemmkaaPAExZ
import Derived.Test.YtccjakjjaemmkaaPAExoctet
import Derived.Test.YtccjakjjaemmkaaPAExroadbookref13
import Derived.Test.YtccjakjjaemmkaaPAExroadbookref14
import Derived.Test.YtccjakjjaemmkaaLoad
namespace Go.Proofs.Ytccjakjjaemmkaa.PAE
open Go.RowKit Go.Proofs.YtccjakjjaemmkaaW.PrintWords Go.Proofs.YtccjakjjaemmkaaW.PrintLast Go.Proofs.YtccjakjjaemmkaaW.PrintMore
attribute [local go_sem] max2_int min2_int max_two min_two max_three min_three max_four min_four   -- for this text's walks alone
set_option linter.unusedVariables false
set_option linter.unusedSimpArgs false

/-! ### roadbookref15_Put: function 35 -/
def roadbookref15_Put.f (k : Nat) (aD : Int) (aw : Int) (ax : Int) (au : ByteArray) (aA : Int) (ay : Int) (av : ByteArray) (ar : Int) (aC : Int) (az : ByteArray) (ao : Int) (am : ByteArray) (ah : Int) (aj : Int) (ak : Int) (ae : Int) (ag : Int) (ai : Int) (an : Int) (aa : ByteArray) (ab : ByteArray) (ac : List (S46)) (ap : Int) (aq : ByteArray) (af : List (S48)) : Option (ByteArray × Bool) := (roadbookref15_Right.f k aD aw ax au aA ay av ar aC az ao am ah aj ak ae ag ai an aa ab ac ap aq af).bind fun aU => (if aU = true then ((roadbookref13_Put.f k af).bind fun bR => (if aD = 6 then (if 2 + bR.1.size ≤ 9223372036854775807 then (some ((⟨#[4, 0]⟩ : ByteArray) ++ bR.1, true)) else (none)) else ((some (([(wrap64 (64 * ae)) % 256, (ar) % 256, (ag) % 256] : List Int) : List Int)).bind fun aI => (if 1 + (strOfNums aI).size ≤ 9223372036854775807 then (if ((⟨#[2]⟩ : ByteArray) ++ (strOfNums aI)).size + aa.size ≤ 9223372036854775807 then ((roadbookref02_Of.f k ah 4).bind fun aH => (if (((⟨#[2]⟩ : ByteArray) ++ (strOfNums aI)) ++ aa).size + aH.size ≤ 9223372036854775807 then (if ((((⟨#[2]⟩ : ByteArray) ++ (strOfNums aI)) ++ aa) ++ aH).size + ab.size ≤ 9223372036854775807 then ((roadbookref02_Of.f k ak 4).bind fun aQ => (if (((((⟨#[2]⟩ : ByteArray) ++ (strOfNums aI)) ++ aa) ++ aH) ++ ab).size + aQ.size ≤ 9223372036854775807 then (if ((((((⟨#[2]⟩ : ByteArray) ++ (strOfNums aI)) ++ aa) ++ aH) ++ ab) ++ aQ).size + bR.1.size ≤ 9223372036854775807 then (some (((((((⟨#[2]⟩ : ByteArray) ++ (strOfNums aI)) ++ aa) ++ aH) ++ ab) ++ aQ) ++ bR.1, true)) else (none)) else (none))) else (none)) else (none))) else (none)) else (none))))) else (some ((⟨#[]⟩ : ByteArray), false)))
theorem roadbookref15_Put.mono : ∀ a0 a1 a2 a3 a4 a5 a6 a7 a8 a9 dY dZ ea eb ec ed ee ef eg eh ei ej ek el em k, LeO (roadbookref15_Put.f k a0 a1 a2 a3 a4 a5 a6 a7 a8 a9 dY dZ ea eb ec ed ee ef eg eh ei ej ek el em) (roadbookref15_Put.f (k + 1) a0 a1 a2 a3 a4 a5 a6 a7 a8 a9 dY dZ ea eb ec ed ee ef eg eh ei ej ek el em) := by
 intros
 rename_i k
 unfold roadbookref15_Put.f
 have m0 := roadbookref02_Of.mono
 have m1 := roadbookref13_Put.mono
 have m2 := roadbookref15_Right.mono
 exact Sq.mo
def roadbookref15_Put.T6 : Bool × List (List Nat × List Nat) := (true, [([], []), ([0], [0]), ([1], [1]), ([2], [2]), ([], []), ([4], [4]), ([5], [5]), ([], []), ([7], [7]), ([8], [8]), ([3, 6, 9], [3, 6, 9]), ([10], [10]), ([11], [11]), ([], []), ([13], [13]), ([12, 14], [12, 14]), ([], []), ([16], [16]), ([17], [17]), ([15, 18], [15, 18]), ([], []), ([20], [20]), ([19, 21], [19, 21]), ([], []), ([23], [23]), ([24, 18], [24]), ([22, 25], [22, 25]), ([], []), ([26, 27], [26, 27]), ([28, 25, 0, 1, 2, 3, 4, 5, 6, 7, 8, 9, 10, 11, 12, 13, 14, 15, 16, 17, 18, 19, 20, 21, 22, 23, 24, 25, 26, 27, 28], [28]), ([29, 0, 1, 2, 3, 4, 5, 6, 7, 8, 9, 10, 11, 12, 13, 14, 15, 16, 17, 18, 19, 20, 21, 22, 23, 24, 25, 26, 27, 28, 29], [])])
def roadbookref15_Put.B6 : List Nat := [0, 1, 3, 7, 0, 16, 48, 0, 128, 384, 1023, 2047, 4095, 0, 8192, 32767, 0, 65536, 196608, 524287, 0, 1048576, 4194303, 0, 8388608, 25624576, 67108863, 0, 268435455, 536870911, 1073741823]
theorem roadbookref15_Put.tab6 : rtab .any (opsOf Try.f35 6) = roadbookref15_Put.T6 := by kernel_rfl
theorem roadbookref15_Put.bits6 : waitsOk roadbookref15_Put.T6.2 roadbookref15_Put.B6 = true := by kernel_rfl

set_option maxHeartbeats 8000000 in
set_option maxRecDepth 100000 in
theorem roadbookref15_Put.calls (k : Nat) (aD : Int) (aw : Int) (ax : Int) (au : ByteArray) (aA : Int) (ay : Int) (av : ByteArray) (ar : Int) (aC : Int) (az : ByteArray) (ao : Int) (am : ByteArray) (ah : Int) (aj : Int) (ak : Int) (ae : Int) (ag : Int) (ai : Int) (an : Int) (aa : ByteArray) (ab : ByteArray) (aP : Option Addr) (aN : Nat) (ac : List (S46)) (ap : Int) (aq : ByteArray) (aJ : Option Addr) (aK : Nat) (af : List (S48)) (r1 : ByteArray) (r2 : Bool) (w : World) (bk : Kd.C k46 w aP ac.length ac) (bl : ac.length ≤ aN) (bm : Kd.C k48 w aJ af.length af) (bn : af.length ≤ aK) (h : roadbookref15_Put.f k aD aw ax au aA ay av ar aC az ao am ah aj ak ae ag ai an aa ab ac ap aq af = some (r1, r2)) :
  Calls Try.prog 35 #[.agg #[.int .i64 aD, .int .i64 aw, .int .i64 ax, .string au, .int .i64 aA, .int .i64 ay, .string av, .int .i64 ar, .int .i64 aC, .string az, .int .i64 ao, .string am, .int .i64 ah, .int .i64 aj, .int .i64 ak, .int .i64 ae, .int .i64 ag, .int .i64 ai, .int .i64 an, .string aa, .string ab, .slice aP ac.length aN, .int .i64 ap, .string aq, .slice aJ af.length aK]] w fun e w' => e = .returned (.tuple #[.string r1, .bool r2]) ∧ Below w.heap.size w w' := by
 have dM := Try.underlying25
 have cc := Aside0.mk bk
 have aZ := Aside0.mk bl
 clear bk bl
 have bZ := Aside0.mk bm
 have aT := Aside0.mk bn
 clear bm bn
 have HB := Aside0.mk (Below.refl w.heap.size w)
 have H : ((roadbookref15_Right.f k aD aw ax au aA ay av ar aC az ao am ah aj ak ae ag ai an aa ab ac ap aq af).bind fun aU => (if aU = true then ((roadbookref13_Put.f k af).bind fun bR => (if aD = 6 then (if 2 + bR.1.size ≤ 9223372036854775807 then (some ((⟨#[4, 0]⟩ : ByteArray) ++ bR.1, true)) else (none)) else ((some (([(wrap64 (64 * ae)) % 256, (ar) % 256, (ag) % 256] : List Int) : List Int)).bind fun aI => (if 1 + (strOfNums aI).size ≤ 9223372036854775807 then (if ((⟨#[2]⟩ : ByteArray) ++ (strOfNums aI)).size + aa.size ≤ 9223372036854775807 then ((roadbookref02_Of.f k ah 4).bind fun aH => (if (((⟨#[2]⟩ : ByteArray) ++ (strOfNums aI)) ++ aa).size + aH.size ≤ 9223372036854775807 then (if ((((⟨#[2]⟩ : ByteArray) ++ (strOfNums aI)) ++ aa) ++ aH).size + ab.size ≤ 9223372036854775807 then ((roadbookref02_Of.f k ak 4).bind fun aQ => (if (((((⟨#[2]⟩ : ByteArray) ++ (strOfNums aI)) ++ aa) ++ aH) ++ ab).size + aQ.size ≤ 9223372036854775807 then (if ((((((⟨#[2]⟩ : ByteArray) ++ (strOfNums aI)) ++ aa) ++ aH) ++ ab) ++ aQ).size + bR.1.size ≤ 9223372036854775807 then (some (((((((⟨#[2]⟩ : ByteArray) ++ (strOfNums aI)) ++ aa) ++ aH) ++ ab) ++ aQ) ++ bR.1, true)) else (none)) else (none))) else (none)) else (none))) else (none)) else (none))))) else (some ((⟨#[]⟩ : ByteArray), false)))) = some (r1, r2) := h
 clear h
 replace H := Option.bind_eq_some_iff.mp H
 obtain ⟨aU, dL, H⟩ := H
 replace H : (if aU = true then ((roadbookref13_Put.f k af).bind fun bR => (if aD = 6 then (if 2 + bR.1.size ≤ 9223372036854775807 then (some ((⟨#[4, 0]⟩ : ByteArray) ++ bR.1, true)) else (none)) else ((some (([(wrap64 (64 * ae)) % 256, (ar) % 256, (ag) % 256] : List Int) : List Int)).bind fun aI => (if 1 + (strOfNums aI).size ≤ 9223372036854775807 then (if ((⟨#[2]⟩ : ByteArray) ++ (strOfNums aI)).size + aa.size ≤ 9223372036854775807 then ((roadbookref02_Of.f k ah 4).bind fun aH => (if (((⟨#[2]⟩ : ByteArray) ++ (strOfNums aI)) ++ aa).size + aH.size ≤ 9223372036854775807 then (if ((((⟨#[2]⟩ : ByteArray) ++ (strOfNums aI)) ++ aa) ++ aH).size + ab.size ≤ 9223372036854775807 then ((roadbookref02_Of.f k ak 4).bind fun aQ => (if (((((⟨#[2]⟩ : ByteArray) ++ (strOfNums aI)) ++ aa) ++ aH) ++ ab).size + aQ.size ≤ 9223372036854775807 then (if ((((((⟨#[2]⟩ : ByteArray) ++ (strOfNums aI)) ++ aa) ++ aH) ++ ab) ++ aQ).size + bR.1.size ≤ 9223372036854775807 then (some (((((((⟨#[2]⟩ : ByteArray) ++ (strOfNums aI)) ++ aa) ++ aH) ++ ab) ++ aQ) ++ bR.1, true)) else (none)) else (none))) else (none)) else (none))) else (none)) else (none))))) else (some ((⟨#[]⟩ : ByteArray), false))) = some (r1, r2) := H
 have A2 := Aside0.mk dL
 clear dL
 by_cases c3 : aU = true
 ·subst c3
  have H1 : ((roadbookref13_Put.f k af).bind fun bR => (if aD = 6 then (if 2 + bR.1.size ≤ 9223372036854775807 then (some ((⟨#[4, 0]⟩ : ByteArray) ++ bR.1, true)) else (none)) else ((some (([(wrap64 (64 * ae)) % 256, (ar) % 256, (ag) % 256] : List Int) : List Int)).bind fun aI => (if 1 + (strOfNums aI).size ≤ 9223372036854775807 then (if ((⟨#[2]⟩ : ByteArray) ++ (strOfNums aI)).size + aa.size ≤ 9223372036854775807 then ((roadbookref02_Of.f k ah 4).bind fun aH => (if (((⟨#[2]⟩ : ByteArray) ++ (strOfNums aI)) ++ aa).size + aH.size ≤ 9223372036854775807 then (if ((((⟨#[2]⟩ : ByteArray) ++ (strOfNums aI)) ++ aa) ++ aH).size + ab.size ≤ 9223372036854775807 then ((roadbookref02_Of.f k ak 4).bind fun aQ => (if (((((⟨#[2]⟩ : ByteArray) ++ (strOfNums aI)) ++ aa) ++ aH) ++ ab).size + aQ.size ≤ 9223372036854775807 then (if ((((((⟨#[2]⟩ : ByteArray) ++ (strOfNums aI)) ++ aa) ++ aH) ++ ab) ++ aQ).size + bR.1.size ≤ 9223372036854775807 then (some (((((((⟨#[2]⟩ : ByteArray) ++ (strOfNums aI)) ++ aa) ++ aH) ++ ab) ++ aQ) ++ bR.1, true)) else (none)) else (none))) else (none)) else (none))) else (none)) else (none))))) = some (r1, r2) := by rw [if_pos rfl] at H; exact H
  clear H
  have H := H1
  clear H1
  replace H := Option.bind_eq_some_iff.mp H
  obtain ⟨⟨aY, bg⟩, gl, H⟩ := H
  replace H : (if aD = 6 then (if 2 + aY.size ≤ 9223372036854775807 then (some ((⟨#[4, 0]⟩ : ByteArray) ++ aY, true)) else (none)) else ((some (([(wrap64 (64 * ae)) % 256, (ar) % 256, (ag) % 256] : List Int) : List Int)).bind fun aI => (if 1 + (strOfNums aI).size ≤ 9223372036854775807 then (if ((⟨#[2]⟩ : ByteArray) ++ (strOfNums aI)).size + aa.size ≤ 9223372036854775807 then ((roadbookref02_Of.f k ah 4).bind fun aH => (if (((⟨#[2]⟩ : ByteArray) ++ (strOfNums aI)) ++ aa).size + aH.size ≤ 9223372036854775807 then (if ((((⟨#[2]⟩ : ByteArray) ++ (strOfNums aI)) ++ aa) ++ aH).size + ab.size ≤ 9223372036854775807 then ((roadbookref02_Of.f k ak 4).bind fun aQ => (if (((((⟨#[2]⟩ : ByteArray) ++ (strOfNums aI)) ++ aa) ++ aH) ++ ab).size + aQ.size ≤ 9223372036854775807 then (if ((((((⟨#[2]⟩ : ByteArray) ++ (strOfNums aI)) ++ aa) ++ aH) ++ ab) ++ aQ).size + aY.size ≤ 9223372036854775807 then (some (((((((⟨#[2]⟩ : ByteArray) ++ (strOfNums aI)) ++ aa) ++ aH) ++ ab) ++ aQ) ++ aY, true)) else (none)) else (none))) else (none)) else (none))) else (none)) else (none)))) = some (r1, r2) := H
  have A4 := Aside0.mk gl
  clear gl
  by_cases c5 : aD = 6
  ·rw [if_pos c5] at H
   have dx : (aD == 6) = true := beq_iff_eq.mpr c5
   have fJ : (aD != 6) = false := bne_eq_false_iff_eq.mpr c5
   clear c5
   by_cases c6 : 2 + aY.size ≤ 9223372036854775807
   ·rw [if_pos c6] at H
    have dW := eq_true c6
    have ft : decide (2 + aY.size ≤ 9223372036854775807) = true := decide_eq_true c6
    try have ha : (9223372036854775807 < 2 + aY.size) = False := eq_false (Nat.not_lt.2 c6)
    try (have hf := ha; simp only [ByteArray.size_append] at hf)
    simp only [Option.some.injEq, Prod.mk.injEq] at H
    obtain ⟨rfl, rfl⟩ := H
    go_enter Try.func35, Try.ntmps35
    go_wp2_with (first | ((with_reducible refine Pre.gate_load 25 rfl ?_); (try (refine gate_guard Z14 ?_; dsimp only)); refine Pre.load_event rfl rfl rfl Z14 Z1 Try.underlying25 rfl Z11 ?_) | ((with_reducible refine gate_dst (N := 1) rfl ?_); refine Sq.box 1 #[.int .i64 aD, .int .i64 aw, .int .i64 ax, .string au, .int .i64 aA, .int .i64 ay, .string av, .int .i64 ar, .int .i64 aC, .string az, .int .i64 ao, .string am, .int .i64 ah, .int .i64 aj, .int .i64 ak, .int .i64 ae, .int .i64 ag, .int .i64 ai, .int .i64 an, .string aa, .string ab, .slice aP ac.length aN, .int .i64 ap, .string aq, .slice aJ af.length aK] 25 ?_; intro aE hg w7 hbox hb; have al := Aside0.mk (hbox); have cd := Aside0.mk (Sq.ge hg Z2); have bV := Aside0.mk (Sq.ge hg Z2); replace HB := Aside0.mk (below_step Z2 hb); clear hb hbox hg; have iK := cells_25 al.out) | ((with_reducible refine gate_callee (f := 37) rfl ?_); refine goesL_ (some 7) rfl rfl Try.func37 Z11 rfl #[.agg #[.int .i64 aD, .int .i64 aw, .int .i64 ax, .string au, .int .i64 aA, .int .i64 ay, .string av, .int .i64 ar, .int .i64 aC, .string az, .int .i64 ao, .string am, .int .i64 ah, .int .i64 aj, .int .i64 ak, .int .i64 ae, .int .i64 ag, .int .i64 ai, .int .i64 an, .string aa, .string ab, .slice aP ac.length aN, .int .i64 ap, .string aq, .slice aJ af.length aK]] rfl Z4 ?_; (with_reducible refine (roadbookref15_Right.calls k aD aw ax au aA ay av ar aC az ao am ah aj ak ae ag ai an aa ab _ _ ac ap aq _ _ af true _ ?side1 ?side2 ?side3 ?side4 A2.out).mono ?_); (case side1 => exact Z7); (case side2 => exact aZ.out); (case side3 => exact Z5); (case side4 => exact aT.out); rintro e w9 ⟨rfl, hb⟩; refine ⟨_, rfl, ?_⟩; replace al := Aside0.mk (blk_below (g := aE) Z3 hb); replace HB := Aside0.mk (below_step Z0 hb); clear hb; have fL := cells_25 al.out) | ((with_reducible refine gate_callee (f := 51) rfl ?_); refine goesL_ (some 12) rfl rfl Try.func51 Z11 rfl #[.slice aJ af.length aK] rfl Z4 ?_; (with_reducible refine (roadbookref13_Put.calls k _ _ af aY bg _ ?side1 ?side2 A4.out).mono ?_); (case side1 => exact Z5); (case side2 => exact aT.out); rintro e kt ⟨rfl, hb⟩; refine ⟨_, rfl, ?_⟩; replace al := Aside0.mk (blk_below (g := aE) Z3 hb); replace HB := Aside0.mk (below_step Z0 hb); clear hb; have gs := cells_25 al.out))
    go_ret2
    exact ⟨Z6, Z0⟩
   ·rw [if_neg c6] at H
    exact absurd H Z35
  ·rw [if_neg c5] at H
   have dx : (aD == 6) = false := beq_eq_false_iff_ne.mpr c5
   have fJ : (aD != 6) = true := bne_iff_ne.mpr c5
   obtain ⟨aI, hy105⟩ : ∃ y_ : List Int, y_ = (([(wrap64 (64 * ae)) % 256, (ar) % 256, (ag) % 256] : List Int)) := ⟨_, rfl⟩
   replace H : (if 1 + (strOfNums aI).size ≤ 9223372036854775807 then (if ((⟨#[2]⟩ : ByteArray) ++ (strOfNums aI)).size + aa.size ≤ 9223372036854775807 then ((roadbookref02_Of.f k ah 4).bind fun aH => (if (((⟨#[2]⟩ : ByteArray) ++ (strOfNums aI)) ++ aa).size + aH.size ≤ 9223372036854775807 then (if ((((⟨#[2]⟩ : ByteArray) ++ (strOfNums aI)) ++ aa) ++ aH).size + ab.size ≤ 9223372036854775807 then ((roadbookref02_Of.f k ak 4).bind fun aQ => (if (((((⟨#[2]⟩ : ByteArray) ++ (strOfNums aI)) ++ aa) ++ aH) ++ ab).size + aQ.size ≤ 9223372036854775807 then (if ((((((⟨#[2]⟩ : ByteArray) ++ (strOfNums aI)) ++ aa) ++ aH) ++ ab) ++ aQ).size + aY.size ≤ 9223372036854775807 then (some (((((((⟨#[2]⟩ : ByteArray) ++ (strOfNums aI)) ++ aa) ++ aH) ++ ab) ++ aQ) ++ aY, true)) else (none)) else (none))) else (none)) else (none))) else (none)) else (none)) = some (r1, r2) := by first | (rw [hy105]; with_reducible exact H) | (have H2_ := (Option.bind_some _ _).symm.trans H; rw [hy105]; with_reducible exact H2_) | (have H2_ := (Option.bind_some _ _).symm.trans H; with_reducible exact H2_) | with_reducible exact H | (rw [hy105]; exact H) | exact H
   have Ny105 := Aside0.mk hy105
   clear hy105
   by_cases dB : 1 + (strOfNums aI).size ≤ 9223372036854775807
   ·rw [if_pos dB] at H
    have fK := eq_true dB
    have gN : decide (1 + (strOfNums aI).size ≤ 9223372036854775807) = true := decide_eq_true dB
    try have hF : (9223372036854775807 < 1 + (strOfNums aI).size) = False := eq_false (Nat.not_lt.2 dB)
    try (have hG := hF; simp only [ByteArray.size_append] at hG)
    by_cases dQ : ((⟨#[2]⟩ : ByteArray) ++ (strOfNums aI)).size + aa.size ≤ 9223372036854775807
    ·rw [if_pos dQ] at H
     have il := eq_true dQ
     have im : decide (((⟨#[2]⟩ : ByteArray) ++ (strOfNums aI)).size + aa.size ≤ 9223372036854775807) = true := decide_eq_true dQ
     try have hH : (9223372036854775807 < ((⟨#[2]⟩ : ByteArray) ++ (strOfNums aI)).size + aa.size) = False := eq_false (Nat.not_lt.2 dQ)
     try (have hI := hH; simp only [ByteArray.size_append, show (⟨#[2]⟩ : ByteArray).size = 1 from rfl] at hI)
     replace H := Option.bind_eq_some_iff.mp H
     obtain ⟨aH, gp, H⟩ := H
     replace H : (if (((⟨#[2]⟩ : ByteArray) ++ (strOfNums aI)) ++ aa).size + aH.size ≤ 9223372036854775807 then (if ((((⟨#[2]⟩ : ByteArray) ++ (strOfNums aI)) ++ aa) ++ aH).size + ab.size ≤ 9223372036854775807 then ((roadbookref02_Of.f k ak 4).bind fun aQ => (if (((((⟨#[2]⟩ : ByteArray) ++ (strOfNums aI)) ++ aa) ++ aH) ++ ab).size + aQ.size ≤ 9223372036854775807 then (if ((((((⟨#[2]⟩ : ByteArray) ++ (strOfNums aI)) ++ aa) ++ aH) ++ ab) ++ aQ).size + aY.size ≤ 9223372036854775807 then (some (((((((⟨#[2]⟩ : ByteArray) ++ (strOfNums aI)) ++ aa) ++ aH) ++ ab) ++ aQ) ++ aY, true)) else (none)) else (none))) else (none)) else (none)) = some (r1, r2) := H
     have jS := Aside0.mk gp
     clear gp
     by_cases dy : (((⟨#[2]⟩ : ByteArray) ++ (strOfNums aI)) ++ aa).size + aH.size ≤ 9223372036854775807
     ·rw [if_pos dy] at H
      have eP := eq_true dy
      have fV : decide ((((⟨#[2]⟩ : ByteArray) ++ (strOfNums aI)) ++ aa).size + aH.size ≤ 9223372036854775807) = true := decide_eq_true dy
      try have gQ : (9223372036854775807 < (((⟨#[2]⟩ : ByteArray) ++ (strOfNums aI)) ++ aa).size + aH.size) = False := eq_false (Nat.not_lt.2 dy)
      try (have hM := gQ; simp only [ByteArray.size_append, show (⟨#[2]⟩ : ByteArray).size = 1 from rfl] at hM)
      by_cases eM : ((((⟨#[2]⟩ : ByteArray) ++ (strOfNums aI)) ++ aa) ++ aH).size + ab.size ≤ 9223372036854775807
      ·rw [if_pos eM] at H
       have fW := eq_true eM
       have jq : decide (((((⟨#[2]⟩ : ByteArray) ++ (strOfNums aI)) ++ aa) ++ aH).size + ab.size ≤ 9223372036854775807) = true := decide_eq_true eM
       try have jr : (9223372036854775807 < ((((⟨#[2]⟩ : ByteArray) ++ (strOfNums aI)) ++ aa) ++ aH).size + ab.size) = False := eq_false (Nat.not_lt.2 eM)
       try (have js := jr; simp only [ByteArray.size_append, show (⟨#[2]⟩ : ByteArray).size = 1 from rfl] at js)
       replace H := Option.bind_eq_some_iff.mp H
       obtain ⟨aQ, na, H⟩ := H
       replace H : (if (((((⟨#[2]⟩ : ByteArray) ++ (strOfNums aI)) ++ aa) ++ aH) ++ ab).size + aQ.size ≤ 9223372036854775807 then (if ((((((⟨#[2]⟩ : ByteArray) ++ (strOfNums aI)) ++ aa) ++ aH) ++ ab) ++ aQ).size + aY.size ≤ 9223372036854775807 then (some (((((((⟨#[2]⟩ : ByteArray) ++ (strOfNums aI)) ++ aa) ++ aH) ++ ab) ++ aQ) ++ aY, true)) else (none)) else (none)) = some (r1, r2) := H
       have ob := Aside0.mk na
       clear na
       by_cases eN : (((((⟨#[2]⟩ : ByteArray) ++ (strOfNums aI)) ++ aa) ++ aH) ++ ab).size + aQ.size ≤ 9223372036854775807
       ·rw [if_pos eN] at H
        have fz := eq_true eN
        have gM : decide ((((((⟨#[2]⟩ : ByteArray) ++ (strOfNums aI)) ++ aa) ++ aH) ++ ab).size + aQ.size ≤ 9223372036854775807) = true := decide_eq_true eN
        try have jt : (9223372036854775807 < (((((⟨#[2]⟩ : ByteArray) ++ (strOfNums aI)) ++ aa) ++ aH) ++ ab).size + aQ.size) = False := eq_false (Nat.not_lt.2 eN)
        try (have ju := jt; simp only [ByteArray.size_append, show (⟨#[2]⟩ : ByteArray).size = 1 from rfl] at ju)
        by_cases gZ : ((((((⟨#[2]⟩ : ByteArray) ++ (strOfNums aI)) ++ aa) ++ aH) ++ ab) ++ aQ).size + aY.size ≤ 9223372036854775807
        ·rw [if_pos gZ] at H
         have jn := eq_true gZ
         have mY : decide (((((((⟨#[2]⟩ : ByteArray) ++ (strOfNums aI)) ++ aa) ++ aH) ++ ab) ++ aQ).size + aY.size ≤ 9223372036854775807) = true := decide_eq_true gZ
         try have nb : (9223372036854775807 < ((((((⟨#[2]⟩ : ByteArray) ++ (strOfNums aI)) ++ aa) ++ aH) ++ ab) ++ aQ).size + aY.size) = False := eq_false (Nat.not_lt.2 gZ)
         try (have nc := nb; simp only [ByteArray.size_append, show (⟨#[2]⟩ : ByteArray).size = 1 from rfl] at nc)
         simp only [Option.some.injEq, Prod.mk.injEq] at H
         obtain ⟨rfl, rfl⟩ := H
         go_enter Try.func35, Try.ntmps35
         try go_wp2_with (first | ((with_reducible refine Pre.gate_load 25 rfl ?_); (try (refine gate_guard Z14 ?_; dsimp only)); refine Pre.load_event rfl rfl rfl Z14 Z1 Try.underlying25 rfl Z11 ?_) | ((with_reducible refine gate_dst (N := 1) rfl ?_); refine Sq.box 1 #[.int .i64 aD, .int .i64 aw, .int .i64 ax, .string au, .int .i64 aA, .int .i64 ay, .string av, .int .i64 ar, .int .i64 aC, .string az, .int .i64 ao, .string am, .int .i64 ah, .int .i64 aj, .int .i64 ak, .int .i64 ae, .int .i64 ag, .int .i64 ai, .int .i64 an, .string aa, .string ab, .slice aP ac.length aN, .int .i64 ap, .string aq, .slice aJ af.length aK] 25 ?_; intro aE hg kY hbox hb; have al := Aside0.mk (hbox); have cd := Aside0.mk (Sq.ge hg Z2); have bV := Aside0.mk (Sq.ge hg Z2); replace HB := Aside0.mk (below_step Z2 hb); clear hb hbox hg; have hP := cells_25 al.out) | ((with_reducible refine gate_callee (f := 37) rfl ?_); refine goesL_ (some 7) rfl rfl Try.func37 Z11 rfl #[.agg #[.int .i64 aD, .int .i64 aw, .int .i64 ax, .string au, .int .i64 aA, .int .i64 ay, .string av, .int .i64 ar, .int .i64 aC, .string az, .int .i64 ao, .string am, .int .i64 ah, .int .i64 aj, .int .i64 ak, .int .i64 ae, .int .i64 ag, .int .i64 ai, .int .i64 an, .string aa, .string ab, .slice aP ac.length aN, .int .i64 ap, .string aq, .slice aJ af.length aK]] rfl Z4 ?_; (with_reducible refine (roadbookref15_Right.calls k aD aw ax au aA ay av ar aC az ao am ah aj ak ae ag ai an aa ab _ _ ac ap aq _ _ af true _ ?side1 ?side2 ?side3 ?side4 A2.out).mono ?_); (case side1 => exact Z7); (case side2 => exact aZ.out); (case side3 => exact Z5); (case side4 => exact aT.out); rintro e gW ⟨rfl, hb⟩; refine ⟨_, rfl, ?_⟩; replace al := Aside0.mk (blk_below (g := aE) Z3 hb); replace HB := Aside0.mk (below_step Z0 hb); clear hb; have jy := cells_25 al.out) | ((with_reducible refine gate_callee (f := 51) rfl ?_); refine goesL_ (some 12) rfl rfl Try.func51 Z11 rfl #[.slice aJ af.length aK] rfl Z4 ?_; (with_reducible refine (roadbookref13_Put.calls k _ _ af aY bg _ ?side1 ?side2 A4.out).mono ?_); (case side1 => exact Z5); (case side2 => exact aT.out); rintro e hX ⟨rfl, hb⟩; refine ⟨_, rfl, ?_⟩; replace al := Aside0.mk (blk_below (g := aE) Z3 hb); replace HB := Aside0.mk (below_step Z0 hb); clear hb; have gC := cells_25 al.out))
         have bi := Aside0.mk (blk_drew al.out)
         have bp := Aside0.mk (below_drew1 HB.out)
         clear al
         clear HB
         have al := bi
         have HB := bp
         clear bi bp
         refine start_ (n := 31) (S := fun w' => w'.cell? ⟨aE, 7, none⟩ = some (.int .i64 ar) ∧ w'.cell? ⟨aE, 12, none⟩ = some (.int .i64 ah) ∧ w'.cell? ⟨aE, 14, none⟩ = some (.int .i64 ak) ∧ w'.cell? ⟨aE, 15, none⟩ = some (.int .i64 ae) ∧ w'.cell? ⟨aE, 16, none⟩ = some (.int .i64 ag) ∧ w'.cell? ⟨aE, 19, none⟩ = some (.string aa) ∧ w'.cell? ⟨aE, 20, none⟩ = some (.string ab)) (ds := []) (Sq.b 31 0) Z11 rfl rfl ⟨Sq.bc al 7, Sq.bc al 12, Sq.bc al 14, Sq.bc al 15, Sq.bc al 16, Sq.bc al 19, Sq.bc al 20⟩ (fun hHeld => ?_); refine with_tabW roadbookref15_Put.tab6 roadbookref15_Put.bits6 (fun HT_ HW_ => ?_)
         generalize hX.drew = jT at al HB hHeld ⊢
         refine Sq.pur 0 (some 20) (Sq.b 31 1) HT_.out ?_
         refine Sq.pur 4 (some 24) (Sq.b 31 17) HT_.out ?_
         refine Sq.pur 7 (some 27) (Sq.b 31 145) HT_.out ?_
         refine Sq.pur 13 (some 33) (Sq.b 31 8337) HT_.out ?_
         refine Sq.pur 16 (some 36) (Sq.b 31 73873) HT_.out ?_
         refine Sq.pur 20 (some 40) (Sq.b 31 1122449) HT_.out ?_
         refine Sq.pur 23 (some 43) (Sq.b 31 9511057) HT_.out ?_
         refine Sq.pur 27 (some 47) (Sq.b 31 143728785) HT_.out ?_
         refine Sq.tak 1 (some 21) (Sq.b 31 143728787) HT_.out HW_.out hHeld (v := ?_) (a' := ?_) ?_ ?_ ?_
         rotate_left
         ·rintro w' ⟨s0, s1, s2, s3, s4, s5, s6⟩
          first | (refine Eq.trans (Pre.load_run (ty := 25) rfl Z14 Z36 Try.underlying25 rfl Z11) ?_; with_reducible rfl) | (go_simp; with_reducible rfl)
         rotate_left
         ·simp only [Act.put, Sq.s1, Sq.s2, Sq.s3, i64_w, i32_w]
          rfl
         refine Sq.pur 2 (some 22) (Sq.b 31 143728791) HT_.out ?_
         refine Sq.pur 3 (some 23) (Sq.b 31 143728799) HT_.out ?_
         refine Sq.tak 5 (some 25) (Sq.b 31 143728831) HT_.out HW_.out hHeld (v := ?_) (a' := ?_) ?_ ?_ ?_
         rotate_left
         ·rintro w' ⟨s0, s1, s2, s3, s4, s5, s6⟩
          first | (refine Eq.trans (Pre.load_run (ty := 25) rfl Z14 Z36 Try.underlying25 rfl Z11) ?_; with_reducible rfl) | (go_simp; with_reducible rfl)
         rotate_left
         ·simp only [Act.put, Sq.s1, Sq.s2, Sq.s3, i64_w, i32_w]
          rfl
         refine Sq.pur 6 (some 26) (Sq.b 31 143728895) HT_.out ?_
         refine Sq.tak 8 (some 28) (Sq.b 31 143729151) HT_.out HW_.out hHeld (v := ?_) (a' := ?_) ?_ ?_ ?_
         rotate_left
         ·rintro w' ⟨s0, s1, s2, s3, s4, s5, s6⟩
          first | (refine Eq.trans (Pre.load_run (ty := 25) rfl Z14 Z36 Try.underlying25 rfl Z11) ?_; with_reducible rfl) | (go_simp; with_reducible rfl)
         rotate_left
         ·simp only [Act.put, Sq.s1, Sq.s2, Sq.s3, i64_w, i32_w]
          rfl
         refine Sq.pur 9 (some 29) (Sq.b 31 143729663) HT_.out ?_
         refine Sq.tak 14 (some 34) (Sq.b 31 143746047) HT_.out HW_.out hHeld (v := ?_) (a' := ?_) ?_ ?_ ?_
         rotate_left
         ·rintro w' ⟨s0, s1, s2, s3, s4, s5, s6⟩
          first | (refine Eq.trans (Pre.load_run (ty := 25) rfl Z14 Z36 Try.underlying25 rfl Z11) ?_; with_reducible rfl) | (go_simp; with_reducible rfl)
         rotate_left
         ·simp only [Act.put, Sq.s1, Sq.s2, Sq.s3, i64_w, i32_w]
          rfl
         refine Sq.tak 17 (some 37) (Sq.b 31 143877119) HT_.out HW_.out hHeld (v := ?_) (a' := ?_) ?_ ?_ ?_
         rotate_left
         ·rintro w' ⟨s0, s1, s2, s3, s4, s5, s6⟩
          first | (refine Eq.trans (Pre.load_run (ty := 25) rfl Z14 Z36 Try.underlying25 rfl Z11) ?_; with_reducible rfl) | (go_simp; with_reducible rfl)
         rotate_left
         ·simp only [Act.put, Sq.s1, Sq.s2, Sq.s3, i64_w, i32_w]
          rfl
         refine Sq.tak 21 (some 41) (Sq.b 31 145974271) HT_.out HW_.out hHeld (v := ?_) (a' := ?_) ?_ ?_ ?_
         rotate_left
         ·rintro w' ⟨s0, s1, s2, s3, s4, s5, s6⟩
          first | (refine Eq.trans (Pre.load_run (ty := 25) rfl Z14 Z36 Try.underlying25 rfl Z11) ?_; with_reducible rfl) | (go_simp; with_reducible rfl)
         rotate_left
         ·simp only [Act.put, Sq.s1, Sq.s2, Sq.s3, i64_w, i32_w]
          rfl
         refine Sq.tak 24 (some 44) (Sq.b 31 162751487) HT_.out HW_.out hHeld (v := ?_) (a' := ?_) ?_ ?_ ?_
         rotate_left
         ·rintro w' ⟨s0, s1, s2, s3, s4, s5, s6⟩
          first | (refine Eq.trans (Pre.load_run (ty := 25) rfl Z14 Z36 Try.underlying25 rfl Z11) ?_; with_reducible rfl) | (go_simp; with_reducible rfl)
         rotate_left
         ·simp only [Act.put, Sq.s1, Sq.s2, Sq.s3, i64_w, i32_w]
          rfl
         refine join_ (σ := Value) 4 (Sq.b 31 201326591) (fun s_ => [(30, s_), (31, .string (strOfNums aI)), (38, .string aH), (45, .string aQ), (32, .string ((⟨#[2]⟩ : ByteArray) ++ (strOfNums aI))), (35, .string (((⟨#[2]⟩ : ByteArray) ++ (strOfNums aI)) ++ aa)), (39, .string ((((⟨#[2]⟩ : ByteArray) ++ (strOfNums aI)) ++ aa) ++ aH)), (42, .string (((((⟨#[2]⟩ : ByteArray) ++ (strOfNums aI)) ++ aa) ++ aH) ++ ab))]) (fun s_ w' => (w'.cell? ⟨aE, 7, none⟩ = some (.int .i64 ar) ∧ w'.cell? ⟨aE, 12, none⟩ = some (.int .i64 ah) ∧ w'.cell? ⟨aE, 14, none⟩ = some (.int .i64 ak) ∧ w'.cell? ⟨aE, 15, none⟩ = some (.int .i64 ae) ∧ w'.cell? ⟨aE, 16, none⟩ = some (.int .i64 ag) ∧ w'.cell? ⟨aE, 19, none⟩ = some (.string aa) ∧ w'.cell? ⟨aE, 20, none⟩ = some (.string ab)) ∧ (Kd.R (Kd.int .u8) 5 w' w.heap.size (fun _ => True) s_ aI) ∧ (w'.heap[aE]? = some (.cells #[.int .i64 aD, .int .i64 aw, .int .i64 ax, .string au, .int .i64 aA, .int .i64 ay, .string av, .int .i64 ar, .int .i64 aC, .string az, .int .i64 ao, .string am, .int .i64 ah, .int .i64 aj, .int .i64 ak, .int .i64 ae, .int .i64 ag, .int .i64 ai, .int .i64 an, .string aa, .string ab, .slice aP ac.length aN, .int .i64 ap, .string aq, .slice aJ af.length aK] 25 (0, 0))) ∧ (Below w.heap.size w w')) ?_ ?_
         rotate_left
         ·intro hJ10_11_18_25
          refine join_ (σ := Value) 5 (Sq.b 31 167772159) (fun s_ => [(30, s_), (31, .string (strOfNums aI)), (38, .string aH), (32, .string ((⟨#[2]⟩ : ByteArray) ++ (strOfNums aI))), (35, .string (((⟨#[2]⟩ : ByteArray) ++ (strOfNums aI)) ++ aa)), (39, .string ((((⟨#[2]⟩ : ByteArray) ++ (strOfNums aI)) ++ aa) ++ aH)), (42, .string (((((⟨#[2]⟩ : ByteArray) ++ (strOfNums aI)) ++ aa) ++ aH) ++ ab))]) (fun s_ w' => (w'.cell? ⟨aE, 7, none⟩ = some (.int .i64 ar) ∧ w'.cell? ⟨aE, 12, none⟩ = some (.int .i64 ah) ∧ w'.cell? ⟨aE, 14, none⟩ = some (.int .i64 ak) ∧ w'.cell? ⟨aE, 15, none⟩ = some (.int .i64 ae) ∧ w'.cell? ⟨aE, 16, none⟩ = some (.int .i64 ag) ∧ w'.cell? ⟨aE, 19, none⟩ = some (.string aa) ∧ w'.cell? ⟨aE, 20, none⟩ = some (.string ab)) ∧ (Kd.R (Kd.int .u8) 5 w' w.heap.size (fun _ => True) s_ aI) ∧ (w'.heap[aE]? = some (.cells #[.int .i64 aD, .int .i64 aw, .int .i64 ax, .string au, .int .i64 aA, .int .i64 ay, .string av, .int .i64 ar, .int .i64 aC, .string az, .int .i64 ao, .string am, .int .i64 ah, .int .i64 aj, .int .i64 ak, .int .i64 ae, .int .i64 ag, .int .i64 ai, .int .i64 an, .string aa, .string ab, .slice aP ac.length aN, .int .i64 ap, .string aq, .slice aJ af.length aK] 25 (0, 0))) ∧ (Below w.heap.size w w')) ?_ ?_
          rotate_left
          ·intro hJ10_11_18
           refine join_ (σ := Value) 9 (Sq.b 31 196569087) (fun s_ => [(30, s_), (38, .string aH), (45, .string aQ)]) (fun s_ w' => (w'.cell? ⟨aE, 7, none⟩ = some (.int .i64 ar) ∧ w'.cell? ⟨aE, 12, none⟩ = some (.int .i64 ah) ∧ w'.cell? ⟨aE, 14, none⟩ = some (.int .i64 ak) ∧ w'.cell? ⟨aE, 15, none⟩ = some (.int .i64 ae) ∧ w'.cell? ⟨aE, 16, none⟩ = some (.int .i64 ag) ∧ w'.cell? ⟨aE, 19, none⟩ = some (.string aa) ∧ w'.cell? ⟨aE, 20, none⟩ = some (.string ab)) ∧ (Kd.R (Kd.int .u8) 5 w' w.heap.size (fun _ => True) s_ aI) ∧ (w'.heap[aE]? = some (.cells #[.int .i64 aD, .int .i64 aw, .int .i64 ax, .string au, .int .i64 aA, .int .i64 ay, .string av, .int .i64 ar, .int .i64 aC, .string az, .int .i64 ao, .string am, .int .i64 ah, .int .i64 aj, .int .i64 ak, .int .i64 ae, .int .i64 ag, .int .i64 ai, .int .i64 an, .string aa, .string ab, .slice aP ac.length aN, .int .i64 ap, .string aq, .slice aJ af.length aK] 25 (0, 0))) ∧ (Below w.heap.size w w')) ?_ ?_
           rotate_left
           ·intro hJ10_18_25
            refine join_ (σ := Value) 8 (Sq.b 31 162791423) (fun s_ => [(30, s_), (31, .string (strOfNums aI)), (32, .string ((⟨#[2]⟩ : ByteArray) ++ (strOfNums aI))), (35, .string (((⟨#[2]⟩ : ByteArray) ++ (strOfNums aI)) ++ aa))]) (fun s_ w' => (w'.cell? ⟨aE, 7, none⟩ = some (.int .i64 ar) ∧ w'.cell? ⟨aE, 12, none⟩ = some (.int .i64 ah) ∧ w'.cell? ⟨aE, 14, none⟩ = some (.int .i64 ak) ∧ w'.cell? ⟨aE, 15, none⟩ = some (.int .i64 ae) ∧ w'.cell? ⟨aE, 16, none⟩ = some (.int .i64 ag) ∧ w'.cell? ⟨aE, 19, none⟩ = some (.string aa) ∧ w'.cell? ⟨aE, 20, none⟩ = some (.string ab)) ∧ (Kd.R (Kd.int .u8) 5 w' w.heap.size (fun _ => True) s_ aI) ∧ (w'.heap[aE]? = some (.cells #[.int .i64 aD, .int .i64 aw, .int .i64 ax, .string au, .int .i64 aA, .int .i64 ay, .string av, .int .i64 ar, .int .i64 aC, .string az, .int .i64 ao, .string am, .int .i64 ah, .int .i64 aj, .int .i64 ak, .int .i64 ae, .int .i64 ag, .int .i64 ai, .int .i64 an, .string aa, .string ab, .slice aP ac.length aN, .int .i64 ap, .string aq, .slice aJ af.length aK] 25 (0, 0))) ∧ (Below w.heap.size w w')) ?_ ?_
            rotate_left
            ·intro hJ10_11
             refine join_ (σ := Value) 10 (Sq.b 31 163014655) (fun s_ => [(30, s_), (38, .string aH)]) (fun s_ w' => (w'.cell? ⟨aE, 7, none⟩ = some (.int .i64 ar) ∧ w'.cell? ⟨aE, 12, none⟩ = some (.int .i64 ah) ∧ w'.cell? ⟨aE, 14, none⟩ = some (.int .i64 ak) ∧ w'.cell? ⟨aE, 15, none⟩ = some (.int .i64 ae) ∧ w'.cell? ⟨aE, 16, none⟩ = some (.int .i64 ag) ∧ w'.cell? ⟨aE, 19, none⟩ = some (.string aa) ∧ w'.cell? ⟨aE, 20, none⟩ = some (.string ab)) ∧ (Kd.R (Kd.int .u8) 5 w' w.heap.size (fun _ => True) s_ aI) ∧ (w'.heap[aE]? = some (.cells #[.int .i64 aD, .int .i64 aw, .int .i64 ax, .string au, .int .i64 aA, .int .i64 ay, .string av, .int .i64 ar, .int .i64 aC, .string az, .int .i64 ao, .string am, .int .i64 ah, .int .i64 aj, .int .i64 ak, .int .i64 ae, .int .i64 ag, .int .i64 ai, .int .i64 an, .string aa, .string ab, .slice aP ac.length aN, .int .i64 ap, .string aq, .slice aJ af.length aK] 25 (0, 0))) ∧ (Below w.heap.size w w')) ?_ ?_
             rotate_left
             ·intro hJ10_18
              refine join_ (σ := Unit) 10 (Sq.b 31 196568063) (fun s_ => [(38, .string aH), (45, .string aQ)]) (fun s_ w' => (w'.cell? ⟨aE, 7, none⟩ = some (.int .i64 ar) ∧ w'.cell? ⟨aE, 12, none⟩ = some (.int .i64 ah) ∧ w'.cell? ⟨aE, 14, none⟩ = some (.int .i64 ak) ∧ w'.cell? ⟨aE, 15, none⟩ = some (.int .i64 ae) ∧ w'.cell? ⟨aE, 16, none⟩ = some (.int .i64 ag) ∧ w'.cell? ⟨aE, 19, none⟩ = some (.string aa) ∧ w'.cell? ⟨aE, 20, none⟩ = some (.string ab)) ∧ (w'.heap[aE]? = some (.cells #[.int .i64 aD, .int .i64 aw, .int .i64 ax, .string au, .int .i64 aA, .int .i64 ay, .string av, .int .i64 ar, .int .i64 aC, .string az, .int .i64 ao, .string am, .int .i64 ah, .int .i64 aj, .int .i64 ak, .int .i64 ae, .int .i64 ag, .int .i64 ai, .int .i64 an, .string aa, .string ab, .slice aP ac.length aN, .int .i64 ap, .string aq, .slice aJ af.length aK] 25 (0, 0))) ∧ (Below w.heap.size w w')) ?_ ?_
              rotate_left
              ·intro hJ18_25
               refine join_ (σ := Value) 11 (Sq.b 31 162752511) (fun s_ => [(30, s_)]) (fun s_ w' => (w'.cell? ⟨aE, 7, none⟩ = some (.int .i64 ar) ∧ w'.cell? ⟨aE, 12, none⟩ = some (.int .i64 ah) ∧ w'.cell? ⟨aE, 14, none⟩ = some (.int .i64 ak) ∧ w'.cell? ⟨aE, 15, none⟩ = some (.int .i64 ae) ∧ w'.cell? ⟨aE, 16, none⟩ = some (.int .i64 ag) ∧ w'.cell? ⟨aE, 19, none⟩ = some (.string aa) ∧ w'.cell? ⟨aE, 20, none⟩ = some (.string ab)) ∧ (Kd.R (Kd.int .u8) 5 w' w.heap.size (fun _ => True) s_ aI) ∧ (w'.heap[aE]? = some (.cells #[.int .i64 aD, .int .i64 aw, .int .i64 ax, .string au, .int .i64 aA, .int .i64 ay, .string av, .int .i64 ar, .int .i64 aC, .string az, .int .i64 ao, .string am, .int .i64 ah, .int .i64 aj, .int .i64 ak, .int .i64 ae, .int .i64 ag, .int .i64 ai, .int .i64 an, .string aa, .string ab, .slice aP ac.length aN, .int .i64 ap, .string aq, .slice aJ af.length aK] 25 (0, 0))) ∧ (Below w.heap.size w w')) ?_ ?_
               rotate_left
               ·intro hJ10
                refine join_ (σ := Unit) 11 (Sq.b 31 163013631) (fun s_ => [(38, .string aH)]) (fun s_ w' => (w'.cell? ⟨aE, 7, none⟩ = some (.int .i64 ar) ∧ w'.cell? ⟨aE, 12, none⟩ = some (.int .i64 ah) ∧ w'.cell? ⟨aE, 14, none⟩ = some (.int .i64 ak) ∧ w'.cell? ⟨aE, 15, none⟩ = some (.int .i64 ae) ∧ w'.cell? ⟨aE, 16, none⟩ = some (.int .i64 ag) ∧ w'.cell? ⟨aE, 19, none⟩ = some (.string aa) ∧ w'.cell? ⟨aE, 20, none⟩ = some (.string ab)) ∧ (w'.heap[aE]? = some (.cells #[.int .i64 aD, .int .i64 aw, .int .i64 ax, .string au, .int .i64 aA, .int .i64 ay, .string av, .int .i64 ar, .int .i64 aC, .string az, .int .i64 ao, .string am, .int .i64 ah, .int .i64 aj, .int .i64 ak, .int .i64 ae, .int .i64 ag, .int .i64 ai, .int .i64 an, .string aa, .string ab, .slice aP ac.length aN, .int .i64 ap, .string aq, .slice aJ af.length aK] 25 (0, 0))) ∧ (Below w.heap.size w w')) ?_ ?_
                rotate_left
                ·intro hJ18
                 refine two_ (i := 10) (j := 18) (Ni := some 30) (Nj := some 38) (Sq.b 31 162752511) (Sq.b 31 163013631) rfl rfl rfl rfl (two_of HT_.out Z11) Z21 Z21 (fun K hK => ?_) (fun K hK => ?_)
                 ·skip
                  refine Kd.R_lit_step (Kd.int .u8) _ 5 ?hg (N := 30) ?hd (xs := ([(wrap64 (64 * ae)) % 256, (ar) % 256, (ag) % 256] : List Int)) (inner := [.int .u8 ((wrap64 (64 * ae)) % 256), .int .u8 ((ar) % 256), .int .u8 ((ag) % 256)]) (ok := fun _ => True) (okp := fun _ => True) ?hr ?hp (fun _ hk => hk) trivial (Below.refl _ _) (Nat.le_refl _) Z35 ?_; (case hd => rfl); (case hg => rfl); (case hr => first | (go_simp; done) | (go_simp; rfl)); (case hp => exact (Reps.one (show Kd.M (Kd.int .u8) _ _ _ ((wrap64 (64 * ae)) % 256) [.int .u8 ((wrap64 (64 * ae)) % 256)] from rfl) (Reps.one (show Kd.M (Kd.int .u8) _ _ _ ((ar) % 256) [.int .u8 ((ar) % 256)] from rfl) (Reps.one (show Kd.M (Kd.int .u8) _ _ _ ((ag) % 256) [.int .u8 ((ag) % 256)] from rfl) (Reps.none _ _)))))
                  intro ct lS ho29 hb hg_ hnew_
                  clear hg_ hnew_
                  (first | rw [← Ny105.out] at ho29 | (simp only [Int.reduceToNat] at ho29; rw [← Ny105.out] at ho29))
                  have bi := Aside0.mk (Kd.R_lower ho29 (below_size Z0))
                  have bp := Aside0.mk (blk_below (g := aE) Z3 hb)
                  have bT := Aside0.mk (below_step Z0 hb)
                  clear al
                  clear HB
                  have bS := bi
                  have al := bp
                  have HB := bT
                  clear bi bp bT
                  clear hb ho29
                  refine hK.out _ _ ⟨Sq.bc al 7, Sq.bc al 12, Sq.bc al 14, Sq.bc al 15, Sq.bc al 16, Sq.bc al 19, Sq.bc al 20⟩ (fun hHeld => ?_)
                  clear hK K
                  refine norm_ (a' := ?_) ?_ ?_
                  rotate_left
                  ·show Act.put _ (some 30) _ = _
                   simp only [Act.put, Sq.s1, Sq.s2, Sq.s3, i64_w, i32_w]
                   rfl
                  exact norm_ Z13 (hJ10 (ct) _ ⟨hHeld, Z12, Z3, Z0⟩)
                 ·skip
                  refine goes_ Try.func52 Z11 rfl #[.int .i64 ah, .int .i64 4] Z14 rfl rfl Z4 ?_
                  with_reducible refine (roadbookref02_Of.calls k ah 4 aH _ jS.out).mono ?_
                  rintro e lS ⟨rfl, hb⟩
                  refine ⟨_, rfl, ?_⟩
                  have bi := Aside0.mk (blk_below (g := aE) Z3 hb)
                  have bp := Aside0.mk (below_step Z0 hb)
                  clear al
                  clear HB
                  have al := bi
                  have HB := bp
                  clear bi bp
                  (try clear hb)
                  (try clear hb2)
                  (try clear hk)
                  (try clear hi)
                  refine hK.out _ _ ⟨Sq.bc al 7, Sq.bc al 12, Sq.bc al 14, Sq.bc al 15, Sq.bc al 16, Sq.bc al 19, Sq.bc al 20⟩ (fun hHeld => ?_)
                  clear hK K
                  refine norm_ (a' := ?_) ?_ ?_
                  rotate_left
                  ·show Act.put _ (some 38) _ = _
                   simp only [Act.put, Sq.s1, Sq.s2, Sq.s3, i64_w, i32_w]
                   rfl
                  exact norm_ Z13 (hJ18 () _ ⟨hHeld, Z3, Z0⟩)
                ·skip
                 rintro _ nt ⟨hS_, h0_, h1_⟩
                 have bi : Aside0 (nt.heap[aE]? = some (.cells #[.int .i64 aD, .int .i64 aw, .int .i64 ax, .string au, .int .i64 aA, .int .i64 ay, .string av, .int .i64 ar, .int .i64 aC, .string az, .int .i64 ao, .string am, .int .i64 ah, .int .i64 aj, .int .i64 ak, .int .i64 ae, .int .i64 ag, .int .i64 ai, .int .i64 an, .string aa, .string ab, .slice aP ac.length aN, .int .i64 ap, .string aq, .slice aJ af.length aK] 25 (0, 0))) := ⟨h0_⟩
                 have bp : Aside0 (Below w.heap.size w nt) := ⟨h1_⟩
                 clear al
                 clear HB
                 clear h0_ h1_
                 have al := bi
                 have HB := bp
                 clear bi bp
                 have hHeld := hS_
                 try dsimp only at hHeld
                 refine norm_ (a' := ?_) ?_ ?_
                 rotate_left
                 ·simp only [putAll, Act.put, Sq.s1, Sq.s2, Sq.s3]
                  rfl
                 refine two_ (i := 10) (j := 25) (Ni := some 30) (Nj := some 45) (Sq.b 31 163014655) (Sq.b 31 196568063) rfl rfl rfl rfl (two_of HT_.out Z11) Z21 Z21 (fun K hK => ?_) (fun K hK => ?_)
                 ·skip
                  refine Kd.R_lit_step (Kd.int .u8) _ 5 ?hg (N := 30) ?hd (xs := ([(wrap64 (64 * ae)) % 256, (ar) % 256, (ag) % 256] : List Int)) (inner := [.int .u8 ((wrap64 (64 * ae)) % 256), .int .u8 ((ar) % 256), .int .u8 ((ag) % 256)]) (ok := fun _ => True) (okp := fun _ => True) ?hr ?hp (fun _ hk => hk) trivial (Below.refl _ _) (Nat.le_refl _) Z35 ?_; (case hd => rfl); (case hg => rfl); (case hr => first | (go_simp; done) | (go_simp; rfl)); (case hp => exact (Reps.one (show Kd.M (Kd.int .u8) _ _ _ ((wrap64 (64 * ae)) % 256) [.int .u8 ((wrap64 (64 * ae)) % 256)] from rfl) (Reps.one (show Kd.M (Kd.int .u8) _ _ _ ((ar) % 256) [.int .u8 ((ar) % 256)] from rfl) (Reps.one (show Kd.M (Kd.int .u8) _ _ _ ((ag) % 256) [.int .u8 ((ag) % 256)] from rfl) (Reps.none _ _)))))
                  intro ct iZ ho31 hb hg_ hnew_
                  clear hg_ hnew_
                  (first | rw [← Ny105.out] at ho31 | (simp only [Int.reduceToNat] at ho31; rw [← Ny105.out] at ho31))
                  have bi := Aside0.mk (Kd.R_lower ho31 (below_size Z0))
                  have bp := Aside0.mk (blk_below (g := aE) Z3 hb)
                  have bT := Aside0.mk (below_step Z0 hb)
                  clear al
                  clear HB
                  have bS := bi
                  have al := bp
                  have HB := bT
                  clear bi bp bT
                  clear hb ho31
                  refine hK.out _ _ ⟨Sq.bc al 7, Sq.bc al 12, Sq.bc al 14, Sq.bc al 15, Sq.bc al 16, Sq.bc al 19, Sq.bc al 20⟩ (fun hHeld => ?_)
                  clear hK K
                  refine norm_ (a' := ?_) ?_ ?_
                  rotate_left
                  ·show Act.put _ (some 30) _ = _
                   simp only [Act.put, Sq.s1, Sq.s2, Sq.s3, i64_w, i32_w]
                   rfl
                  exact norm_ Z13 (hJ10_18 (ct) _ ⟨hHeld, Z12, Z3, Z0⟩)
                 ·skip
                  refine goes_ Try.func52 Z11 rfl #[.int .i64 ak, .int .i64 4] Z14 rfl rfl Z4 ?_
                  with_reducible refine (roadbookref02_Of.calls k ak 4 aQ _ ob.out).mono ?_
                  rintro e iZ ⟨rfl, hb⟩
                  refine ⟨_, rfl, ?_⟩
                  have bi := Aside0.mk (blk_below (g := aE) Z3 hb)
                  have bp := Aside0.mk (below_step Z0 hb)
                  clear al
                  clear HB
                  have al := bi
                  have HB := bp
                  clear bi bp
                  (try clear hb)
                  (try clear hb2)
                  (try clear hk)
                  (try clear hi)
                  refine hK.out _ _ ⟨Sq.bc al 7, Sq.bc al 12, Sq.bc al 14, Sq.bc al 15, Sq.bc al 16, Sq.bc al 19, Sq.bc al 20⟩ (fun hHeld => ?_)
                  clear hK K
                  refine norm_ (a' := ?_) ?_ ?_
                  rotate_left
                  ·show Act.put _ (some 45) _ = _
                   simp only [Act.put, Sq.s1, Sq.s2, Sq.s3, i64_w, i32_w]
                   rfl
                  exact norm_ Z13 (hJ18_25 () _ ⟨hHeld, Z3, Z0⟩)
               ·skip
                rintro ct iZ ⟨hS_, h0_, h1_, h2_⟩
                have bi : Aside0 (Kd.R (Kd.int .u8) 5 iZ w.heap.size (fun _ => True) ct aI) := ⟨h0_⟩
                have bp : Aside0 (iZ.heap[aE]? = some (.cells #[.int .i64 aD, .int .i64 aw, .int .i64 ax, .string au, .int .i64 aA, .int .i64 ay, .string av, .int .i64 ar, .int .i64 aC, .string az, .int .i64 ao, .string am, .int .i64 ah, .int .i64 aj, .int .i64 ak, .int .i64 ae, .int .i64 ag, .int .i64 ai, .int .i64 an, .string aa, .string ab, .slice aP ac.length aN, .int .i64 ap, .string aq, .slice aJ af.length aK] 25 (0, 0))) := ⟨h1_⟩
                have bT : Aside0 (Below w.heap.size w iZ) := ⟨h2_⟩
                clear al
                clear HB
                clear h0_ h1_ h2_
                have bS := bi
                have al := bp
                have HB := bT
                clear bi bp bT
                have hHeld := hS_
                try dsimp only at hHeld
                refine norm_ (a' := ?_) ?_ ?_
                rotate_left
                ·simp only [putAll, Act.put, Sq.s1, Sq.s2, Sq.s3]
                 rfl
                refine two_ (i := 11) (j := 18) (Ni := some 31) (Nj := some 38) (Sq.b 31 162754559) (Sq.b 31 163014655) rfl rfl rfl rfl (two_of HT_.out Z11) Z21 Z21 (fun K hK => ?_) (fun K hK => ?_)
                ·skip
                 have hcv31 := own_string (P := Try.prog) Try.underlying51 Try.underlying5 Try.underlying9 (Kd.own_of_R bS.out)
                 refine value_ (w1 := ?_) (v := ?_) Z14 rfl ?_ ?_
                 rotate_left 2
                 ·go_simp
                  constructor
                  ·rfl
                  ·rfl
                 clear hcv31
                 refine hK.out _ _ ⟨Sq.bc al 7, Sq.bc al 12, Sq.bc al 14, Sq.bc al 15, Sq.bc al 16, Sq.bc al 19, Sq.bc al 20⟩ (fun hHeld => ?_)
                 clear hK K
                 refine norm_ (a' := ?_) ?_ ?_
                 rotate_left
                 ·show Act.put _ (some 31) _ = _
                  simp only [Act.put, Sq.s1, Sq.s2, Sq.s3, i64_w, i32_w]
                  rfl
                 refine Sq.pur 12 (some 32) (Sq.b 31 162758655) HT_.out ?_
                 refine Sq.pur 15 (some 35) (Sq.b 31 162791423) HT_.out ?_
                 exact norm_ Z13 (hJ10_11 (ct) _ ⟨hHeld, Z12, Z3, Z0⟩)
                ·skip
                 refine goes_ Try.func52 Z11 rfl #[.int .i64 ah, .int .i64 4] Z14 rfl rfl Z4 ?_
                 with_reducible refine (roadbookref02_Of.calls k ah 4 aH _ jS.out).mono ?_
                 rintro e jP ⟨rfl, hb⟩
                 refine ⟨_, rfl, ?_⟩
                 have bi := Aside0.mk (Kd.R_below Z12 hb)
                 have bp := Aside0.mk (blk_below (g := aE) Z3 hb)
                 have bT := Aside0.mk (below_step Z0 hb)
                 clear bS
                 clear al
                 clear HB
                 have bS := bi
                 have al := bp
                 have HB := bT
                 clear bi bp bT
                 (try clear hb)
                 (try clear hb2)
                 (try clear hk)
                 (try clear hi)
                 refine hK.out _ _ ⟨Sq.bc al 7, Sq.bc al 12, Sq.bc al 14, Sq.bc al 15, Sq.bc al 16, Sq.bc al 19, Sq.bc al 20⟩ (fun hHeld => ?_)
                 clear hK K
                 refine norm_ (a' := ?_) ?_ ?_
                 rotate_left
                 ·show Act.put _ (some 38) _ = _
                  simp only [Act.put, Sq.s1, Sq.s2, Sq.s3, i64_w, i32_w]
                  rfl
                 exact norm_ Z13 (hJ10_18 (ct) _ ⟨hHeld, Z12, Z3, Z0⟩)
              ·skip
               rintro _ iZ ⟨hS_, h0_, h1_⟩
               have bi : Aside0 (iZ.heap[aE]? = some (.cells #[.int .i64 aD, .int .i64 aw, .int .i64 ax, .string au, .int .i64 aA, .int .i64 ay, .string av, .int .i64 ar, .int .i64 aC, .string az, .int .i64 ao, .string am, .int .i64 ah, .int .i64 aj, .int .i64 ak, .int .i64 ae, .int .i64 ag, .int .i64 ai, .int .i64 an, .string aa, .string ab, .slice aP ac.length aN, .int .i64 ap, .string aq, .slice aJ af.length aK] 25 (0, 0))) := ⟨h0_⟩
               have bp : Aside0 (Below w.heap.size w iZ) := ⟨h1_⟩
               clear al
               clear HB
               clear h0_ h1_
               have al := bi
               have HB := bp
               clear bi bp
               have hHeld := hS_
               try dsimp only at hHeld
               refine norm_ (a' := ?_) ?_ ?_
               rotate_left
               ·simp only [putAll, Act.put, Sq.s1, Sq.s2, Sq.s3]
                rfl
               refine one_ (i := 10) (N := some 30) (Sq.b 31 196569087) rfl rfl (one_of HT_.out Z11) Z21 (fun K hK => ?_)
               refine Kd.R_lit_step (Kd.int .u8) _ 5 ?hg (N := 30) ?hd (xs := ([(wrap64 (64 * ae)) % 256, (ar) % 256, (ag) % 256] : List Int)) (inner := [.int .u8 ((wrap64 (64 * ae)) % 256), .int .u8 ((ar) % 256), .int .u8 ((ag) % 256)]) (ok := fun _ => True) (okp := fun _ => True) ?hr ?hp (fun _ hk => hk) trivial (Below.refl _ _) (Nat.le_refl _) Z35 ?_; (case hd => rfl); (case hg => rfl); (case hr => first | (go_simp; done) | (go_simp; rfl)); (case hp => exact (Reps.one (show Kd.M (Kd.int .u8) _ _ _ ((wrap64 (64 * ae)) % 256) [.int .u8 ((wrap64 (64 * ae)) % 256)] from rfl) (Reps.one (show Kd.M (Kd.int .u8) _ _ _ ((ar) % 256) [.int .u8 ((ar) % 256)] from rfl) (Reps.one (show Kd.M (Kd.int .u8) _ _ _ ((ag) % 256) [.int .u8 ((ag) % 256)] from rfl) (Reps.none _ _)))))
               intro ct jP ho32 hb hg_ hnew_
               clear hg_ hnew_
               (first | rw [← Ny105.out] at ho32 | (simp only [Int.reduceToNat] at ho32; rw [← Ny105.out] at ho32))
               have bi := Aside0.mk (Kd.R_lower ho32 (below_size Z0))
               have bp := Aside0.mk (blk_below (g := aE) Z3 hb)
               have bT := Aside0.mk (below_step Z0 hb)
               clear al
               clear HB
               have bS := bi
               have al := bp
               have HB := bT
               clear bi bp bT
               clear hb ho32
               refine hK.out _ _ ⟨Sq.bc al 7, Sq.bc al 12, Sq.bc al 14, Sq.bc al 15, Sq.bc al 16, Sq.bc al 19, Sq.bc al 20⟩ (fun hHeld => ?_)
               clear hK K
               refine norm_ (a' := ?_) ?_ ?_
               rotate_left
               ·show Act.put _ (some 30) _ = _
                simp only [Act.put, Sq.s1, Sq.s2, Sq.s3, i64_w, i32_w]
                rfl
               exact norm_ Z13 (hJ10_18_25 (ct) _ ⟨hHeld, Z12, Z3, Z0⟩)
             ·skip
              rintro ct jP ⟨hS_, h0_, h1_, h2_⟩
              have bi : Aside0 (Kd.R (Kd.int .u8) 5 jP w.heap.size (fun _ => True) ct aI) := ⟨h0_⟩
              have bp : Aside0 (jP.heap[aE]? = some (.cells #[.int .i64 aD, .int .i64 aw, .int .i64 ax, .string au, .int .i64 aA, .int .i64 ay, .string av, .int .i64 ar, .int .i64 aC, .string az, .int .i64 ao, .string am, .int .i64 ah, .int .i64 aj, .int .i64 ak, .int .i64 ae, .int .i64 ag, .int .i64 ai, .int .i64 an, .string aa, .string ab, .slice aP ac.length aN, .int .i64 ap, .string aq, .slice aJ af.length aK] 25 (0, 0))) := ⟨h1_⟩
              have bT : Aside0 (Below w.heap.size w jP) := ⟨h2_⟩
              clear al
              clear HB
              clear h0_ h1_ h2_
              have bS := bi
              have al := bp
              have HB := bT
              clear bi bp bT
              have hHeld := hS_
              try dsimp only at hHeld
              refine norm_ (a' := ?_) ?_ ?_
              rotate_left
              ·simp only [putAll, Act.put, Sq.s1, Sq.s2, Sq.s3]
               rfl
              refine two_ (i := 11) (j := 25) (Ni := some 31) (Nj := some 45) (Sq.b 31 163016703) (Sq.b 31 196569087) rfl rfl rfl rfl (two_of HT_.out Z11) Z21 Z21 (fun K hK => ?_) (fun K hK => ?_)
              ·skip
               have hcv32 := own_string (P := Try.prog) Try.underlying51 Try.underlying5 Try.underlying9 (Kd.own_of_R bS.out)
               refine value_ (w1 := ?_) (v := ?_) Z14 rfl ?_ ?_
               rotate_left 2
               ·go_simp
                constructor
                ·rfl
                ·rfl
               clear hcv32
               refine hK.out _ _ ⟨Sq.bc al 7, Sq.bc al 12, Sq.bc al 14, Sq.bc al 15, Sq.bc al 16, Sq.bc al 19, Sq.bc al 20⟩ (fun hHeld => ?_)
               clear hK K
               refine norm_ (a' := ?_) ?_ ?_
               rotate_left
               ·show Act.put _ (some 31) _ = _
                simp only [Act.put, Sq.s1, Sq.s2, Sq.s3, i64_w, i32_w]
                rfl
               refine Sq.pur 12 (some 32) (Sq.b 31 163020799) HT_.out ?_
               refine Sq.pur 15 (some 35) (Sq.b 31 163053567) HT_.out ?_
               refine Sq.pur 19 (some 39) (Sq.b 31 163577855) HT_.out ?_
               refine Sq.pur 22 (some 42) (Sq.b 31 167772159) HT_.out ?_
               exact norm_ Z13 (hJ10_11_18 (ct) _ ⟨hHeld, Z12, Z3, Z0⟩)
              ·skip
               refine goes_ Try.func52 Z11 rfl #[.int .i64 ak, .int .i64 4] Z14 rfl rfl Z4 ?_
               with_reducible refine (roadbookref02_Of.calls k ak 4 aQ _ ob.out).mono ?_
               rintro e jN ⟨rfl, hb⟩
               refine ⟨_, rfl, ?_⟩
               have bi := Aside0.mk (Kd.R_below Z12 hb)
               have bp := Aside0.mk (blk_below (g := aE) Z3 hb)
               have bT := Aside0.mk (below_step Z0 hb)
               clear bS
               clear al
               clear HB
               have bS := bi
               have al := bp
               have HB := bT
               clear bi bp bT
               (try clear hb)
               (try clear hb2)
               (try clear hk)
               (try clear hi)
               refine hK.out _ _ ⟨Sq.bc al 7, Sq.bc al 12, Sq.bc al 14, Sq.bc al 15, Sq.bc al 16, Sq.bc al 19, Sq.bc al 20⟩ (fun hHeld => ?_)
               clear hK K
               refine norm_ (a' := ?_) ?_ ?_
               rotate_left
               ·show Act.put _ (some 45) _ = _
                simp only [Act.put, Sq.s1, Sq.s2, Sq.s3, i64_w, i32_w]
                rfl
               exact norm_ Z13 (hJ10_18_25 (ct) _ ⟨hHeld, Z12, Z3, Z0⟩)
            ·skip
             rintro ct jP ⟨hS_, h0_, h1_, h2_⟩
             have bi : Aside0 (Kd.R (Kd.int .u8) 5 jP w.heap.size (fun _ => True) ct aI) := ⟨h0_⟩
             have bp : Aside0 (jP.heap[aE]? = some (.cells #[.int .i64 aD, .int .i64 aw, .int .i64 ax, .string au, .int .i64 aA, .int .i64 ay, .string av, .int .i64 ar, .int .i64 aC, .string az, .int .i64 ao, .string am, .int .i64 ah, .int .i64 aj, .int .i64 ak, .int .i64 ae, .int .i64 ag, .int .i64 ai, .int .i64 an, .string aa, .string ab, .slice aP ac.length aN, .int .i64 ap, .string aq, .slice aJ af.length aK] 25 (0, 0))) := ⟨h1_⟩
             have bT : Aside0 (Below w.heap.size w jP) := ⟨h2_⟩
             clear al
             clear HB
             clear h0_ h1_ h2_
             have bS := bi
             have al := bp
             have HB := bT
             clear bi bp bT
             have hHeld := hS_
             try dsimp only at hHeld
             refine norm_ (a' := ?_) ?_ ?_
             rotate_left
             ·simp only [putAll, Act.put, Sq.s1, Sq.s2, Sq.s3]
              rfl
             refine one_ (i := 18) (N := some 38) (Sq.b 31 163053567) rfl rfl (one_of HT_.out Z11) Z21 (fun K hK => ?_)
             refine goes_ Try.func52 Z11 rfl #[.int .i64 ah, .int .i64 4] Z14 rfl rfl Z4 ?_
             with_reducible refine (roadbookref02_Of.calls k ah 4 aH _ jS.out).mono ?_
             rintro e jN ⟨rfl, hb⟩
             refine ⟨_, rfl, ?_⟩
             have bi := Aside0.mk (Kd.R_below Z12 hb)
             have bp := Aside0.mk (blk_below (g := aE) Z3 hb)
             have bT := Aside0.mk (below_step Z0 hb)
             clear bS
             clear al
             clear HB
             have bS := bi
             have al := bp
             have HB := bT
             clear bi bp bT
             (try clear hb)
             (try clear hb2)
             (try clear hk)
             (try clear hi)
             refine hK.out _ _ ⟨Sq.bc al 7, Sq.bc al 12, Sq.bc al 14, Sq.bc al 15, Sq.bc al 16, Sq.bc al 19, Sq.bc al 20⟩ (fun hHeld => ?_)
             clear hK K
             refine norm_ (a' := ?_) ?_ ?_
             rotate_left
             ·show Act.put _ (some 38) _ = _
              simp only [Act.put, Sq.s1, Sq.s2, Sq.s3, i64_w, i32_w]
              rfl
             refine Sq.pur 19 (some 39) (Sq.b 31 163577855) HT_.out ?_
             refine Sq.pur 22 (some 42) (Sq.b 31 167772159) HT_.out ?_
             exact norm_ Z13 (hJ10_11_18 (ct) _ ⟨hHeld, Z12, Z3, Z0⟩)
           ·skip
            rintro ct jN ⟨hS_, h0_, h1_, h2_⟩
            have bi : Aside0 (Kd.R (Kd.int .u8) 5 jN w.heap.size (fun _ => True) ct aI) := ⟨h0_⟩
            have bp : Aside0 (jN.heap[aE]? = some (.cells #[.int .i64 aD, .int .i64 aw, .int .i64 ax, .string au, .int .i64 aA, .int .i64 ay, .string av, .int .i64 ar, .int .i64 aC, .string az, .int .i64 ao, .string am, .int .i64 ah, .int .i64 aj, .int .i64 ak, .int .i64 ae, .int .i64 ag, .int .i64 ai, .int .i64 an, .string aa, .string ab, .slice aP ac.length aN, .int .i64 ap, .string aq, .slice aJ af.length aK] 25 (0, 0))) := ⟨h1_⟩
            have bT : Aside0 (Below w.heap.size w jN) := ⟨h2_⟩
            clear al
            clear HB
            clear h0_ h1_ h2_
            have bS := bi
            have al := bp
            have HB := bT
            clear bi bp bT
            have hHeld := hS_
            try dsimp only at hHeld
            refine norm_ (a' := ?_) ?_ ?_
            rotate_left
            ·simp only [putAll, Act.put, Sq.s1, Sq.s2, Sq.s3]
             rfl
            refine one_ (i := 11) (N := some 31) (Sq.b 31 196571135) rfl rfl (one_of HT_.out Z11) Z21 (fun K hK => ?_)
            have hcv33 := own_string (P := Try.prog) Try.underlying51 Try.underlying5 Try.underlying9 (Kd.own_of_R bS.out)
            refine value_ (w1 := ?_) (v := ?_) Z14 rfl ?_ ?_
            rotate_left 2
            ·go_simp
             constructor
             ·rfl
             ·rfl
            clear hcv33
            refine hK.out _ _ ⟨Sq.bc al 7, Sq.bc al 12, Sq.bc al 14, Sq.bc al 15, Sq.bc al 16, Sq.bc al 19, Sq.bc al 20⟩ (fun hHeld => ?_)
            clear hK K
            refine norm_ (a' := ?_) ?_ ?_
            rotate_left
            ·show Act.put _ (some 31) _ = _
             simp only [Act.put, Sq.s1, Sq.s2, Sq.s3, i64_w, i32_w]
             rfl
            refine Sq.pur 12 (some 32) (Sq.b 31 196575231) HT_.out ?_
            refine Sq.pur 15 (some 35) (Sq.b 31 196607999) HT_.out ?_
            refine Sq.pur 19 (some 39) (Sq.b 31 197132287) HT_.out ?_
            refine Sq.pur 22 (some 42) (Sq.b 31 201326591) HT_.out ?_
            exact norm_ Z13 (hJ10_11_18_25 (ct) _ ⟨hHeld, Z12, Z3, Z0⟩)
          ·skip
           rintro ct jN ⟨hS_, h0_, h1_, h2_⟩
           have bi : Aside0 (Kd.R (Kd.int .u8) 5 jN w.heap.size (fun _ => True) ct aI) := ⟨h0_⟩
           have bp : Aside0 (jN.heap[aE]? = some (.cells #[.int .i64 aD, .int .i64 aw, .int .i64 ax, .string au, .int .i64 aA, .int .i64 ay, .string av, .int .i64 ar, .int .i64 aC, .string az, .int .i64 ao, .string am, .int .i64 ah, .int .i64 aj, .int .i64 ak, .int .i64 ae, .int .i64 ag, .int .i64 ai, .int .i64 an, .string aa, .string ab, .slice aP ac.length aN, .int .i64 ap, .string aq, .slice aJ af.length aK] 25 (0, 0))) := ⟨h1_⟩
           have bT : Aside0 (Below w.heap.size w jN) := ⟨h2_⟩
           clear al
           clear HB
           clear h0_ h1_ h2_
           have bS := bi
           have al := bp
           have HB := bT
           clear bi bp bT
           have hHeld := hS_
           try dsimp only at hHeld
           refine norm_ (a' := ?_) ?_ ?_
           rotate_left
           ·simp only [putAll, Act.put, Sq.s1, Sq.s2, Sq.s3]
            rfl
           refine one_ (i := 25) (N := some 45) (Sq.b 31 201326591) rfl rfl (one_of HT_.out Z11) Z21 (fun K hK => ?_)
           refine goes_ Try.func52 Z11 rfl #[.int .i64 ak, .int .i64 4] Z14 rfl rfl Z4 ?_
           with_reducible refine (roadbookref02_Of.calls k ak 4 aQ _ ob.out).mono ?_
           rintro e nv ⟨rfl, hb⟩
           refine ⟨_, rfl, ?_⟩
           have bi := Aside0.mk (Kd.R_below Z12 hb)
           have bp := Aside0.mk (blk_below (g := aE) Z3 hb)
           have bT := Aside0.mk (below_step Z0 hb)
           clear bS
           clear al
           clear HB
           have bS := bi
           have al := bp
           have HB := bT
           clear bi bp bT
           (try clear hb)
           (try clear hb2)
           (try clear hk)
           (try clear hi)
           refine hK.out _ _ ⟨Sq.bc al 7, Sq.bc al 12, Sq.bc al 14, Sq.bc al 15, Sq.bc al 16, Sq.bc al 19, Sq.bc al 20⟩ (fun hHeld => ?_)
           clear hK K
           refine norm_ (a' := ?_) ?_ ?_
           rotate_left
           ·show Act.put _ (some 45) _ = _
            simp only [Act.put, Sq.s1, Sq.s2, Sq.s3, i64_w, i32_w]
            rfl
           exact norm_ Z13 (hJ10_11_18_25 (ct) _ ⟨hHeld, Z12, Z3, Z0⟩)
         rintro ct nv ⟨hS_, h0_, h1_, h2_⟩
         have bi : Aside0 (Kd.R (Kd.int .u8) 5 nv w.heap.size (fun _ => True) ct aI) := ⟨h0_⟩
         have bp : Aside0 (nv.heap[aE]? = some (.cells #[.int .i64 aD, .int .i64 aw, .int .i64 ax, .string au, .int .i64 aA, .int .i64 ay, .string av, .int .i64 ar, .int .i64 aC, .string az, .int .i64 ao, .string am, .int .i64 ah, .int .i64 aj, .int .i64 ak, .int .i64 ae, .int .i64 ag, .int .i64 ai, .int .i64 an, .string aa, .string ab, .slice aP ac.length aN, .int .i64 ap, .string aq, .slice aJ af.length aK] 25 (0, 0))) := ⟨h1_⟩
         have bT : Aside0 (Below w.heap.size w nv) := ⟨h2_⟩
         clear al
         clear HB
         clear h0_ h1_ h2_
         have bS := bi
         have al := bp
         have HB := bT
         clear bi bp bT
         have hHeld := hS_
         try dsimp only at hHeld
         refine norm_ (a' := ?_) ?_ ?_
         rotate_left
         ·simp only [putAll, Act.put, Sq.s1, Sq.s2, Sq.s3]
          rfl
         refine Sq.pur 26 (some 46) (Sq.b 31 268435455) HT_.out ?_
         refine Sq.pur 28 (some 48) (Sq.b 31 536870911) HT_.out ?_
         refine Sq.pur 29 (some 2) (Sq.b 31 1073741823) HT_.out ?_
         refine Sq.pur 30 (some 3) (Sq.b 31 2147483647) HT_.out ?_
         refine done_ (done_of HT_.out Z11) ?_
         try go_wp2_with (first | ((with_reducible refine Pre.gate_load 25 rfl ?_); (try (refine gate_guard Z14 ?_; dsimp only)); refine Pre.load_event rfl rfl rfl Z14 Z1 Try.underlying25 rfl Z11 ?_))
         go_ret2
         exact ⟨Z6, Z0⟩
        ·rw [if_neg gZ] at H
         exact absurd H Z35
       ·rw [if_neg eN] at H
        exact absurd H Z35
      ·rw [if_neg eM] at H
       exact absurd H Z35
     ·rw [if_neg dy] at H
      exact absurd H Z35
    ·rw [if_neg dQ] at H
     exact absurd H Z35
   ·rw [if_neg dB] at H
    exact absurd H Z35
 ·replace c3 := Bool.eq_false_iff.mpr c3
  subst c3
  have H1 : (some ((⟨#[]⟩ : ByteArray), false)) = some (r1, r2) := by rw [if_neg (show ¬ (false = true) by decide)] at H; exact H
  clear H
  have H := H1
  clear H1
  simp only [Option.some.injEq, Prod.mk.injEq] at H
  obtain ⟨rfl, rfl⟩ := H
  go_enter Try.func35, Try.ntmps35
  go_wp2_with (first | ((with_reducible refine Pre.gate_load 25 rfl ?_); (try (refine gate_guard Z14 ?_; dsimp only)); refine Pre.load_event rfl rfl rfl Z14 Z1 Try.underlying25 rfl Z11 ?_) | ((with_reducible refine gate_dst (N := 1) rfl ?_); refine Sq.box 1 #[.int .i64 aD, .int .i64 aw, .int .i64 ax, .string au, .int .i64 aA, .int .i64 ay, .string av, .int .i64 ar, .int .i64 aC, .string az, .int .i64 ao, .string am, .int .i64 ah, .int .i64 aj, .int .i64 ak, .int .i64 ae, .int .i64 ag, .int .i64 ai, .int .i64 an, .string aa, .string ab, .slice aP ac.length aN, .int .i64 ap, .string aq, .slice aJ af.length aK] 25 ?_; intro aE hg oK hbox hb; have al := Aside0.mk (hbox); have cd := Aside0.mk (Sq.ge hg Z2); have bV := Aside0.mk (Sq.ge hg Z2); replace HB := Aside0.mk (below_step Z2 hb); clear hb hbox hg; have ij := cells_25 al.out) | ((with_reducible refine gate_callee (f := 37) rfl ?_); refine goesL_ (some 7) rfl rfl Try.func37 Z11 rfl #[.agg #[.int .i64 aD, .int .i64 aw, .int .i64 ax, .string au, .int .i64 aA, .int .i64 ay, .string av, .int .i64 ar, .int .i64 aC, .string az, .int .i64 ao, .string am, .int .i64 ah, .int .i64 aj, .int .i64 ak, .int .i64 ae, .int .i64 ag, .int .i64 ai, .int .i64 an, .string aa, .string ab, .slice aP ac.length aN, .int .i64 ap, .string aq, .slice aJ af.length aK]] rfl Z4 ?_; (with_reducible refine (roadbookref15_Right.calls k aD aw ax au aA ay av ar aC az ao am ah aj ak ae ag ai an aa ab _ _ ac ap aq _ _ af false _ ?side1 ?side2 ?side3 ?side4 A2.out).mono ?_); (case side1 => exact Z7); (case side2 => exact aZ.out); (case side3 => exact Z5); (case side4 => exact aT.out); rintro e oL ⟨rfl, hb⟩; refine ⟨_, rfl, ?_⟩; replace al := Aside0.mk (blk_below (g := aE) Z3 hb); replace HB := Aside0.mk (below_step Z0 hb); clear hb))
  go_ret2
  exact ⟨Z6, Z0⟩

end Go.Proofs.Ytccjakjjaemmkaa.PAE
