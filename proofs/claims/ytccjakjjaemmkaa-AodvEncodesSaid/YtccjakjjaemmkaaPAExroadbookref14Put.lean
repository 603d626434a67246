-- Written by mp.py, a program of this work (wip/tools), out of the translation; Lean checks it.
import Derived.Test.YtccjakjjaemmkaaPAExZ
import Derived.Test.YtccjakjjaemmkaaPAExoctet
import Derived.Test.YtccjakjjaemmkaaPAExroadbookref13
import Derived.Test.YtccjakjjaemmkaaPAExroadbookref14
import Derived.Test.YtccjakjjaemmkaaLoad
namespace Go.Proofs.Ytccjakjjaemmkaa.PAE
open Go.RowKit Go.Proofs.YtccjakjjaemmkaaW.PrintWords Go.Proofs.YtccjakjjaemmkaaW.PrintLast Go.Proofs.YtccjakjjaemmkaaW.PrintMore
attribute [local go_sem] max2_int min2_int max_two min_two max_three min_three max_four min_four   -- for this text's walks alone
set_option linter.unusedVariables false
set_option linter.unusedSimpArgs false

/-! ### roadbookref14_Put: function 19 -/
def roadbookref14_Put.f (k : Nat) (aD : Int) (aw : Int) (ax : Int) (au : ByteArray) (aA : Int) (ay : Int) (av : ByteArray) (ar : Int) (aC : Int) (az : ByteArray) (ao : Int) (am : ByteArray) (ah : Int) (aj : Int) (ak : Int) (ae : Int) (ag : Int) (ai : Int) (an : Int) (aa : ByteArray) (ab : ByteArray) (ac : List (S46)) (ap : Int) (aq : ByteArray) (af : List (S48)) : Option (ByteArray × Bool) := (roadbookref14_Right.f k aD aw ax au aA ay av ar aC az ao am ah aj ak ae ag ai an aa ab ac ap aq af).bind fun aU => (if aU = true then ((roadbookref13_Put.f k af).bind fun bR => ((some (([(wrap64 (8 * ae)) % 256, 0, (ag) % 256] : List Int) : List Int)).bind fun aI => (if 1 + (strOfNums aI).size ≤ 9223372036854775807 then ((roadbookref02_Of.f k ai 4).bind fun aH => (if ((⟨#[1]⟩ : ByteArray) ++ (strOfNums aI)).size + aH.size ≤ 9223372036854775807 then (if (((⟨#[1]⟩ : ByteArray) ++ (strOfNums aI)) ++ aH).size + aa.size ≤ 9223372036854775807 then ((roadbookref02_Of.f k ah 4).bind fun aQ => (if ((((⟨#[1]⟩ : ByteArray) ++ (strOfNums aI)) ++ aH) ++ aa).size + aQ.size ≤ 9223372036854775807 then (if (((((⟨#[1]⟩ : ByteArray) ++ (strOfNums aI)) ++ aH) ++ aa) ++ aQ).size + ab.size ≤ 9223372036854775807 then ((roadbookref02_Of.f k aj 4).bind fun ba => (if ((((((⟨#[1]⟩ : ByteArray) ++ (strOfNums aI)) ++ aH) ++ aa) ++ aQ) ++ ab).size + ba.size ≤ 9223372036854775807 then (if (((((((⟨#[1]⟩ : ByteArray) ++ (strOfNums aI)) ++ aH) ++ aa) ++ aQ) ++ ab) ++ ba).size + bR.1.size ≤ 9223372036854775807 then (some ((((((((⟨#[1]⟩ : ByteArray) ++ (strOfNums aI)) ++ aH) ++ aa) ++ aQ) ++ ab) ++ ba) ++ bR.1, true)) else (none)) else (none))) else (none)) else (none))) else (none)) else (none))) else (none)))) else (some ((⟨#[]⟩ : ByteArray), false)))
theorem roadbookref14_Put.mono : ∀ a0 a1 a2 a3 a4 a5 a6 a7 a8 a9 dY dZ ea eb ec ed ee ef eg eh ei ej ek el em k, LeO (roadbookref14_Put.f k a0 a1 a2 a3 a4 a5 a6 a7 a8 a9 dY dZ ea eb ec ed ee ef eg eh ei ej ek el em) (roadbookref14_Put.f (k + 1) a0 a1 a2 a3 a4 a5 a6 a7 a8 a9 dY dZ ea eb ec ed ee ef eg eh ei ej ek el em) := by
 intros
 rename_i k
 unfold roadbookref14_Put.f
 have m0 := roadbookref02_Of.mono
 have m1 := roadbookref13_Put.mono
 have m2 := roadbookref14_Right.mono
 exact Sq.mo
def roadbookref14_Put.T4 : Bool × List (List Nat × List Nat) := (true, [([], []), ([0], [0]), ([1], [1]), ([2], [2]), ([], []), ([4], [4]), ([5], [5]), ([3, 6], [3, 6]), ([7], [7]), ([8], [8]), ([], []), ([10], [10]), ([11], [11]), ([9, 12], [9, 12]), ([], []), ([14], [14]), ([13, 15], [13, 15]), ([], []), ([17], [17]), ([18, 12], [18]), ([16, 19], [16, 19]), ([], []), ([21], [21]), ([20, 22], [20, 22]), ([], []), ([24], [24]), ([25, 19], [25]), ([23, 26], [23, 26]), ([], []), ([27, 28], [27, 28]), ([29, 26, 0, 1, 2, 3, 4, 5, 6, 7, 8, 9, 10, 11, 12, 13, 14, 15, 16, 17, 18, 19, 20, 21, 22, 23, 24, 25, 26, 27, 28, 29], [29]), ([30, 0, 1, 2, 3, 4, 5, 6, 7, 8, 9, 10, 11, 12, 13, 14, 15, 16, 17, 18, 19, 20, 21, 22, 23, 24, 25, 26, 27, 28, 29, 30], [])])
def roadbookref14_Put.B4 : List Nat := [0, 1, 3, 7, 0, 16, 48, 127, 255, 511, 0, 1024, 3072, 8191, 0, 16384, 65535, 0, 131072, 400384, 1048575, 0, 2097152, 8388607, 0, 16777216, 51256320, 134217727, 0, 536870911, 1073741823, 2147483647]
theorem roadbookref14_Put.tab4 : rtab .any (opsOf Try.f19 4) = roadbookref14_Put.T4 := by kernel_rfl
theorem roadbookref14_Put.bits4 : waitsOk roadbookref14_Put.T4.2 roadbookref14_Put.B4 = true := by kernel_rfl

set_option maxHeartbeats 8000000 in
set_option maxRecDepth 100000 in
theorem roadbookref14_Put.calls (k : Nat) (aD : Int) (aw : Int) (ax : Int) (au : ByteArray) (aA : Int) (ay : Int) (av : ByteArray) (ar : Int) (aC : Int) (az : ByteArray) (ao : Int) (am : ByteArray) (ah : Int) (aj : Int) (ak : Int) (ae : Int) (ag : Int) (ai : Int) (an : Int) (aa : ByteArray) (ab : ByteArray) (aP : Option Addr) (aN : Nat) (ac : List (S46)) (ap : Int) (aq : ByteArray) (aJ : Option Addr) (aK : Nat) (af : List (S48)) (r1 : ByteArray) (r2 : Bool) (w : World) (bk : Kd.C k46 w aP ac.length ac) (bl : ac.length ≤ aN) (bm : Kd.C k48 w aJ af.length af) (bn : af.length ≤ aK) (h : roadbookref14_Put.f k aD aw ax au aA ay av ar aC az ao am ah aj ak ae ag ai an aa ab ac ap aq af = some (r1, r2)) :
  Calls Try.prog 19 #[.agg #[.int .i64 aD, .int .i64 aw, .int .i64 ax, .string au, .int .i64 aA, .int .i64 ay, .string av, .int .i64 ar, .int .i64 aC, .string az, .int .i64 ao, .string am, .int .i64 ah, .int .i64 aj, .int .i64 ak, .int .i64 ae, .int .i64 ag, .int .i64 ai, .int .i64 an, .string aa, .string ab, .slice aP ac.length aN, .int .i64 ap, .string aq, .slice aJ af.length aK]] w fun e w' => e = .returned (.tuple #[.string r1, .bool r2]) ∧ Below w.heap.size w w' := by
 have dM := Try.underlying25
 have cc := Aside0.mk bk
 have aZ := Aside0.mk bl
 clear bk bl
 have bZ := Aside0.mk bm
 have aT := Aside0.mk bn
 clear bm bn
 have HB := Aside0.mk (Below.refl w.heap.size w)
 have H : ((roadbookref14_Right.f k aD aw ax au aA ay av ar aC az ao am ah aj ak ae ag ai an aa ab ac ap aq af).bind fun aU => (if aU = true then ((roadbookref13_Put.f k af).bind fun bR => ((some (([(wrap64 (8 * ae)) % 256, 0, (ag) % 256] : List Int) : List Int)).bind fun aI => (if 1 + (strOfNums aI).size ≤ 9223372036854775807 then ((roadbookref02_Of.f k ai 4).bind fun aH => (if ((⟨#[1]⟩ : ByteArray) ++ (strOfNums aI)).size + aH.size ≤ 9223372036854775807 then (if (((⟨#[1]⟩ : ByteArray) ++ (strOfNums aI)) ++ aH).size + aa.size ≤ 9223372036854775807 then ((roadbookref02_Of.f k ah 4).bind fun aQ => (if ((((⟨#[1]⟩ : ByteArray) ++ (strOfNums aI)) ++ aH) ++ aa).size + aQ.size ≤ 9223372036854775807 then (if (((((⟨#[1]⟩ : ByteArray) ++ (strOfNums aI)) ++ aH) ++ aa) ++ aQ).size + ab.size ≤ 9223372036854775807 then ((roadbookref02_Of.f k aj 4).bind fun ba => (if ((((((⟨#[1]⟩ : ByteArray) ++ (strOfNums aI)) ++ aH) ++ aa) ++ aQ) ++ ab).size + ba.size ≤ 9223372036854775807 then (if (((((((⟨#[1]⟩ : ByteArray) ++ (strOfNums aI)) ++ aH) ++ aa) ++ aQ) ++ ab) ++ ba).size + bR.1.size ≤ 9223372036854775807 then (some ((((((((⟨#[1]⟩ : ByteArray) ++ (strOfNums aI)) ++ aH) ++ aa) ++ aQ) ++ ab) ++ ba) ++ bR.1, true)) else (none)) else (none))) else (none)) else (none))) else (none)) else (none))) else (none)))) else (some ((⟨#[]⟩ : ByteArray), false)))) = some (r1, r2) := h
 clear h
 replace H := Option.bind_eq_some_iff.mp H
 obtain ⟨aU, dL, H⟩ := H
 replace H : (if aU = true then ((roadbookref13_Put.f k af).bind fun bR => ((some (([(wrap64 (8 * ae)) % 256, 0, (ag) % 256] : List Int) : List Int)).bind fun aI => (if 1 + (strOfNums aI).size ≤ 9223372036854775807 then ((roadbookref02_Of.f k ai 4).bind fun aH => (if ((⟨#[1]⟩ : ByteArray) ++ (strOfNums aI)).size + aH.size ≤ 9223372036854775807 then (if (((⟨#[1]⟩ : ByteArray) ++ (strOfNums aI)) ++ aH).size + aa.size ≤ 9223372036854775807 then ((roadbookref02_Of.f k ah 4).bind fun aQ => (if ((((⟨#[1]⟩ : ByteArray) ++ (strOfNums aI)) ++ aH) ++ aa).size + aQ.size ≤ 9223372036854775807 then (if (((((⟨#[1]⟩ : ByteArray) ++ (strOfNums aI)) ++ aH) ++ aa) ++ aQ).size + ab.size ≤ 9223372036854775807 then ((roadbookref02_Of.f k aj 4).bind fun ba => (if ((((((⟨#[1]⟩ : ByteArray) ++ (strOfNums aI)) ++ aH) ++ aa) ++ aQ) ++ ab).size + ba.size ≤ 9223372036854775807 then (if (((((((⟨#[1]⟩ : ByteArray) ++ (strOfNums aI)) ++ aH) ++ aa) ++ aQ) ++ ab) ++ ba).size + bR.1.size ≤ 9223372036854775807 then (some ((((((((⟨#[1]⟩ : ByteArray) ++ (strOfNums aI)) ++ aH) ++ aa) ++ aQ) ++ ab) ++ ba) ++ bR.1, true)) else (none)) else (none))) else (none)) else (none))) else (none)) else (none))) else (none)))) else (some ((⟨#[]⟩ : ByteArray), false))) = some (r1, r2) := H
 have A2 := Aside0.mk dL
 clear dL
 by_cases c3 : aU = true
 ·subst c3
  have H1 : ((roadbookref13_Put.f k af).bind fun bR => ((some (([(wrap64 (8 * ae)) % 256, 0, (ag) % 256] : List Int) : List Int)).bind fun aI => (if 1 + (strOfNums aI).size ≤ 9223372036854775807 then ((roadbookref02_Of.f k ai 4).bind fun aH => (if ((⟨#[1]⟩ : ByteArray) ++ (strOfNums aI)).size + aH.size ≤ 9223372036854775807 then (if (((⟨#[1]⟩ : ByteArray) ++ (strOfNums aI)) ++ aH).size + aa.size ≤ 9223372036854775807 then ((roadbookref02_Of.f k ah 4).bind fun aQ => (if ((((⟨#[1]⟩ : ByteArray) ++ (strOfNums aI)) ++ aH) ++ aa).size + aQ.size ≤ 9223372036854775807 then (if (((((⟨#[1]⟩ : ByteArray) ++ (strOfNums aI)) ++ aH) ++ aa) ++ aQ).size + ab.size ≤ 9223372036854775807 then ((roadbookref02_Of.f k aj 4).bind fun ba => (if ((((((⟨#[1]⟩ : ByteArray) ++ (strOfNums aI)) ++ aH) ++ aa) ++ aQ) ++ ab).size + ba.size ≤ 9223372036854775807 then (if (((((((⟨#[1]⟩ : ByteArray) ++ (strOfNums aI)) ++ aH) ++ aa) ++ aQ) ++ ab) ++ ba).size + bR.1.size ≤ 9223372036854775807 then (some ((((((((⟨#[1]⟩ : ByteArray) ++ (strOfNums aI)) ++ aH) ++ aa) ++ aQ) ++ ab) ++ ba) ++ bR.1, true)) else (none)) else (none))) else (none)) else (none))) else (none)) else (none))) else (none)))) = some (r1, r2) := by rw [if_pos rfl] at H; exact H
  clear H
  have H := H1
  clear H1
  replace H := Option.bind_eq_some_iff.mp H
  obtain ⟨⟨aY, bg⟩, gl, H⟩ := H
  replace H : ((some (([(wrap64 (8 * ae)) % 256, 0, (ag) % 256] : List Int) : List Int)).bind fun aI => (if 1 + (strOfNums aI).size ≤ 9223372036854775807 then ((roadbookref02_Of.f k ai 4).bind fun aH => (if ((⟨#[1]⟩ : ByteArray) ++ (strOfNums aI)).size + aH.size ≤ 9223372036854775807 then (if (((⟨#[1]⟩ : ByteArray) ++ (strOfNums aI)) ++ aH).size + aa.size ≤ 9223372036854775807 then ((roadbookref02_Of.f k ah 4).bind fun aQ => (if ((((⟨#[1]⟩ : ByteArray) ++ (strOfNums aI)) ++ aH) ++ aa).size + aQ.size ≤ 9223372036854775807 then (if (((((⟨#[1]⟩ : ByteArray) ++ (strOfNums aI)) ++ aH) ++ aa) ++ aQ).size + ab.size ≤ 9223372036854775807 then ((roadbookref02_Of.f k aj 4).bind fun ba => (if ((((((⟨#[1]⟩ : ByteArray) ++ (strOfNums aI)) ++ aH) ++ aa) ++ aQ) ++ ab).size + ba.size ≤ 9223372036854775807 then (if (((((((⟨#[1]⟩ : ByteArray) ++ (strOfNums aI)) ++ aH) ++ aa) ++ aQ) ++ ab) ++ ba).size + aY.size ≤ 9223372036854775807 then (some ((((((((⟨#[1]⟩ : ByteArray) ++ (strOfNums aI)) ++ aH) ++ aa) ++ aQ) ++ ab) ++ ba) ++ aY, true)) else (none)) else (none))) else (none)) else (none))) else (none)) else (none))) else (none))) = some (r1, r2) := H
  have A4 := Aside0.mk gl
  clear gl
  obtain ⟨aI, hy105⟩ : ∃ y_ : List Int, y_ = (([(wrap64 (8 * ae)) % 256, 0, (ag) % 256] : List Int)) := ⟨_, rfl⟩
  replace H : (if 1 + (strOfNums aI).size ≤ 9223372036854775807 then ((roadbookref02_Of.f k ai 4).bind fun aH => (if ((⟨#[1]⟩ : ByteArray) ++ (strOfNums aI)).size + aH.size ≤ 9223372036854775807 then (if (((⟨#[1]⟩ : ByteArray) ++ (strOfNums aI)) ++ aH).size + aa.size ≤ 9223372036854775807 then ((roadbookref02_Of.f k ah 4).bind fun aQ => (if ((((⟨#[1]⟩ : ByteArray) ++ (strOfNums aI)) ++ aH) ++ aa).size + aQ.size ≤ 9223372036854775807 then (if (((((⟨#[1]⟩ : ByteArray) ++ (strOfNums aI)) ++ aH) ++ aa) ++ aQ).size + ab.size ≤ 9223372036854775807 then ((roadbookref02_Of.f k aj 4).bind fun ba => (if ((((((⟨#[1]⟩ : ByteArray) ++ (strOfNums aI)) ++ aH) ++ aa) ++ aQ) ++ ab).size + ba.size ≤ 9223372036854775807 then (if (((((((⟨#[1]⟩ : ByteArray) ++ (strOfNums aI)) ++ aH) ++ aa) ++ aQ) ++ ab) ++ ba).size + aY.size ≤ 9223372036854775807 then (some ((((((((⟨#[1]⟩ : ByteArray) ++ (strOfNums aI)) ++ aH) ++ aa) ++ aQ) ++ ab) ++ ba) ++ aY, true)) else (none)) else (none))) else (none)) else (none))) else (none)) else (none))) else (none)) = some (r1, r2) := by first | (rw [hy105]; with_reducible exact H) | (have H2_ := (Option.bind_some _ _).symm.trans H; rw [hy105]; with_reducible exact H2_) | (have H2_ := (Option.bind_some _ _).symm.trans H; with_reducible exact H2_) | with_reducible exact H | (rw [hy105]; exact H) | exact H
  have Ny105 := Aside0.mk hy105
  clear hy105
  by_cases c5 : 1 + (strOfNums aI).size ≤ 9223372036854775807
  ·rw [if_pos c5] at H
   have dx := eq_true c5
   have fJ : decide (1 + (strOfNums aI).size ≤ 9223372036854775807) = true := decide_eq_true c5
   try have nB : (9223372036854775807 < 1 + (strOfNums aI).size) = False := eq_false (Nat.not_lt.2 c5)
   try (have nC := nB; simp only [ByteArray.size_append] at nC)
   replace H := Option.bind_eq_some_iff.mp H
   obtain ⟨aH, hD, H⟩ := H
   replace H : (if ((⟨#[1]⟩ : ByteArray) ++ (strOfNums aI)).size + aH.size ≤ 9223372036854775807 then (if (((⟨#[1]⟩ : ByteArray) ++ (strOfNums aI)) ++ aH).size + aa.size ≤ 9223372036854775807 then ((roadbookref02_Of.f k ah 4).bind fun aQ => (if ((((⟨#[1]⟩ : ByteArray) ++ (strOfNums aI)) ++ aH) ++ aa).size + aQ.size ≤ 9223372036854775807 then (if (((((⟨#[1]⟩ : ByteArray) ++ (strOfNums aI)) ++ aH) ++ aa) ++ aQ).size + ab.size ≤ 9223372036854775807 then ((roadbookref02_Of.f k aj 4).bind fun ba => (if ((((((⟨#[1]⟩ : ByteArray) ++ (strOfNums aI)) ++ aH) ++ aa) ++ aQ) ++ ab).size + ba.size ≤ 9223372036854775807 then (if (((((((⟨#[1]⟩ : ByteArray) ++ (strOfNums aI)) ++ aH) ++ aa) ++ aQ) ++ ab) ++ ba).size + aY.size ≤ 9223372036854775807 then (some ((((((((⟨#[1]⟩ : ByteArray) ++ (strOfNums aI)) ++ aH) ++ aa) ++ aQ) ++ ab) ++ ba) ++ aY, true)) else (none)) else (none))) else (none)) else (none))) else (none)) else (none)) = some (r1, r2) := H
   have A6 := Aside0.mk hD
   clear hD
   by_cases c7 : ((⟨#[1]⟩ : ByteArray) ++ (strOfNums aI)).size + aH.size ≤ 9223372036854775807
   ·rw [if_pos c7] at H
    have dT := eq_true c7
    have hu : decide (((⟨#[1]⟩ : ByteArray) ++ (strOfNums aI)).size + aH.size ≤ 9223372036854775807) = true := decide_eq_true c7
    try have jb : (9223372036854775807 < ((⟨#[1]⟩ : ByteArray) ++ (strOfNums aI)).size + aH.size) = False := eq_false (Nat.not_lt.2 c7)
    try (have jc := jb; simp only [ByteArray.size_append, show (⟨#[1]⟩ : ByteArray).size = 1 from rfl] at jc)
    by_cases c8 : (((⟨#[1]⟩ : ByteArray) ++ (strOfNums aI)) ++ aH).size + aa.size ≤ 9223372036854775807
    ·rw [if_pos c8] at H
     have fS := eq_true c8
     have gF : decide ((((⟨#[1]⟩ : ByteArray) ++ (strOfNums aI)) ++ aH).size + aa.size ≤ 9223372036854775807) = true := decide_eq_true c8
     try have jR : (9223372036854775807 < (((⟨#[1]⟩ : ByteArray) ++ (strOfNums aI)) ++ aH).size + aa.size) = False := eq_false (Nat.not_lt.2 c8)
     try (have nD := jR; simp only [ByteArray.size_append, show (⟨#[1]⟩ : ByteArray).size = 1 from rfl] at nD)
     replace H := Option.bind_eq_some_iff.mp H
     obtain ⟨aQ, lQ, H⟩ := H
     replace H : (if ((((⟨#[1]⟩ : ByteArray) ++ (strOfNums aI)) ++ aH) ++ aa).size + aQ.size ≤ 9223372036854775807 then (if (((((⟨#[1]⟩ : ByteArray) ++ (strOfNums aI)) ++ aH) ++ aa) ++ aQ).size + ab.size ≤ 9223372036854775807 then ((roadbookref02_Of.f k aj 4).bind fun ba => (if ((((((⟨#[1]⟩ : ByteArray) ++ (strOfNums aI)) ++ aH) ++ aa) ++ aQ) ++ ab).size + ba.size ≤ 9223372036854775807 then (if (((((((⟨#[1]⟩ : ByteArray) ++ (strOfNums aI)) ++ aH) ++ aa) ++ aQ) ++ ab) ++ ba).size + aY.size ≤ 9223372036854775807 then (some ((((((((⟨#[1]⟩ : ByteArray) ++ (strOfNums aI)) ++ aH) ++ aa) ++ aQ) ++ ab) ++ ba) ++ aY, true)) else (none)) else (none))) else (none)) else (none)) = some (r1, r2) := H
     have A9 := Aside0.mk lQ
     clear lQ
     by_cases dv : ((((⟨#[1]⟩ : ByteArray) ++ (strOfNums aI)) ++ aH) ++ aa).size + aQ.size ≤ 9223372036854775807
     ·rw [if_pos dv] at H
      have eS := eq_true dv
      have gn : decide (((((⟨#[1]⟩ : ByteArray) ++ (strOfNums aI)) ++ aH) ++ aa).size + aQ.size ≤ 9223372036854775807) = true := decide_eq_true dv
      try have jd : (9223372036854775807 < ((((⟨#[1]⟩ : ByteArray) ++ (strOfNums aI)) ++ aH) ++ aa).size + aQ.size) = False := eq_false (Nat.not_lt.2 dv)
      try (have je := jd; simp only [ByteArray.size_append, show (⟨#[1]⟩ : ByteArray).size = 1 from rfl] at je)
      by_cases dC : (((((⟨#[1]⟩ : ByteArray) ++ (strOfNums aI)) ++ aH) ++ aa) ++ aQ).size + ab.size ≤ 9223372036854775807
      ·rw [if_pos dC] at H
       have fg := eq_true dC
       have jf : decide ((((((⟨#[1]⟩ : ByteArray) ++ (strOfNums aI)) ++ aH) ++ aa) ++ aQ).size + ab.size ≤ 9223372036854775807) = true := decide_eq_true dC
       try have lV : (9223372036854775807 < (((((⟨#[1]⟩ : ByteArray) ++ (strOfNums aI)) ++ aH) ++ aa) ++ aQ).size + ab.size) = False := eq_false (Nat.not_lt.2 dC)
       try (have lW := lV; simp only [ByteArray.size_append, show (⟨#[1]⟩ : ByteArray).size = 1 from rfl] at lW)
       replace H := Option.bind_eq_some_iff.mp H
       obtain ⟨ba, jg, H⟩ := H
       replace H : (if ((((((⟨#[1]⟩ : ByteArray) ++ (strOfNums aI)) ++ aH) ++ aa) ++ aQ) ++ ab).size + ba.size ≤ 9223372036854775807 then (if (((((((⟨#[1]⟩ : ByteArray) ++ (strOfNums aI)) ++ aH) ++ aa) ++ aQ) ++ ab) ++ ba).size + aY.size ≤ 9223372036854775807 then (some ((((((((⟨#[1]⟩ : ByteArray) ++ (strOfNums aI)) ++ aH) ++ aa) ++ aQ) ++ ab) ++ ba) ++ aY, true)) else (none)) else (none)) = some (r1, r2) := H
       have lX := Aside0.mk jg
       clear jg
       by_cases dB : ((((((⟨#[1]⟩ : ByteArray) ++ (strOfNums aI)) ++ aH) ++ aa) ++ aQ) ++ ab).size + ba.size ≤ 9223372036854775807
       ·rw [if_pos dB] at H
        have fK := eq_true dB
        have gN : decide (((((((⟨#[1]⟩ : ByteArray) ++ (strOfNums aI)) ++ aH) ++ aa) ++ aQ) ++ ab).size + ba.size ≤ 9223372036854775807) = true := decide_eq_true dB
        try have hF : (9223372036854775807 < ((((((⟨#[1]⟩ : ByteArray) ++ (strOfNums aI)) ++ aH) ++ aa) ++ aQ) ++ ab).size + ba.size) = False := eq_false (Nat.not_lt.2 dB)
        try (have hG := hF; simp only [ByteArray.size_append, show (⟨#[1]⟩ : ByteArray).size = 1 from rfl] at hG)
        by_cases dQ : (((((((⟨#[1]⟩ : ByteArray) ++ (strOfNums aI)) ++ aH) ++ aa) ++ aQ) ++ ab) ++ ba).size + aY.size ≤ 9223372036854775807
        ·rw [if_pos dQ] at H
         have il := eq_true dQ
         have im : decide ((((((((⟨#[1]⟩ : ByteArray) ++ (strOfNums aI)) ++ aH) ++ aa) ++ aQ) ++ ab) ++ ba).size + aY.size ≤ 9223372036854775807) = true := decide_eq_true dQ
         try have hH : (9223372036854775807 < (((((((⟨#[1]⟩ : ByteArray) ++ (strOfNums aI)) ++ aH) ++ aa) ++ aQ) ++ ab) ++ ba).size + aY.size) = False := eq_false (Nat.not_lt.2 dQ)
         try (have hI := hH; simp only [ByteArray.size_append, show (⟨#[1]⟩ : ByteArray).size = 1 from rfl] at hI)
         simp only [Option.some.injEq, Prod.mk.injEq] at H
         obtain ⟨rfl, rfl⟩ := H
         go_enter Try.func19, Try.ntmps19
         try go_wp2_with (first | ((with_reducible refine Pre.gate_load 25 rfl ?_); (try (refine gate_guard Z14 ?_; dsimp only)); refine Pre.load_event rfl rfl rfl Z14 Z1 Try.underlying25 rfl Z11 ?_) | ((with_reducible refine gate_dst (N := 1) rfl ?_); refine Sq.box 1 #[.int .i64 aD, .int .i64 aw, .int .i64 ax, .string au, .int .i64 aA, .int .i64 ay, .string av, .int .i64 ar, .int .i64 aC, .string az, .int .i64 ao, .string am, .int .i64 ah, .int .i64 aj, .int .i64 ak, .int .i64 ae, .int .i64 ag, .int .i64 ai, .int .i64 an, .string aa, .string ab, .slice aP ac.length aN, .int .i64 ap, .string aq, .slice aJ af.length aK] 25 ?_; intro aE hg nE hbox hb; have al := Aside0.mk (hbox); have cd := Aside0.mk (Sq.ge hg Z2); have bV := Aside0.mk (Sq.ge hg Z2); replace HB := Aside0.mk (below_step Z2 hb); clear hb hbox hg; have io := cells_25 al.out) | ((with_reducible refine gate_callee (f := 21) rfl ?_); refine goesL_ (some 7) rfl rfl Try.func21 Z11 rfl #[.agg #[.int .i64 aD, .int .i64 aw, .int .i64 ax, .string au, .int .i64 aA, .int .i64 ay, .string av, .int .i64 ar, .int .i64 aC, .string az, .int .i64 ao, .string am, .int .i64 ah, .int .i64 aj, .int .i64 ak, .int .i64 ae, .int .i64 ag, .int .i64 ai, .int .i64 an, .string aa, .string ab, .slice aP ac.length aN, .int .i64 ap, .string aq, .slice aJ af.length aK]] rfl Z4 ?_; (with_reducible refine (roadbookref14_Right.calls k aD aw ax au aA ay av ar aC az ao am ah aj ak ae ag ai an aa ab _ _ ac ap aq _ _ af true _ ?side1 ?side2 ?side3 ?side4 A2.out).mono ?_); (case side1 => exact Z7); (case side2 => exact aZ.out); (case side3 => exact Z5); (case side4 => exact aT.out); rintro e ip ⟨rfl, hb⟩; refine ⟨_, rfl, ?_⟩; replace al := Aside0.mk (blk_below (g := aE) Z3 hb); replace HB := Aside0.mk (below_step Z0 hb); clear hb; have hJ := cells_25 al.out) | ((with_reducible refine gate_callee (f := 51) rfl ?_); refine goesL_ (some 12) rfl rfl Try.func51 Z11 rfl #[.slice aJ af.length aK] rfl Z4 ?_; (with_reducible refine (roadbookref13_Put.calls k _ _ af aY bg _ ?side1 ?side2 A4.out).mono ?_); (case side1 => exact Z5); (case side2 => exact aT.out); rintro e lk ⟨rfl, hb⟩; refine ⟨_, rfl, ?_⟩; replace al := Aside0.mk (blk_below (g := aE) Z3 hb); replace HB := Aside0.mk (below_step Z0 hb); clear hb))
         have bi := Aside0.mk (blk_drew al.out)
         have bp := Aside0.mk (below_drew1 HB.out)
         clear al
         clear HB
         have al := bi
         have HB := bp
         clear bi bp
         refine start_ (n := 32) (S := fun w' => w'.cell? ⟨aE, 12, none⟩ = some (.int .i64 ah) ∧ w'.cell? ⟨aE, 13, none⟩ = some (.int .i64 aj) ∧ w'.cell? ⟨aE, 15, none⟩ = some (.int .i64 ae) ∧ w'.cell? ⟨aE, 16, none⟩ = some (.int .i64 ag) ∧ w'.cell? ⟨aE, 17, none⟩ = some (.int .i64 ai) ∧ w'.cell? ⟨aE, 19, none⟩ = some (.string aa) ∧ w'.cell? ⟨aE, 20, none⟩ = some (.string ab)) (ds := []) (Sq.b 32 0) Z11 rfl rfl ⟨Sq.bc al 12, Sq.bc al 13, Sq.bc al 15, Sq.bc al 16, Sq.bc al 17, Sq.bc al 19, Sq.bc al 20⟩ (fun hHeld => ?_); refine with_tabW roadbookref14_Put.tab4 roadbookref14_Put.bits4 (fun HT_ HW_ => ?_)
         generalize lk.drew = iM at al HB hHeld ⊢
         refine Sq.pur 0 (some 15) (Sq.b 32 1) HT_.out ?_
         refine Sq.pur 4 (some 19) (Sq.b 32 17) HT_.out ?_
         refine Sq.pur 10 (some 25) (Sq.b 32 1041) HT_.out ?_
         refine Sq.pur 14 (some 29) (Sq.b 32 17425) HT_.out ?_
         refine Sq.pur 17 (some 32) (Sq.b 32 148497) HT_.out ?_
         refine Sq.pur 21 (some 36) (Sq.b 32 2245649) HT_.out ?_
         refine Sq.pur 24 (some 39) (Sq.b 32 19022865) HT_.out ?_
         refine Sq.pur 28 (some 43) (Sq.b 32 287458321) HT_.out ?_
         refine Sq.tak 1 (some 16) (Sq.b 32 287458323) HT_.out HW_.out hHeld (v := ?_) (a' := ?_) ?_ ?_ ?_
         rotate_left
         ·rintro w' ⟨s0, s1, s2, s3, s4, s5, s6⟩
          first | (refine Eq.trans (Pre.load_run (ty := 25) rfl Z14 Z36 Try.underlying25 rfl Z11) ?_; with_reducible rfl) | (go_simp; with_reducible rfl)
         rotate_left
         ·simp only [Act.put, Sq.s1, Sq.s2, Sq.s3, i64_w, i32_w]
          rfl
         refine Sq.pur 2 (some 17) (Sq.b 32 287458327) HT_.out ?_
         refine Sq.pur 3 (some 18) (Sq.b 32 287458335) HT_.out ?_
         refine Sq.tak 5 (some 20) (Sq.b 32 287458367) HT_.out HW_.out hHeld (v := ?_) (a' := ?_) ?_ ?_ ?_
         rotate_left
         ·rintro w' ⟨s0, s1, s2, s3, s4, s5, s6⟩
          first | (refine Eq.trans (Pre.load_run (ty := 25) rfl Z14 Z36 Try.underlying25 rfl Z11) ?_; with_reducible rfl) | (go_simp; with_reducible rfl)
         rotate_left
         ·simp only [Act.put, Sq.s1, Sq.s2, Sq.s3, i64_w, i32_w]
          rfl
         refine Sq.pur 6 (some 21) (Sq.b 32 287458431) HT_.out ?_
         refine Sq.tak 11 (some 26) (Sq.b 32 287460479) HT_.out HW_.out hHeld (v := ?_) (a' := ?_) ?_ ?_ ?_
         rotate_left
         ·rintro w' ⟨s0, s1, s2, s3, s4, s5, s6⟩
          first | (refine Eq.trans (Pre.load_run (ty := 25) rfl Z14 Z36 Try.underlying25 rfl Z11) ?_; with_reducible rfl) | (go_simp; with_reducible rfl)
         rotate_left
         ·simp only [Act.put, Sq.s1, Sq.s2, Sq.s3, i64_w, i32_w]
          rfl
         refine Sq.tak 15 (some 30) (Sq.b 32 287493247) HT_.out HW_.out hHeld (v := ?_) (a' := ?_) ?_ ?_ ?_
         rotate_left
         ·rintro w' ⟨s0, s1, s2, s3, s4, s5, s6⟩
          first | (refine Eq.trans (Pre.load_run (ty := 25) rfl Z14 Z36 Try.underlying25 rfl Z11) ?_; with_reducible rfl) | (go_simp; with_reducible rfl)
         rotate_left
         ·simp only [Act.put, Sq.s1, Sq.s2, Sq.s3, i64_w, i32_w]
          rfl
         refine Sq.tak 18 (some 33) (Sq.b 32 287755391) HT_.out HW_.out hHeld (v := ?_) (a' := ?_) ?_ ?_ ?_
         rotate_left
         ·rintro w' ⟨s0, s1, s2, s3, s4, s5, s6⟩
          first | (refine Eq.trans (Pre.load_run (ty := 25) rfl Z14 Z36 Try.underlying25 rfl Z11) ?_; with_reducible rfl) | (go_simp; with_reducible rfl)
         rotate_left
         ·simp only [Act.put, Sq.s1, Sq.s2, Sq.s3, i64_w, i32_w]
          rfl
         refine Sq.tak 22 (some 37) (Sq.b 32 291949695) HT_.out HW_.out hHeld (v := ?_) (a' := ?_) ?_ ?_ ?_
         rotate_left
         ·rintro w' ⟨s0, s1, s2, s3, s4, s5, s6⟩
          first | (refine Eq.trans (Pre.load_run (ty := 25) rfl Z14 Z36 Try.underlying25 rfl Z11) ?_; with_reducible rfl) | (go_simp; with_reducible rfl)
         rotate_left
         ·simp only [Act.put, Sq.s1, Sq.s2, Sq.s3, i64_w, i32_w]
          rfl
         refine Sq.tak 25 (some 40) (Sq.b 32 325504127) HT_.out HW_.out hHeld (v := ?_) (a' := ?_) ?_ ?_ ?_
         rotate_left
         ·rintro w' ⟨s0, s1, s2, s3, s4, s5, s6⟩
          first | (refine Eq.trans (Pre.load_run (ty := 25) rfl Z14 Z36 Try.underlying25 rfl Z11) ?_; with_reducible rfl) | (go_simp; with_reducible rfl)
         rotate_left
         ·simp only [Act.put, Sq.s1, Sq.s2, Sq.s3, i64_w, i32_w]
          rfl
         refine join_ (σ := Value) 4 (Sq.b 32 402653183) (fun s_ => [(22, s_), (23, .string (strOfNums aI)), (27, .string aH), (34, .string aQ), (41, .string ba), (24, .string ((⟨#[1]⟩ : ByteArray) ++ (strOfNums aI))), (28, .string (((⟨#[1]⟩ : ByteArray) ++ (strOfNums aI)) ++ aH)), (31, .string ((((⟨#[1]⟩ : ByteArray) ++ (strOfNums aI)) ++ aH) ++ aa)), (35, .string (((((⟨#[1]⟩ : ByteArray) ++ (strOfNums aI)) ++ aH) ++ aa) ++ aQ)), (38, .string ((((((⟨#[1]⟩ : ByteArray) ++ (strOfNums aI)) ++ aH) ++ aa) ++ aQ) ++ ab))]) (fun s_ w' => (w'.cell? ⟨aE, 12, none⟩ = some (.int .i64 ah) ∧ w'.cell? ⟨aE, 13, none⟩ = some (.int .i64 aj) ∧ w'.cell? ⟨aE, 15, none⟩ = some (.int .i64 ae) ∧ w'.cell? ⟨aE, 16, none⟩ = some (.int .i64 ag) ∧ w'.cell? ⟨aE, 17, none⟩ = some (.int .i64 ai) ∧ w'.cell? ⟨aE, 19, none⟩ = some (.string aa) ∧ w'.cell? ⟨aE, 20, none⟩ = some (.string ab)) ∧ (Kd.R (Kd.int .u8) 5 w' w.heap.size (fun _ => True) s_ aI) ∧ (w'.heap[aE]? = some (.cells #[.int .i64 aD, .int .i64 aw, .int .i64 ax, .string au, .int .i64 aA, .int .i64 ay, .string av, .int .i64 ar, .int .i64 aC, .string az, .int .i64 ao, .string am, .int .i64 ah, .int .i64 aj, .int .i64 ak, .int .i64 ae, .int .i64 ag, .int .i64 ai, .int .i64 an, .string aa, .string ab, .slice aP ac.length aN, .int .i64 ap, .string aq, .slice aJ af.length aK] 25 (0, 0))) ∧ (Below w.heap.size w w')) ?_ ?_
         rotate_left
         ·intro hJ7_8_12_19_26
          refine join_ (σ := Value) 5 (Sq.b 32 335544319) (fun s_ => [(22, s_), (23, .string (strOfNums aI)), (27, .string aH), (34, .string aQ), (24, .string ((⟨#[1]⟩ : ByteArray) ++ (strOfNums aI))), (28, .string (((⟨#[1]⟩ : ByteArray) ++ (strOfNums aI)) ++ aH)), (31, .string ((((⟨#[1]⟩ : ByteArray) ++ (strOfNums aI)) ++ aH) ++ aa)), (35, .string (((((⟨#[1]⟩ : ByteArray) ++ (strOfNums aI)) ++ aH) ++ aa) ++ aQ)), (38, .string ((((((⟨#[1]⟩ : ByteArray) ++ (strOfNums aI)) ++ aH) ++ aa) ++ aQ) ++ ab))]) (fun s_ w' => (w'.cell? ⟨aE, 12, none⟩ = some (.int .i64 ah) ∧ w'.cell? ⟨aE, 13, none⟩ = some (.int .i64 aj) ∧ w'.cell? ⟨aE, 15, none⟩ = some (.int .i64 ae) ∧ w'.cell? ⟨aE, 16, none⟩ = some (.int .i64 ag) ∧ w'.cell? ⟨aE, 17, none⟩ = some (.int .i64 ai) ∧ w'.cell? ⟨aE, 19, none⟩ = some (.string aa) ∧ w'.cell? ⟨aE, 20, none⟩ = some (.string ab)) ∧ (Kd.R (Kd.int .u8) 5 w' w.heap.size (fun _ => True) s_ aI) ∧ (w'.heap[aE]? = some (.cells #[.int .i64 aD, .int .i64 aw, .int .i64 ax, .string au, .int .i64 aA, .int .i64 ay, .string av, .int .i64 ar, .int .i64 aC, .string az, .int .i64 ao, .string am, .int .i64 ah, .int .i64 aj, .int .i64 ak, .int .i64 ae, .int .i64 ag, .int .i64 ai, .int .i64 an, .string aa, .string ab, .slice aP ac.length aN, .int .i64 ap, .string aq, .slice aJ af.length aK] 25 (0, 0))) ∧ (Below w.heap.size w w')) ?_ ?_
          rotate_left
          ·intro hJ7_8_12_19
           refine join_ (σ := Value) 10 (Sq.b 32 393141503) (fun s_ => [(22, s_), (27, .string aH), (34, .string aQ), (41, .string ba)]) (fun s_ w' => (w'.cell? ⟨aE, 12, none⟩ = some (.int .i64 ah) ∧ w'.cell? ⟨aE, 13, none⟩ = some (.int .i64 aj) ∧ w'.cell? ⟨aE, 15, none⟩ = some (.int .i64 ae) ∧ w'.cell? ⟨aE, 16, none⟩ = some (.int .i64 ag) ∧ w'.cell? ⟨aE, 17, none⟩ = some (.int .i64 ai) ∧ w'.cell? ⟨aE, 19, none⟩ = some (.string aa) ∧ w'.cell? ⟨aE, 20, none⟩ = some (.string ab)) ∧ (Kd.R (Kd.int .u8) 5 w' w.heap.size (fun _ => True) s_ aI) ∧ (w'.heap[aE]? = some (.cells #[.int .i64 aD, .int .i64 aw, .int .i64 ax, .string au, .int .i64 aA, .int .i64 ay, .string av, .int .i64 ar, .int .i64 aC, .string az, .int .i64 ao, .string am, .int .i64 ah, .int .i64 aj, .int .i64 ak, .int .i64 ae, .int .i64 ag, .int .i64 ai, .int .i64 an, .string aa, .string ab, .slice aP ac.length aN, .int .i64 ap, .string aq, .slice aJ af.length aK] 25 (0, 0))) ∧ (Below w.heap.size w w')) ?_ ?_
           rotate_left
           ·intro hJ7_12_19_26
            refine join_ (σ := Value) 8 (Sq.b 32 325582847) (fun s_ => [(22, s_), (23, .string (strOfNums aI)), (27, .string aH), (24, .string ((⟨#[1]⟩ : ByteArray) ++ (strOfNums aI))), (28, .string (((⟨#[1]⟩ : ByteArray) ++ (strOfNums aI)) ++ aH)), (31, .string ((((⟨#[1]⟩ : ByteArray) ++ (strOfNums aI)) ++ aH) ++ aa))]) (fun s_ w' => (w'.cell? ⟨aE, 12, none⟩ = some (.int .i64 ah) ∧ w'.cell? ⟨aE, 13, none⟩ = some (.int .i64 aj) ∧ w'.cell? ⟨aE, 15, none⟩ = some (.int .i64 ae) ∧ w'.cell? ⟨aE, 16, none⟩ = some (.int .i64 ag) ∧ w'.cell? ⟨aE, 17, none⟩ = some (.int .i64 ai) ∧ w'.cell? ⟨aE, 19, none⟩ = some (.string aa) ∧ w'.cell? ⟨aE, 20, none⟩ = some (.string ab)) ∧ (Kd.R (Kd.int .u8) 5 w' w.heap.size (fun _ => True) s_ aI) ∧ (w'.heap[aE]? = some (.cells #[.int .i64 aD, .int .i64 aw, .int .i64 ax, .string au, .int .i64 aA, .int .i64 ay, .string av, .int .i64 ar, .int .i64 aC, .string az, .int .i64 ao, .string am, .int .i64 ah, .int .i64 aj, .int .i64 ak, .int .i64 ae, .int .i64 ag, .int .i64 ai, .int .i64 an, .string aa, .string ab, .slice aP ac.length aN, .int .i64 ap, .string aq, .slice aJ af.length aK] 25 (0, 0))) ∧ (Below w.heap.size w w')) ?_ ?_
            rotate_left
            ·intro hJ7_8_12
             refine join_ (σ := Value) 11 (Sq.b 32 326032639) (fun s_ => [(22, s_), (27, .string aH), (34, .string aQ)]) (fun s_ w' => (w'.cell? ⟨aE, 12, none⟩ = some (.int .i64 ah) ∧ w'.cell? ⟨aE, 13, none⟩ = some (.int .i64 aj) ∧ w'.cell? ⟨aE, 15, none⟩ = some (.int .i64 ae) ∧ w'.cell? ⟨aE, 16, none⟩ = some (.int .i64 ag) ∧ w'.cell? ⟨aE, 17, none⟩ = some (.int .i64 ai) ∧ w'.cell? ⟨aE, 19, none⟩ = some (.string aa) ∧ w'.cell? ⟨aE, 20, none⟩ = some (.string ab)) ∧ (Kd.R (Kd.int .u8) 5 w' w.heap.size (fun _ => True) s_ aI) ∧ (w'.heap[aE]? = some (.cells #[.int .i64 aD, .int .i64 aw, .int .i64 ax, .string au, .int .i64 aA, .int .i64 ay, .string av, .int .i64 ar, .int .i64 aC, .string az, .int .i64 ao, .string am, .int .i64 ah, .int .i64 aj, .int .i64 ak, .int .i64 ae, .int .i64 ag, .int .i64 ai, .int .i64 an, .string aa, .string ab, .slice aP ac.length aN, .int .i64 ap, .string aq, .slice aJ af.length aK] 25 (0, 0))) ∧ (Below w.heap.size w w')) ?_ ?_
             rotate_left
             ·intro hJ7_12_19
              refine join_ (σ := Unit) 11 (Sq.b 32 393141375) (fun s_ => [(27, .string aH), (34, .string aQ), (41, .string ba)]) (fun s_ w' => (w'.cell? ⟨aE, 12, none⟩ = some (.int .i64 ah) ∧ w'.cell? ⟨aE, 13, none⟩ = some (.int .i64 aj) ∧ w'.cell? ⟨aE, 15, none⟩ = some (.int .i64 ae) ∧ w'.cell? ⟨aE, 16, none⟩ = some (.int .i64 ag) ∧ w'.cell? ⟨aE, 17, none⟩ = some (.int .i64 ai) ∧ w'.cell? ⟨aE, 19, none⟩ = some (.string aa) ∧ w'.cell? ⟨aE, 20, none⟩ = some (.string ab)) ∧ (w'.heap[aE]? = some (.cells #[.int .i64 aD, .int .i64 aw, .int .i64 ax, .string au, .int .i64 aA, .int .i64 ay, .string av, .int .i64 ar, .int .i64 aC, .string az, .int .i64 ao, .string am, .int .i64 ah, .int .i64 aj, .int .i64 ak, .int .i64 ae, .int .i64 ag, .int .i64 ai, .int .i64 an, .string aa, .string ab, .slice aP ac.length aN, .int .i64 ap, .string aq, .slice aJ af.length aK] 25 (0, 0))) ∧ (Below w.heap.size w w')) ?_ ?_
              rotate_left
              ·intro hJ12_19_26
               refine join_ (σ := Value) 11 (Sq.b 32 325505023) (fun s_ => [(22, s_), (23, .string (strOfNums aI)), (24, .string ((⟨#[1]⟩ : ByteArray) ++ (strOfNums aI)))]) (fun s_ w' => (w'.cell? ⟨aE, 12, none⟩ = some (.int .i64 ah) ∧ w'.cell? ⟨aE, 13, none⟩ = some (.int .i64 aj) ∧ w'.cell? ⟨aE, 15, none⟩ = some (.int .i64 ae) ∧ w'.cell? ⟨aE, 16, none⟩ = some (.int .i64 ag) ∧ w'.cell? ⟨aE, 17, none⟩ = some (.int .i64 ai) ∧ w'.cell? ⟨aE, 19, none⟩ = some (.string aa) ∧ w'.cell? ⟨aE, 20, none⟩ = some (.string ab)) ∧ (Kd.R (Kd.int .u8) 5 w' w.heap.size (fun _ => True) s_ aI) ∧ (w'.heap[aE]? = some (.cells #[.int .i64 aD, .int .i64 aw, .int .i64 ax, .string au, .int .i64 aA, .int .i64 ay, .string av, .int .i64 ar, .int .i64 aC, .string az, .int .i64 ao, .string am, .int .i64 ah, .int .i64 aj, .int .i64 ak, .int .i64 ae, .int .i64 ag, .int .i64 ai, .int .i64 an, .string aa, .string ab, .slice aP ac.length aN, .int .i64 ap, .string aq, .slice aJ af.length aK] 25 (0, 0))) ∧ (Below w.heap.size w w')) ?_ ?_
               rotate_left
               ·intro hJ7_8
                refine join_ (σ := Value) 12 (Sq.b 32 325508351) (fun s_ => [(22, s_), (27, .string aH)]) (fun s_ w' => (w'.cell? ⟨aE, 12, none⟩ = some (.int .i64 ah) ∧ w'.cell? ⟨aE, 13, none⟩ = some (.int .i64 aj) ∧ w'.cell? ⟨aE, 15, none⟩ = some (.int .i64 ae) ∧ w'.cell? ⟨aE, 16, none⟩ = some (.int .i64 ag) ∧ w'.cell? ⟨aE, 17, none⟩ = some (.int .i64 ai) ∧ w'.cell? ⟨aE, 19, none⟩ = some (.string aa) ∧ w'.cell? ⟨aE, 20, none⟩ = some (.string ab)) ∧ (Kd.R (Kd.int .u8) 5 w' w.heap.size (fun _ => True) s_ aI) ∧ (w'.heap[aE]? = some (.cells #[.int .i64 aD, .int .i64 aw, .int .i64 ax, .string au, .int .i64 aA, .int .i64 ay, .string av, .int .i64 ar, .int .i64 aC, .string az, .int .i64 ao, .string am, .int .i64 ah, .int .i64 aj, .int .i64 ak, .int .i64 ae, .int .i64 ag, .int .i64 ai, .int .i64 an, .string aa, .string ab, .slice aP ac.length aN, .int .i64 ap, .string aq, .slice aJ af.length aK] 25 (0, 0))) ∧ (Below w.heap.size w w')) ?_ ?_
                rotate_left
                ·intro hJ7_12
                 refine join_ (σ := Unit) 12 (Sq.b 32 326032511) (fun s_ => [(27, .string aH), (34, .string aQ)]) (fun s_ w' => (w'.cell? ⟨aE, 12, none⟩ = some (.int .i64 ah) ∧ w'.cell? ⟨aE, 13, none⟩ = some (.int .i64 aj) ∧ w'.cell? ⟨aE, 15, none⟩ = some (.int .i64 ae) ∧ w'.cell? ⟨aE, 16, none⟩ = some (.int .i64 ag) ∧ w'.cell? ⟨aE, 17, none⟩ = some (.int .i64 ai) ∧ w'.cell? ⟨aE, 19, none⟩ = some (.string aa) ∧ w'.cell? ⟨aE, 20, none⟩ = some (.string ab)) ∧ (w'.heap[aE]? = some (.cells #[.int .i64 aD, .int .i64 aw, .int .i64 ax, .string au, .int .i64 aA, .int .i64 ay, .string av, .int .i64 ar, .int .i64 aC, .string az, .int .i64 ao, .string am, .int .i64 ah, .int .i64 aj, .int .i64 ak, .int .i64 ae, .int .i64 ag, .int .i64 ai, .int .i64 an, .string aa, .string ab, .slice aP ac.length aN, .int .i64 ap, .string aq, .slice aJ af.length aK] 25 (0, 0))) ∧ (Below w.heap.size w w')) ?_ ?_
                 rotate_left
                 ·intro hJ12_19
                  refine join_ (σ := Value) 13 (Sq.b 32 325504255) (fun s_ => [(22, s_)]) (fun s_ w' => (w'.cell? ⟨aE, 12, none⟩ = some (.int .i64 ah) ∧ w'.cell? ⟨aE, 13, none⟩ = some (.int .i64 aj) ∧ w'.cell? ⟨aE, 15, none⟩ = some (.int .i64 ae) ∧ w'.cell? ⟨aE, 16, none⟩ = some (.int .i64 ag) ∧ w'.cell? ⟨aE, 17, none⟩ = some (.int .i64 ai) ∧ w'.cell? ⟨aE, 19, none⟩ = some (.string aa) ∧ w'.cell? ⟨aE, 20, none⟩ = some (.string ab)) ∧ (Kd.R (Kd.int .u8) 5 w' w.heap.size (fun _ => True) s_ aI) ∧ (w'.heap[aE]? = some (.cells #[.int .i64 aD, .int .i64 aw, .int .i64 ax, .string au, .int .i64 aA, .int .i64 ay, .string av, .int .i64 ar, .int .i64 aC, .string az, .int .i64 ao, .string am, .int .i64 ah, .int .i64 aj, .int .i64 ak, .int .i64 ae, .int .i64 ag, .int .i64 ai, .int .i64 an, .string aa, .string ab, .slice aP ac.length aN, .int .i64 ap, .string aq, .slice aJ af.length aK] 25 (0, 0))) ∧ (Below w.heap.size w w')) ?_ ?_
                  rotate_left
                  ·intro hJ7
                   refine join_ (σ := Unit) 13 (Sq.b 32 325508223) (fun s_ => [(27, .string aH)]) (fun s_ w' => (w'.cell? ⟨aE, 12, none⟩ = some (.int .i64 ah) ∧ w'.cell? ⟨aE, 13, none⟩ = some (.int .i64 aj) ∧ w'.cell? ⟨aE, 15, none⟩ = some (.int .i64 ae) ∧ w'.cell? ⟨aE, 16, none⟩ = some (.int .i64 ag) ∧ w'.cell? ⟨aE, 17, none⟩ = some (.int .i64 ai) ∧ w'.cell? ⟨aE, 19, none⟩ = some (.string aa) ∧ w'.cell? ⟨aE, 20, none⟩ = some (.string ab)) ∧ (w'.heap[aE]? = some (.cells #[.int .i64 aD, .int .i64 aw, .int .i64 ax, .string au, .int .i64 aA, .int .i64 ay, .string av, .int .i64 ar, .int .i64 aC, .string az, .int .i64 ao, .string am, .int .i64 ah, .int .i64 aj, .int .i64 ak, .int .i64 ae, .int .i64 ag, .int .i64 ai, .int .i64 an, .string aa, .string ab, .slice aP ac.length aN, .int .i64 ap, .string aq, .slice aJ af.length aK] 25 (0, 0))) ∧ (Below w.heap.size w w')) ?_ ?_
                   rotate_left
                   ·intro hJ12
                    refine two_ (i := 7) (j := 12) (Ni := some 22) (Nj := some 27) (Sq.b 32 325504255) (Sq.b 32 325508223) rfl rfl rfl rfl (two_of HT_.out Z11) Z21 Z21 (fun K hK => ?_) (fun K hK => ?_)
                    ·skip
                     refine Kd.R_lit_step (Kd.int .u8) _ 5 ?hg (N := 22) ?hd (xs := ([(wrap64 (8 * ae)) % 256, 0, (ag) % 256] : List Int)) (inner := [.int .u8 ((wrap64 (8 * ae)) % 256), .int .u8 0, .int .u8 ((ag) % 256)]) (ok := fun _ => True) (okp := fun _ => True) ?hr ?hp (fun _ hk => hk) trivial (Below.refl _ _) (Nat.le_refl _) Z35 ?_; (case hd => rfl); (case hg => rfl); (case hr => first | (go_simp; done) | (go_simp; rfl)); (case hp => exact (Reps.one (show Kd.M (Kd.int .u8) _ _ _ ((wrap64 (8 * ae)) % 256) [.int .u8 ((wrap64 (8 * ae)) % 256)] from rfl) (Reps.one (show Kd.M (Kd.int .u8) _ _ _ 0 [.int .u8 0] from rfl) (Reps.one (show Kd.M (Kd.int .u8) _ _ _ ((ag) % 256) [.int .u8 ((ag) % 256)] from rfl) (Reps.none _ _)))))
                     intro ct kY ho22 hb hg_ hnew_
                     clear hg_ hnew_
                     (first | rw [← Ny105.out] at ho22 | (simp only [Int.reduceToNat] at ho22; rw [← Ny105.out] at ho22))
                     have bi := Aside0.mk (Kd.R_lower ho22 (below_size Z0))
                     have bp := Aside0.mk (blk_below (g := aE) Z3 hb)
                     have bT := Aside0.mk (below_step Z0 hb)
                     clear al
                     clear HB
                     have bS := bi
                     have al := bp
                     have HB := bT
                     clear bi bp bT
                     clear hb ho22
                     refine hK.out _ _ ⟨Sq.bc al 12, Sq.bc al 13, Sq.bc al 15, Sq.bc al 16, Sq.bc al 17, Sq.bc al 19, Sq.bc al 20⟩ (fun hHeld => ?_)
                     clear hK K
                     refine norm_ (a' := ?_) ?_ ?_
                     rotate_left
                     ·show Act.put _ (some 22) _ = _
                      simp only [Act.put, Sq.s1, Sq.s2, Sq.s3, i64_w, i32_w]
                      rfl
                     exact norm_ Z13 (hJ7 (ct) _ ⟨hHeld, Z12, Z3, Z0⟩)
                    ·skip
                     refine goes_ Try.func52 Z11 rfl #[.int .i64 ai, .int .i64 4] Z14 rfl rfl Z4 ?_
                     with_reducible refine (roadbookref02_Of.calls k ai 4 aH _ A6.out).mono ?_
                     rintro e kY ⟨rfl, hb⟩
                     refine ⟨_, rfl, ?_⟩
                     have bi := Aside0.mk (blk_below (g := aE) Z3 hb)
                     have bp := Aside0.mk (below_step Z0 hb)
                     clear al
                     clear HB
                     have al := bi
                     have HB := bp
                     clear bi bp
                     (try clear hb)
                     (try clear hb2)
                     (try clear hk)
                     (try clear hi)
                     refine hK.out _ _ ⟨Sq.bc al 12, Sq.bc al 13, Sq.bc al 15, Sq.bc al 16, Sq.bc al 17, Sq.bc al 19, Sq.bc al 20⟩ (fun hHeld => ?_)
                     clear hK K
                     refine norm_ (a' := ?_) ?_ ?_
                     rotate_left
                     ·show Act.put _ (some 27) _ = _
                      simp only [Act.put, Sq.s1, Sq.s2, Sq.s3, i64_w, i32_w]
                      rfl
                     exact norm_ Z13 (hJ12 () _ ⟨hHeld, Z3, Z0⟩)
                   ·skip
                    rintro _ kV ⟨hS_, h0_, h1_⟩
                    have bi : Aside0 (kV.heap[aE]? = some (.cells #[.int .i64 aD, .int .i64 aw, .int .i64 ax, .string au, .int .i64 aA, .int .i64 ay, .string av, .int .i64 ar, .int .i64 aC, .string az, .int .i64 ao, .string am, .int .i64 ah, .int .i64 aj, .int .i64 ak, .int .i64 ae, .int .i64 ag, .int .i64 ai, .int .i64 an, .string aa, .string ab, .slice aP ac.length aN, .int .i64 ap, .string aq, .slice aJ af.length aK] 25 (0, 0))) := ⟨h0_⟩
                    have bp : Aside0 (Below w.heap.size w kV) := ⟨h1_⟩
                    clear al
                    clear HB
                    clear h0_ h1_
                    have al := bi
                    have HB := bp
                    clear bi bp
                    have hHeld := hS_
                    try dsimp only at hHeld
                    refine norm_ (a' := ?_) ?_ ?_
                    rotate_left
                    ·simp only [putAll, Act.put, Sq.s1, Sq.s2, Sq.s3]
                     rfl
                    refine two_ (i := 7) (j := 19) (Ni := some 22) (Nj := some 34) (Sq.b 32 325508351) (Sq.b 32 326032511) rfl rfl rfl rfl (two_of HT_.out Z11) Z21 Z21 (fun K hK => ?_) (fun K hK => ?_)
                    ·skip
                     refine Kd.R_lit_step (Kd.int .u8) _ 5 ?hg (N := 22) ?hd (xs := ([(wrap64 (8 * ae)) % 256, 0, (ag) % 256] : List Int)) (inner := [.int .u8 ((wrap64 (8 * ae)) % 256), .int .u8 0, .int .u8 ((ag) % 256)]) (ok := fun _ => True) (okp := fun _ => True) ?hr ?hp (fun _ hk => hk) trivial (Below.refl _ _) (Nat.le_refl _) Z35 ?_; (case hd => rfl); (case hg => rfl); (case hr => first | (go_simp; done) | (go_simp; rfl)); (case hp => exact (Reps.one (show Kd.M (Kd.int .u8) _ _ _ ((wrap64 (8 * ae)) % 256) [.int .u8 ((wrap64 (8 * ae)) % 256)] from rfl) (Reps.one (show Kd.M (Kd.int .u8) _ _ _ 0 [.int .u8 0] from rfl) (Reps.one (show Kd.M (Kd.int .u8) _ _ _ ((ag) % 256) [.int .u8 ((ag) % 256)] from rfl) (Reps.none _ _)))))
                     intro ct gW ho24 hb hg_ hnew_
                     clear hg_ hnew_
                     (first | rw [← Ny105.out] at ho24 | (simp only [Int.reduceToNat] at ho24; rw [← Ny105.out] at ho24))
                     have bi := Aside0.mk (Kd.R_lower ho24 (below_size Z0))
                     have bp := Aside0.mk (blk_below (g := aE) Z3 hb)
                     have bT := Aside0.mk (below_step Z0 hb)
                     clear al
                     clear HB
                     have bS := bi
                     have al := bp
                     have HB := bT
                     clear bi bp bT
                     clear hb ho24
                     refine hK.out _ _ ⟨Sq.bc al 12, Sq.bc al 13, Sq.bc al 15, Sq.bc al 16, Sq.bc al 17, Sq.bc al 19, Sq.bc al 20⟩ (fun hHeld => ?_)
                     clear hK K
                     refine norm_ (a' := ?_) ?_ ?_
                     rotate_left
                     ·show Act.put _ (some 22) _ = _
                      simp only [Act.put, Sq.s1, Sq.s2, Sq.s3, i64_w, i32_w]
                      rfl
                     exact norm_ Z13 (hJ7_12 (ct) _ ⟨hHeld, Z12, Z3, Z0⟩)
                    ·skip
                     refine goes_ Try.func52 Z11 rfl #[.int .i64 ah, .int .i64 4] Z14 rfl rfl Z4 ?_
                     with_reducible refine (roadbookref02_Of.calls k ah 4 aQ _ A9.out).mono ?_
                     rintro e gW ⟨rfl, hb⟩
                     refine ⟨_, rfl, ?_⟩
                     have bi := Aside0.mk (blk_below (g := aE) Z3 hb)
                     have bp := Aside0.mk (below_step Z0 hb)
                     clear al
                     clear HB
                     have al := bi
                     have HB := bp
                     clear bi bp
                     (try clear hb)
                     (try clear hb2)
                     (try clear hk)
                     (try clear hi)
                     refine hK.out _ _ ⟨Sq.bc al 12, Sq.bc al 13, Sq.bc al 15, Sq.bc al 16, Sq.bc al 17, Sq.bc al 19, Sq.bc al 20⟩ (fun hHeld => ?_)
                     clear hK K
                     refine norm_ (a' := ?_) ?_ ?_
                     rotate_left
                     ·show Act.put _ (some 34) _ = _
                      simp only [Act.put, Sq.s1, Sq.s2, Sq.s3, i64_w, i32_w]
                      rfl
                     exact norm_ Z13 (hJ12_19 () _ ⟨hHeld, Z3, Z0⟩)
                  ·skip
                   rintro ct gW ⟨hS_, h0_, h1_, h2_⟩
                   have bi : Aside0 (Kd.R (Kd.int .u8) 5 gW w.heap.size (fun _ => True) ct aI) := ⟨h0_⟩
                   have bp : Aside0 (gW.heap[aE]? = some (.cells #[.int .i64 aD, .int .i64 aw, .int .i64 ax, .string au, .int .i64 aA, .int .i64 ay, .string av, .int .i64 ar, .int .i64 aC, .string az, .int .i64 ao, .string am, .int .i64 ah, .int .i64 aj, .int .i64 ak, .int .i64 ae, .int .i64 ag, .int .i64 ai, .int .i64 an, .string aa, .string ab, .slice aP ac.length aN, .int .i64 ap, .string aq, .slice aJ af.length aK] 25 (0, 0))) := ⟨h1_⟩
                   have bT : Aside0 (Below w.heap.size w gW) := ⟨h2_⟩
                   clear al
                   clear HB
                   clear h0_ h1_ h2_
                   have bS := bi
                   have al := bp
                   have HB := bT
                   clear bi bp bT
                   have hHeld := hS_
                   try dsimp only at hHeld
                   refine norm_ (a' := ?_) ?_ ?_
                   rotate_left
                   ·simp only [putAll, Act.put, Sq.s1, Sq.s2, Sq.s3]
                    rfl
                   refine two_ (i := 8) (j := 12) (Ni := some 23) (Nj := some 27) (Sq.b 32 325504511) (Sq.b 32 325508351) rfl rfl rfl rfl (two_of HT_.out Z11) Z21 Z21 (fun K hK => ?_) (fun K hK => ?_)
                   ·skip
                    have hcv24 := own_string (P := Try.prog) Try.underlying51 Try.underlying5 Try.underlying9 (Kd.own_of_R bS.out)
                    refine value_ (w1 := ?_) (v := ?_) Z14 rfl ?_ ?_
                    rotate_left 2
                    ·go_simp
                     constructor
                     ·rfl
                     ·rfl
                    clear hcv24
                    refine hK.out _ _ ⟨Sq.bc al 12, Sq.bc al 13, Sq.bc al 15, Sq.bc al 16, Sq.bc al 17, Sq.bc al 19, Sq.bc al 20⟩ (fun hHeld => ?_)
                    clear hK K
                    refine norm_ (a' := ?_) ?_ ?_
                    rotate_left
                    ·show Act.put _ (some 23) _ = _
                     simp only [Act.put, Sq.s1, Sq.s2, Sq.s3, i64_w, i32_w]
                     rfl
                    refine Sq.pur 9 (some 24) (Sq.b 32 325505023) HT_.out ?_
                    exact norm_ Z13 (hJ7_8 (ct) _ ⟨hHeld, Z12, Z3, Z0⟩)
                   ·skip
                    refine goes_ Try.func52 Z11 rfl #[.int .i64 ai, .int .i64 4] Z14 rfl rfl Z4 ?_
                    with_reducible refine (roadbookref02_Of.calls k ai 4 aH _ A6.out).mono ?_
                    rintro e gJ ⟨rfl, hb⟩
                    refine ⟨_, rfl, ?_⟩
                    have bi := Aside0.mk (Kd.R_below Z12 hb)
                    have bp := Aside0.mk (blk_below (g := aE) Z3 hb)
                    have bT := Aside0.mk (below_step Z0 hb)
                    clear bS
                    clear al
                    clear HB
                    have bS := bi
                    have al := bp
                    have HB := bT
                    clear bi bp bT
                    (try clear hb)
                    (try clear hb2)
                    (try clear hk)
                    (try clear hi)
                    refine hK.out _ _ ⟨Sq.bc al 12, Sq.bc al 13, Sq.bc al 15, Sq.bc al 16, Sq.bc al 17, Sq.bc al 19, Sq.bc al 20⟩ (fun hHeld => ?_)
                    clear hK K
                    refine norm_ (a' := ?_) ?_ ?_
                    rotate_left
                    ·show Act.put _ (some 27) _ = _
                     simp only [Act.put, Sq.s1, Sq.s2, Sq.s3, i64_w, i32_w]
                     rfl
                    exact norm_ Z13 (hJ7_12 (ct) _ ⟨hHeld, Z12, Z3, Z0⟩)
                 ·skip
                  rintro _ gW ⟨hS_, h0_, h1_⟩
                  have bi : Aside0 (gW.heap[aE]? = some (.cells #[.int .i64 aD, .int .i64 aw, .int .i64 ax, .string au, .int .i64 aA, .int .i64 ay, .string av, .int .i64 ar, .int .i64 aC, .string az, .int .i64 ao, .string am, .int .i64 ah, .int .i64 aj, .int .i64 ak, .int .i64 ae, .int .i64 ag, .int .i64 ai, .int .i64 an, .string aa, .string ab, .slice aP ac.length aN, .int .i64 ap, .string aq, .slice aJ af.length aK] 25 (0, 0))) := ⟨h0_⟩
                  have bp : Aside0 (Below w.heap.size w gW) := ⟨h1_⟩
                  clear al
                  clear HB
                  clear h0_ h1_
                  have al := bi
                  have HB := bp
                  clear bi bp
                  have hHeld := hS_
                  try dsimp only at hHeld
                  refine norm_ (a' := ?_) ?_ ?_
                  rotate_left
                  ·simp only [putAll, Act.put, Sq.s1, Sq.s2, Sq.s3]
                   rfl
                  refine two_ (i := 7) (j := 26) (Ni := some 22) (Nj := some 41) (Sq.b 32 326032639) (Sq.b 32 393141375) rfl rfl rfl rfl (two_of HT_.out Z11) Z21 Z21 (fun K hK => ?_) (fun K hK => ?_)
                  ·skip
                   refine Kd.R_lit_step (Kd.int .u8) _ 5 ?hg (N := 22) ?hd (xs := ([(wrap64 (8 * ae)) % 256, 0, (ag) % 256] : List Int)) (inner := [.int .u8 ((wrap64 (8 * ae)) % 256), .int .u8 0, .int .u8 ((ag) % 256)]) (ok := fun _ => True) (okp := fun _ => True) ?hr ?hp (fun _ hk => hk) trivial (Below.refl _ _) (Nat.le_refl _) Z35 ?_; (case hd => rfl); (case hg => rfl); (case hr => first | (go_simp; done) | (go_simp; rfl)); (case hp => exact (Reps.one (show Kd.M (Kd.int .u8) _ _ _ ((wrap64 (8 * ae)) % 256) [.int .u8 ((wrap64 (8 * ae)) % 256)] from rfl) (Reps.one (show Kd.M (Kd.int .u8) _ _ _ 0 [.int .u8 0] from rfl) (Reps.one (show Kd.M (Kd.int .u8) _ _ _ ((ag) % 256) [.int .u8 ((ag) % 256)] from rfl) (Reps.none _ _)))))
                   intro ct gJ ho25 hb hg_ hnew_
                   clear hg_ hnew_
                   (first | rw [← Ny105.out] at ho25 | (simp only [Int.reduceToNat] at ho25; rw [← Ny105.out] at ho25))
                   have bi := Aside0.mk (Kd.R_lower ho25 (below_size Z0))
                   have bp := Aside0.mk (blk_below (g := aE) Z3 hb)
                   have bT := Aside0.mk (below_step Z0 hb)
                   clear al
                   clear HB
                   have bS := bi
                   have al := bp
                   have HB := bT
                   clear bi bp bT
                   clear hb ho25
                   refine hK.out _ _ ⟨Sq.bc al 12, Sq.bc al 13, Sq.bc al 15, Sq.bc al 16, Sq.bc al 17, Sq.bc al 19, Sq.bc al 20⟩ (fun hHeld => ?_)
                   clear hK K
                   refine norm_ (a' := ?_) ?_ ?_
                   rotate_left
                   ·show Act.put _ (some 22) _ = _
                    simp only [Act.put, Sq.s1, Sq.s2, Sq.s3, i64_w, i32_w]
                    rfl
                   exact norm_ Z13 (hJ7_12_19 (ct) _ ⟨hHeld, Z12, Z3, Z0⟩)
                  ·skip
                   refine goes_ Try.func52 Z11 rfl #[.int .i64 aj, .int .i64 4] Z14 rfl rfl Z4 ?_
                   with_reducible refine (roadbookref02_Of.calls k aj 4 ba _ lX.out).mono ?_
                   rintro e gJ ⟨rfl, hb⟩
                   refine ⟨_, rfl, ?_⟩
                   have bi := Aside0.mk (blk_below (g := aE) Z3 hb)
                   have bp := Aside0.mk (below_step Z0 hb)
                   clear al
                   clear HB
                   have al := bi
                   have HB := bp
                   clear bi bp
                   (try clear hb)
                   (try clear hb2)
                   (try clear hk)
                   (try clear hi)
                   refine hK.out _ _ ⟨Sq.bc al 12, Sq.bc al 13, Sq.bc al 15, Sq.bc al 16, Sq.bc al 17, Sq.bc al 19, Sq.bc al 20⟩ (fun hHeld => ?_)
                   clear hK K
                   refine norm_ (a' := ?_) ?_ ?_
                   rotate_left
                   ·show Act.put _ (some 41) _ = _
                    simp only [Act.put, Sq.s1, Sq.s2, Sq.s3, i64_w, i32_w]
                    rfl
                   exact norm_ Z13 (hJ12_19_26 () _ ⟨hHeld, Z3, Z0⟩)
                ·skip
                 rintro ct gJ ⟨hS_, h0_, h1_, h2_⟩
                 have bi : Aside0 (Kd.R (Kd.int .u8) 5 gJ w.heap.size (fun _ => True) ct aI) := ⟨h0_⟩
                 have bp : Aside0 (gJ.heap[aE]? = some (.cells #[.int .i64 aD, .int .i64 aw, .int .i64 ax, .string au, .int .i64 aA, .int .i64 ay, .string av, .int .i64 ar, .int .i64 aC, .string az, .int .i64 ao, .string am, .int .i64 ah, .int .i64 aj, .int .i64 ak, .int .i64 ae, .int .i64 ag, .int .i64 ai, .int .i64 an, .string aa, .string ab, .slice aP ac.length aN, .int .i64 ap, .string aq, .slice aJ af.length aK] 25 (0, 0))) := ⟨h1_⟩
                 have bT : Aside0 (Below w.heap.size w gJ) := ⟨h2_⟩
                 clear al
                 clear HB
                 clear h0_ h1_ h2_
                 have bS := bi
                 have al := bp
                 have HB := bT
                 clear bi bp bT
                 have hHeld := hS_
                 try dsimp only at hHeld
                 refine norm_ (a' := ?_) ?_ ?_
                 rotate_left
                 ·simp only [putAll, Act.put, Sq.s1, Sq.s2, Sq.s3]
                  rfl
                 refine two_ (i := 8) (j := 19) (Ni := some 23) (Nj := some 34) (Sq.b 32 325508607) (Sq.b 32 326032639) rfl rfl rfl rfl (two_of HT_.out Z11) Z21 Z21 (fun K hK => ?_) (fun K hK => ?_)
                 ·skip
                  have hcv25 := own_string (P := Try.prog) Try.underlying51 Try.underlying5 Try.underlying9 (Kd.own_of_R bS.out)
                  refine value_ (w1 := ?_) (v := ?_) Z14 rfl ?_ ?_
                  rotate_left 2
                  ·go_simp
                   constructor
                   ·rfl
                   ·rfl
                  clear hcv25
                  refine hK.out _ _ ⟨Sq.bc al 12, Sq.bc al 13, Sq.bc al 15, Sq.bc al 16, Sq.bc al 17, Sq.bc al 19, Sq.bc al 20⟩ (fun hHeld => ?_)
                  clear hK K
                  refine norm_ (a' := ?_) ?_ ?_
                  rotate_left
                  ·show Act.put _ (some 23) _ = _
                   simp only [Act.put, Sq.s1, Sq.s2, Sq.s3, i64_w, i32_w]
                   rfl
                  refine Sq.pur 9 (some 24) (Sq.b 32 325509119) HT_.out ?_
                  refine Sq.pur 13 (some 28) (Sq.b 32 325517311) HT_.out ?_
                  refine Sq.pur 16 (some 31) (Sq.b 32 325582847) HT_.out ?_
                  exact norm_ Z13 (hJ7_8_12 (ct) _ ⟨hHeld, Z12, Z3, Z0⟩)
                 ·skip
                  refine goes_ Try.func52 Z11 rfl #[.int .i64 ah, .int .i64 4] Z14 rfl rfl Z4 ?_
                  with_reducible refine (roadbookref02_Of.calls k ah 4 aQ _ A9.out).mono ?_
                  rintro e hX ⟨rfl, hb⟩
                  refine ⟨_, rfl, ?_⟩
                  have bi := Aside0.mk (Kd.R_below Z12 hb)
                  have bp := Aside0.mk (blk_below (g := aE) Z3 hb)
                  have bT := Aside0.mk (below_step Z0 hb)
                  clear bS
                  clear al
                  clear HB
                  have bS := bi
                  have al := bp
                  have HB := bT
                  clear bi bp bT
                  (try clear hb)
                  (try clear hb2)
                  (try clear hk)
                  (try clear hi)
                  refine hK.out _ _ ⟨Sq.bc al 12, Sq.bc al 13, Sq.bc al 15, Sq.bc al 16, Sq.bc al 17, Sq.bc al 19, Sq.bc al 20⟩ (fun hHeld => ?_)
                  clear hK K
                  refine norm_ (a' := ?_) ?_ ?_
                  rotate_left
                  ·show Act.put _ (some 34) _ = _
                   simp only [Act.put, Sq.s1, Sq.s2, Sq.s3, i64_w, i32_w]
                   rfl
                  exact norm_ Z13 (hJ7_12_19 (ct) _ ⟨hHeld, Z12, Z3, Z0⟩)
               ·skip
                rintro ct gJ ⟨hS_, h0_, h1_, h2_⟩
                have bi : Aside0 (Kd.R (Kd.int .u8) 5 gJ w.heap.size (fun _ => True) ct aI) := ⟨h0_⟩
                have bp : Aside0 (gJ.heap[aE]? = some (.cells #[.int .i64 aD, .int .i64 aw, .int .i64 ax, .string au, .int .i64 aA, .int .i64 ay, .string av, .int .i64 ar, .int .i64 aC, .string az, .int .i64 ao, .string am, .int .i64 ah, .int .i64 aj, .int .i64 ak, .int .i64 ae, .int .i64 ag, .int .i64 ai, .int .i64 an, .string aa, .string ab, .slice aP ac.length aN, .int .i64 ap, .string aq, .slice aJ af.length aK] 25 (0, 0))) := ⟨h1_⟩
                have bT : Aside0 (Below w.heap.size w gJ) := ⟨h2_⟩
                clear al
                clear HB
                clear h0_ h1_ h2_
                have bS := bi
                have al := bp
                have HB := bT
                clear bi bp bT
                have hHeld := hS_
                try dsimp only at hHeld
                refine norm_ (a' := ?_) ?_ ?_
                rotate_left
                ·simp only [putAll, Act.put, Sq.s1, Sq.s2, Sq.s3]
                 rfl
                refine one_ (i := 12) (N := some 27) (Sq.b 32 325509119) rfl rfl (one_of HT_.out Z11) Z21 (fun K hK => ?_)
                refine goes_ Try.func52 Z11 rfl #[.int .i64 ai, .int .i64 4] Z14 rfl rfl Z4 ?_
                with_reducible refine (roadbookref02_Of.calls k ai 4 aH _ A6.out).mono ?_
                rintro e hX ⟨rfl, hb⟩
                refine ⟨_, rfl, ?_⟩
                have bi := Aside0.mk (Kd.R_below Z12 hb)
                have bp := Aside0.mk (blk_below (g := aE) Z3 hb)
                have bT := Aside0.mk (below_step Z0 hb)
                clear bS
                clear al
                clear HB
                have bS := bi
                have al := bp
                have HB := bT
                clear bi bp bT
                (try clear hb)
                (try clear hb2)
                (try clear hk)
                (try clear hi)
                refine hK.out _ _ ⟨Sq.bc al 12, Sq.bc al 13, Sq.bc al 15, Sq.bc al 16, Sq.bc al 17, Sq.bc al 19, Sq.bc al 20⟩ (fun hHeld => ?_)
                clear hK K
                refine norm_ (a' := ?_) ?_ ?_
                rotate_left
                ·show Act.put _ (some 27) _ = _
                 simp only [Act.put, Sq.s1, Sq.s2, Sq.s3, i64_w, i32_w]
                 rfl
                refine Sq.pur 13 (some 28) (Sq.b 32 325517311) HT_.out ?_
                refine Sq.pur 16 (some 31) (Sq.b 32 325582847) HT_.out ?_
                exact norm_ Z13 (hJ7_8_12 (ct) _ ⟨hHeld, Z12, Z3, Z0⟩)
              ·skip
               rintro _ gJ ⟨hS_, h0_, h1_⟩
               have bi : Aside0 (gJ.heap[aE]? = some (.cells #[.int .i64 aD, .int .i64 aw, .int .i64 ax, .string au, .int .i64 aA, .int .i64 ay, .string av, .int .i64 ar, .int .i64 aC, .string az, .int .i64 ao, .string am, .int .i64 ah, .int .i64 aj, .int .i64 ak, .int .i64 ae, .int .i64 ag, .int .i64 ai, .int .i64 an, .string aa, .string ab, .slice aP ac.length aN, .int .i64 ap, .string aq, .slice aJ af.length aK] 25 (0, 0))) := ⟨h0_⟩
               have bp : Aside0 (Below w.heap.size w gJ) := ⟨h1_⟩
               clear al
               clear HB
               clear h0_ h1_
               have al := bi
               have HB := bp
               clear bi bp
               have hHeld := hS_
               try dsimp only at hHeld
               refine norm_ (a' := ?_) ?_ ?_
               rotate_left
               ·simp only [putAll, Act.put, Sq.s1, Sq.s2, Sq.s3]
                rfl
               refine one_ (i := 7) (N := some 22) (Sq.b 32 393141503) rfl rfl (one_of HT_.out Z11) Z21 (fun K hK => ?_)
               refine Kd.R_lit_step (Kd.int .u8) _ 5 ?hg (N := 22) ?hd (xs := ([(wrap64 (8 * ae)) % 256, 0, (ag) % 256] : List Int)) (inner := [.int .u8 ((wrap64 (8 * ae)) % 256), .int .u8 0, .int .u8 ((ag) % 256)]) (ok := fun _ => True) (okp := fun _ => True) ?hr ?hp (fun _ hk => hk) trivial (Below.refl _ _) (Nat.le_refl _) Z35 ?_; (case hd => rfl); (case hg => rfl); (case hr => first | (go_simp; done) | (go_simp; rfl)); (case hp => exact (Reps.one (show Kd.M (Kd.int .u8) _ _ _ ((wrap64 (8 * ae)) % 256) [.int .u8 ((wrap64 (8 * ae)) % 256)] from rfl) (Reps.one (show Kd.M (Kd.int .u8) _ _ _ 0 [.int .u8 0] from rfl) (Reps.one (show Kd.M (Kd.int .u8) _ _ _ ((ag) % 256) [.int .u8 ((ag) % 256)] from rfl) (Reps.none _ _)))))
               intro ct hX ho26 hb hg_ hnew_
               clear hg_ hnew_
               (first | rw [← Ny105.out] at ho26 | (simp only [Int.reduceToNat] at ho26; rw [← Ny105.out] at ho26))
               have bi := Aside0.mk (Kd.R_lower ho26 (below_size Z0))
               have bp := Aside0.mk (blk_below (g := aE) Z3 hb)
               have bT := Aside0.mk (below_step Z0 hb)
               clear al
               clear HB
               have bS := bi
               have al := bp
               have HB := bT
               clear bi bp bT
               clear hb ho26
               refine hK.out _ _ ⟨Sq.bc al 12, Sq.bc al 13, Sq.bc al 15, Sq.bc al 16, Sq.bc al 17, Sq.bc al 19, Sq.bc al 20⟩ (fun hHeld => ?_)
               clear hK K
               refine norm_ (a' := ?_) ?_ ?_
               rotate_left
               ·show Act.put _ (some 22) _ = _
                simp only [Act.put, Sq.s1, Sq.s2, Sq.s3, i64_w, i32_w]
                rfl
               exact norm_ Z13 (hJ7_12_19_26 (ct) _ ⟨hHeld, Z12, Z3, Z0⟩)
             ·skip
              rintro ct hX ⟨hS_, h0_, h1_, h2_⟩
              have bi : Aside0 (Kd.R (Kd.int .u8) 5 hX w.heap.size (fun _ => True) ct aI) := ⟨h0_⟩
              have bp : Aside0 (hX.heap[aE]? = some (.cells #[.int .i64 aD, .int .i64 aw, .int .i64 ax, .string au, .int .i64 aA, .int .i64 ay, .string av, .int .i64 ar, .int .i64 aC, .string az, .int .i64 ao, .string am, .int .i64 ah, .int .i64 aj, .int .i64 ak, .int .i64 ae, .int .i64 ag, .int .i64 ai, .int .i64 an, .string aa, .string ab, .slice aP ac.length aN, .int .i64 ap, .string aq, .slice aJ af.length aK] 25 (0, 0))) := ⟨h1_⟩
              have bT : Aside0 (Below w.heap.size w hX) := ⟨h2_⟩
              clear al
              clear HB
              clear h0_ h1_ h2_
              have bS := bi
              have al := bp
              have HB := bT
              clear bi bp bT
              have hHeld := hS_
              try dsimp only at hHeld
              refine norm_ (a' := ?_) ?_ ?_
              rotate_left
              ·simp only [putAll, Act.put, Sq.s1, Sq.s2, Sq.s3]
               rfl
              refine two_ (i := 8) (j := 26) (Ni := some 23) (Nj := some 41) (Sq.b 32 326032895) (Sq.b 32 393141503) rfl rfl rfl rfl (two_of HT_.out Z11) Z21 Z21 (fun K hK => ?_) (fun K hK => ?_)
              ·skip
               have hcv26 := own_string (P := Try.prog) Try.underlying51 Try.underlying5 Try.underlying9 (Kd.own_of_R bS.out)
               refine value_ (w1 := ?_) (v := ?_) Z14 rfl ?_ ?_
               rotate_left 2
               ·go_simp
                constructor
                ·rfl
                ·rfl
               clear hcv26
               refine hK.out _ _ ⟨Sq.bc al 12, Sq.bc al 13, Sq.bc al 15, Sq.bc al 16, Sq.bc al 17, Sq.bc al 19, Sq.bc al 20⟩ (fun hHeld => ?_)
               clear hK K
               refine norm_ (a' := ?_) ?_ ?_
               rotate_left
               ·show Act.put _ (some 23) _ = _
                simp only [Act.put, Sq.s1, Sq.s2, Sq.s3, i64_w, i32_w]
                rfl
               refine Sq.pur 9 (some 24) (Sq.b 32 326033407) HT_.out ?_
               refine Sq.pur 13 (some 28) (Sq.b 32 326041599) HT_.out ?_
               refine Sq.pur 16 (some 31) (Sq.b 32 326107135) HT_.out ?_
               refine Sq.pur 20 (some 35) (Sq.b 32 327155711) HT_.out ?_
               refine Sq.pur 23 (some 38) (Sq.b 32 335544319) HT_.out ?_
               exact norm_ Z13 (hJ7_8_12_19 (ct) _ ⟨hHeld, Z12, Z3, Z0⟩)
              ·skip
               refine goes_ Try.func52 Z11 rfl #[.int .i64 aj, .int .i64 4] Z14 rfl rfl Z4 ?_
               with_reducible refine (roadbookref02_Of.calls k aj 4 ba _ lX.out).mono ?_
               rintro e iH ⟨rfl, hb⟩
               refine ⟨_, rfl, ?_⟩
               have bi := Aside0.mk (Kd.R_below Z12 hb)
               have bp := Aside0.mk (blk_below (g := aE) Z3 hb)
               have bT := Aside0.mk (below_step Z0 hb)
               clear bS
               clear al
               clear HB
               have bS := bi
               have al := bp
               have HB := bT
               clear bi bp bT
               (try clear hb)
               (try clear hb2)
               (try clear hk)
               (try clear hi)
               refine hK.out _ _ ⟨Sq.bc al 12, Sq.bc al 13, Sq.bc al 15, Sq.bc al 16, Sq.bc al 17, Sq.bc al 19, Sq.bc al 20⟩ (fun hHeld => ?_)
               clear hK K
               refine norm_ (a' := ?_) ?_ ?_
               rotate_left
               ·show Act.put _ (some 41) _ = _
                simp only [Act.put, Sq.s1, Sq.s2, Sq.s3, i64_w, i32_w]
                rfl
               exact norm_ Z13 (hJ7_12_19_26 (ct) _ ⟨hHeld, Z12, Z3, Z0⟩)
            ·skip
             rintro ct hX ⟨hS_, h0_, h1_, h2_⟩
             have bi : Aside0 (Kd.R (Kd.int .u8) 5 hX w.heap.size (fun _ => True) ct aI) := ⟨h0_⟩
             have bp : Aside0 (hX.heap[aE]? = some (.cells #[.int .i64 aD, .int .i64 aw, .int .i64 ax, .string au, .int .i64 aA, .int .i64 ay, .string av, .int .i64 ar, .int .i64 aC, .string az, .int .i64 ao, .string am, .int .i64 ah, .int .i64 aj, .int .i64 ak, .int .i64 ae, .int .i64 ag, .int .i64 ai, .int .i64 an, .string aa, .string ab, .slice aP ac.length aN, .int .i64 ap, .string aq, .slice aJ af.length aK] 25 (0, 0))) := ⟨h1_⟩
             have bT : Aside0 (Below w.heap.size w hX) := ⟨h2_⟩
             clear al
             clear HB
             clear h0_ h1_ h2_
             have bS := bi
             have al := bp
             have HB := bT
             clear bi bp bT
             have hHeld := hS_
             try dsimp only at hHeld
             refine norm_ (a' := ?_) ?_ ?_
             rotate_left
             ·simp only [putAll, Act.put, Sq.s1, Sq.s2, Sq.s3]
              rfl
             refine one_ (i := 19) (N := some 34) (Sq.b 32 326107135) rfl rfl (one_of HT_.out Z11) Z21 (fun K hK => ?_)
             refine goes_ Try.func52 Z11 rfl #[.int .i64 ah, .int .i64 4] Z14 rfl rfl Z4 ?_
             with_reducible refine (roadbookref02_Of.calls k ah 4 aQ _ A9.out).mono ?_
             rintro e iH ⟨rfl, hb⟩
             refine ⟨_, rfl, ?_⟩
             have bi := Aside0.mk (Kd.R_below Z12 hb)
             have bp := Aside0.mk (blk_below (g := aE) Z3 hb)
             have bT := Aside0.mk (below_step Z0 hb)
             clear bS
             clear al
             clear HB
             have bS := bi
             have al := bp
             have HB := bT
             clear bi bp bT
             (try clear hb)
             (try clear hb2)
             (try clear hk)
             (try clear hi)
             refine hK.out _ _ ⟨Sq.bc al 12, Sq.bc al 13, Sq.bc al 15, Sq.bc al 16, Sq.bc al 17, Sq.bc al 19, Sq.bc al 20⟩ (fun hHeld => ?_)
             clear hK K
             refine norm_ (a' := ?_) ?_ ?_
             rotate_left
             ·show Act.put _ (some 34) _ = _
              simp only [Act.put, Sq.s1, Sq.s2, Sq.s3, i64_w, i32_w]
              rfl
             refine Sq.pur 20 (some 35) (Sq.b 32 327155711) HT_.out ?_
             refine Sq.pur 23 (some 38) (Sq.b 32 335544319) HT_.out ?_
             exact norm_ Z13 (hJ7_8_12_19 (ct) _ ⟨hHeld, Z12, Z3, Z0⟩)
           ·skip
            rintro ct iH ⟨hS_, h0_, h1_, h2_⟩
            have bi : Aside0 (Kd.R (Kd.int .u8) 5 iH w.heap.size (fun _ => True) ct aI) := ⟨h0_⟩
            have bp : Aside0 (iH.heap[aE]? = some (.cells #[.int .i64 aD, .int .i64 aw, .int .i64 ax, .string au, .int .i64 aA, .int .i64 ay, .string av, .int .i64 ar, .int .i64 aC, .string az, .int .i64 ao, .string am, .int .i64 ah, .int .i64 aj, .int .i64 ak, .int .i64 ae, .int .i64 ag, .int .i64 ai, .int .i64 an, .string aa, .string ab, .slice aP ac.length aN, .int .i64 ap, .string aq, .slice aJ af.length aK] 25 (0, 0))) := ⟨h1_⟩
            have bT : Aside0 (Below w.heap.size w iH) := ⟨h2_⟩
            clear al
            clear HB
            clear h0_ h1_ h2_
            have bS := bi
            have al := bp
            have HB := bT
            clear bi bp bT
            have hHeld := hS_
            try dsimp only at hHeld
            refine norm_ (a' := ?_) ?_ ?_
            rotate_left
            ·simp only [putAll, Act.put, Sq.s1, Sq.s2, Sq.s3]
             rfl
            refine one_ (i := 8) (N := some 23) (Sq.b 32 393141759) rfl rfl (one_of HT_.out Z11) Z21 (fun K hK => ?_)
            have hcv27 := own_string (P := Try.prog) Try.underlying51 Try.underlying5 Try.underlying9 (Kd.own_of_R bS.out)
            refine value_ (w1 := ?_) (v := ?_) Z14 rfl ?_ ?_
            rotate_left 2
            ·go_simp
             constructor
             ·rfl
             ·rfl
            clear hcv27
            refine hK.out _ _ ⟨Sq.bc al 12, Sq.bc al 13, Sq.bc al 15, Sq.bc al 16, Sq.bc al 17, Sq.bc al 19, Sq.bc al 20⟩ (fun hHeld => ?_)
            clear hK K
            refine norm_ (a' := ?_) ?_ ?_
            rotate_left
            ·show Act.put _ (some 23) _ = _
             simp only [Act.put, Sq.s1, Sq.s2, Sq.s3, i64_w, i32_w]
             rfl
            refine Sq.pur 9 (some 24) (Sq.b 32 393142271) HT_.out ?_
            refine Sq.pur 13 (some 28) (Sq.b 32 393150463) HT_.out ?_
            refine Sq.pur 16 (some 31) (Sq.b 32 393215999) HT_.out ?_
            refine Sq.pur 20 (some 35) (Sq.b 32 394264575) HT_.out ?_
            refine Sq.pur 23 (some 38) (Sq.b 32 402653183) HT_.out ?_
            exact norm_ Z13 (hJ7_8_12_19_26 (ct) _ ⟨hHeld, Z12, Z3, Z0⟩)
          ·skip
           rintro ct iH ⟨hS_, h0_, h1_, h2_⟩
           have bi : Aside0 (Kd.R (Kd.int .u8) 5 iH w.heap.size (fun _ => True) ct aI) := ⟨h0_⟩
           have bp : Aside0 (iH.heap[aE]? = some (.cells #[.int .i64 aD, .int .i64 aw, .int .i64 ax, .string au, .int .i64 aA, .int .i64 ay, .string av, .int .i64 ar, .int .i64 aC, .string az, .int .i64 ao, .string am, .int .i64 ah, .int .i64 aj, .int .i64 ak, .int .i64 ae, .int .i64 ag, .int .i64 ai, .int .i64 an, .string aa, .string ab, .slice aP ac.length aN, .int .i64 ap, .string aq, .slice aJ af.length aK] 25 (0, 0))) := ⟨h1_⟩
           have bT : Aside0 (Below w.heap.size w iH) := ⟨h2_⟩
           clear al
           clear HB
           clear h0_ h1_ h2_
           have bS := bi
           have al := bp
           have HB := bT
           clear bi bp bT
           have hHeld := hS_
           try dsimp only at hHeld
           refine norm_ (a' := ?_) ?_ ?_
           rotate_left
           ·simp only [putAll, Act.put, Sq.s1, Sq.s2, Sq.s3]
            rfl
           refine one_ (i := 26) (N := some 41) (Sq.b 32 402653183) rfl rfl (one_of HT_.out Z11) Z21 (fun K hK => ?_)
           refine goes_ Try.func52 Z11 rfl #[.int .i64 aj, .int .i64 4] Z14 rfl rfl Z4 ?_
           with_reducible refine (roadbookref02_Of.calls k aj 4 ba _ lX.out).mono ?_
           rintro e jT ⟨rfl, hb⟩
           refine ⟨_, rfl, ?_⟩
           have bi := Aside0.mk (Kd.R_below Z12 hb)
           have bp := Aside0.mk (blk_below (g := aE) Z3 hb)
           have bT := Aside0.mk (below_step Z0 hb)
           clear bS
           clear al
           clear HB
           have bS := bi
           have al := bp
           have HB := bT
           clear bi bp bT
           (try clear hb)
           (try clear hb2)
           (try clear hk)
           (try clear hi)
           refine hK.out _ _ ⟨Sq.bc al 12, Sq.bc al 13, Sq.bc al 15, Sq.bc al 16, Sq.bc al 17, Sq.bc al 19, Sq.bc al 20⟩ (fun hHeld => ?_)
           clear hK K
           refine norm_ (a' := ?_) ?_ ?_
           rotate_left
           ·show Act.put _ (some 41) _ = _
            simp only [Act.put, Sq.s1, Sq.s2, Sq.s3, i64_w, i32_w]
            rfl
           exact norm_ Z13 (hJ7_8_12_19_26 (ct) _ ⟨hHeld, Z12, Z3, Z0⟩)
         rintro ct jT ⟨hS_, h0_, h1_, h2_⟩
         have bi : Aside0 (Kd.R (Kd.int .u8) 5 jT w.heap.size (fun _ => True) ct aI) := ⟨h0_⟩
         have bp : Aside0 (jT.heap[aE]? = some (.cells #[.int .i64 aD, .int .i64 aw, .int .i64 ax, .string au, .int .i64 aA, .int .i64 ay, .string av, .int .i64 ar, .int .i64 aC, .string az, .int .i64 ao, .string am, .int .i64 ah, .int .i64 aj, .int .i64 ak, .int .i64 ae, .int .i64 ag, .int .i64 ai, .int .i64 an, .string aa, .string ab, .slice aP ac.length aN, .int .i64 ap, .string aq, .slice aJ af.length aK] 25 (0, 0))) := ⟨h1_⟩
         have bT : Aside0 (Below w.heap.size w jT) := ⟨h2_⟩
         clear al
         clear HB
         clear h0_ h1_ h2_
         have bS := bi
         have al := bp
         have HB := bT
         clear bi bp bT
         have hHeld := hS_
         try dsimp only at hHeld
         refine norm_ (a' := ?_) ?_ ?_
         rotate_left
         ·simp only [putAll, Act.put, Sq.s1, Sq.s2, Sq.s3]
          rfl
         refine Sq.pur 27 (some 42) (Sq.b 32 536870911) HT_.out ?_
         refine Sq.pur 29 (some 44) (Sq.b 32 1073741823) HT_.out ?_
         refine Sq.pur 30 (some 2) (Sq.b 32 2147483647) HT_.out ?_
         refine Sq.pur 31 (some 3) (Sq.b 32 4294967295) HT_.out ?_
         refine done_ (done_of HT_.out Z11) ?_
         try go_wp2_with (first | ((with_reducible refine Pre.gate_load 25 rfl ?_); (try (refine gate_guard Z14 ?_; dsimp only)); refine Pre.load_event rfl rfl rfl Z14 Z1 Try.underlying25 rfl Z11 ?_))
         go_ret2
         exact ⟨Z6, Z0⟩
        ·rw [if_neg dQ] at H
         exact absurd H Z35
       ·rw [if_neg dB] at H
        exact absurd H Z35
      ·rw [if_neg dC] at H
       exact absurd H Z35
     ·rw [if_neg dv] at H
      exact absurd H Z35
    ·rw [if_neg c8] at H
     exact absurd H Z35
   ·rw [if_neg c7] at H
    exact absurd H Z35
  ·rw [if_neg c5] at H
   exact absurd H Z35
 ·replace c3 := Bool.eq_false_iff.mpr c3
  subst c3
  have H1 : (some ((⟨#[]⟩ : ByteArray), false)) = some (r1, r2) := by rw [if_neg (show ¬ (false = true) by decide)] at H; exact H
  clear H
  have H := H1
  clear H1
  simp only [Option.some.injEq, Prod.mk.injEq] at H
  obtain ⟨rfl, rfl⟩ := H
  go_enter Try.func19, Try.ntmps19
  go_wp2_with (first | ((with_reducible refine Pre.gate_load 25 rfl ?_); (try (refine gate_guard Z14 ?_; dsimp only)); refine Pre.load_event rfl rfl rfl Z14 Z1 Try.underlying25 rfl Z11 ?_) | ((with_reducible refine gate_dst (N := 1) rfl ?_); refine Sq.box 1 #[.int .i64 aD, .int .i64 aw, .int .i64 ax, .string au, .int .i64 aA, .int .i64 ay, .string av, .int .i64 ar, .int .i64 aC, .string az, .int .i64 ao, .string am, .int .i64 ah, .int .i64 aj, .int .i64 ak, .int .i64 ae, .int .i64 ag, .int .i64 ai, .int .i64 an, .string aa, .string ab, .slice aP ac.length aN, .int .i64 ap, .string aq, .slice aJ af.length aK] 25 ?_; intro aE hg lS hbox hb; have al := Aside0.mk (hbox); have cd := Aside0.mk (Sq.ge hg Z2); have bV := Aside0.mk (Sq.ge hg Z2); replace HB := Aside0.mk (below_step Z2 hb); clear hb hbox hg; have gK := cells_25 al.out) | ((with_reducible refine gate_callee (f := 21) rfl ?_); refine goesL_ (some 7) rfl rfl Try.func21 Z11 rfl #[.agg #[.int .i64 aD, .int .i64 aw, .int .i64 ax, .string au, .int .i64 aA, .int .i64 ay, .string av, .int .i64 ar, .int .i64 aC, .string az, .int .i64 ao, .string am, .int .i64 ah, .int .i64 aj, .int .i64 ak, .int .i64 ae, .int .i64 ag, .int .i64 ai, .int .i64 an, .string aa, .string ab, .slice aP ac.length aN, .int .i64 ap, .string aq, .slice aJ af.length aK]] rfl Z4 ?_; (with_reducible refine (roadbookref14_Right.calls k aD aw ax au aA ay av ar aC az ao am ah aj ak ae ag ai an aa ab _ _ ac ap aq _ _ af false _ ?side1 ?side2 ?side3 ?side4 A2.out).mono ?_); (case side1 => exact Z7); (case side2 => exact aZ.out); (case side3 => exact Z5); (case side4 => exact aT.out); rintro e iZ ⟨rfl, hb⟩; refine ⟨_, rfl, ?_⟩; replace al := Aside0.mk (blk_below (g := aE) Z3 hb); replace HB := Aside0.mk (below_step Z0 hb); clear hb))
  go_ret2
  exact ⟨Z6, Z0⟩

end Go.Proofs.Ytccjakjjaemmkaa.PAE
