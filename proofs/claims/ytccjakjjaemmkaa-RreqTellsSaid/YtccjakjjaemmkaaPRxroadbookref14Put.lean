-- Written by mp.py, a program of this work (wip/tools), out of the translation; Lean checks it.
import Derived.Test.YtccjakjjaemmkaaPRxZ
import Derived.Test.YtccjakjjaemmkaaPRxroadbookref02
import Derived.Test.YtccjakjjaemmkaaPRxroadbookref13
import Derived.Test.YtccjakjjaemmkaaPRxroadbookref14Right
import Derived.Test.YtccjakjjaemmkaaLoad
namespace Go.Proofs.Ytccjakjjaemmkaa.PR
open Go.RowKit Go.Proofs.YtccjakjjaemmkaaW.PrintWords Go.Proofs.YtccjakjjaemmkaaW.PrintLast Go.Proofs.YtccjakjjaemmkaaW.PrintMore
attribute [local go_sem] max2_int min2_int max_two min_two max_three min_three max_four min_four   -- for this text's walks alone
set_option linter.unusedVariables false
set_option linter.unusedSimpArgs false

/-! ### roadbookref14_Put: function 19 -/
def roadbookref14_Put.f (k : Nat) (av : Int) (au : Int) (aw : Int) (ay : ByteArray) (aD : Int) (az : Int) (aA : ByteArray) (ax : Int) (aE : Int) (aC : ByteArray) (ap : Int) (an : ByteArray) (aj : Int) (am : Int) (ak : Int) (ah : Int) (ai : Int) (al : Int) (ao : Int) (ac : ByteArray) (af : ByteArray) (ae : List (S46)) (aq : Int) (ar : ByteArray) (ag : List (S48)) : Option (ByteArray × Bool) := (roadbookref14_Right.f k av au aw ay aD az aA ax aE aC ap an aj am ak ah ai al ao ac af ae aq ar ag).bind fun ba => (if ba = true then ((roadbookref13_Put.f k ag).bind fun bW => ((some (([(wrap64 (8 * ah)) % 256, 0, (ai) % 256] : List Int) : List Int)).bind fun bb => (if 1 + (strOfNums bb).size ≤ 9223372036854775807 then ((roadbookref02_Of.f k al 4).bind fun aQ => (if ((⟨#[1]⟩ : ByteArray) ++ (strOfNums bb)).size + aQ.size ≤ 9223372036854775807 then (if (((⟨#[1]⟩ : ByteArray) ++ (strOfNums bb)) ++ aQ).size + ac.size ≤ 9223372036854775807 then ((roadbookref02_Of.f k aj 4).bind fun aV => (if ((((⟨#[1]⟩ : ByteArray) ++ (strOfNums bb)) ++ aQ) ++ ac).size + aV.size ≤ 9223372036854775807 then (if (((((⟨#[1]⟩ : ByteArray) ++ (strOfNums bb)) ++ aQ) ++ ac) ++ aV).size + af.size ≤ 9223372036854775807 then ((roadbookref02_Of.f k am 4).bind fun bi => (if ((((((⟨#[1]⟩ : ByteArray) ++ (strOfNums bb)) ++ aQ) ++ ac) ++ aV) ++ af).size + bi.size ≤ 9223372036854775807 then (if (((((((⟨#[1]⟩ : ByteArray) ++ (strOfNums bb)) ++ aQ) ++ ac) ++ aV) ++ af) ++ bi).size + bW.1.size ≤ 9223372036854775807 then (some ((((((((⟨#[1]⟩ : ByteArray) ++ (strOfNums bb)) ++ aQ) ++ ac) ++ aV) ++ af) ++ bi) ++ bW.1, true)) else (none)) else (none))) else (none)) else (none))) else (none)) else (none))) else (none)))) else (some ((⟨#[]⟩ : ByteArray), false)))
theorem roadbookref14_Put.mono : ∀ a0 a1 a2 a3 a4 a5 a6 a7 a8 a9 fJ fK fL fM fN fO fP fQ fR fS fT fU fV fW fX k, LeO (roadbookref14_Put.f k a0 a1 a2 a3 a4 a5 a6 a7 a8 a9 fJ fK fL fM fN fO fP fQ fR fS fT fU fV fW fX) (roadbookref14_Put.f (k + 1) a0 a1 a2 a3 a4 a5 a6 a7 a8 a9 fJ fK fL fM fN fO fP fQ fR fS fT fU fV fW fX) := by
 intro a0 a1 a2 a3 a4 a5 a6 a7 a8 a9 fJ fK fL fM fN fO fP fQ fR fS fT fU fV fW fX k
 unfold roadbookref14_Put.f
 repeat' first
   | (with_reducible exact roadbookref02_Of.mono _ _ _)
   | (with_reducible exact roadbookref13_Put.mono _ _)
   | (with_reducible exact roadbookref14_Right.mono _ _ _ _ _ _ _ _ _ _ _ _ _ _ _ _ _ _ _ _ _ _ _ _ _ _)
   | (with_reducible exact LeO.refl _)
   | (with_reducible exact LeO.none _)
   | (with_reducible refine LeO.ite ?_ ?_)
   | (with_reducible refine LeO.bind ?_ (fun _ => ?_))
   | exact roadbookref02_Of.mono _ _ _
   | exact roadbookref13_Put.mono _ _
   | exact roadbookref14_Right.mono _ _ _ _ _ _ _ _ _ _ _ _ _ _ _ _ _ _ _ _ _ _ _ _ _ _
   | exact LeO.none _
   | refine LeO.ite ?_ ?_
   | refine LeO.bind ?_ (fun _ => ?_)
def roadbookref14_Put.T4 : Bool × List (List Nat × List Nat) := (true, [([], []), ([0], [0]), ([1], [1]), ([2], [2]), ([], []), ([4], [4]), ([5], [5]), ([3, 6], [3, 6]), ([7], [7]), ([8], [8]), ([], []), ([10], [10]), ([11], [11]), ([9, 12], [9, 12]), ([], []), ([14], [14]), ([13, 15], [13, 15]), ([], []), ([17], [17]), ([18, 12], [18]), ([16, 19], [16, 19]), ([], []), ([21], [21]), ([20, 22], [20, 22]), ([], []), ([24], [24]), ([25, 19], [25]), ([23, 26], [23, 26]), ([], []), ([27, 28], [27, 28]), ([29, 26, 0, 1, 2, 3, 4, 5, 6, 7, 8, 9, 10, 11, 12, 13, 14, 15, 16, 17, 18, 19, 20, 21, 22, 23, 24, 25, 26, 27, 28, 29], [29]), ([30, 0, 1, 2, 3, 4, 5, 6, 7, 8, 9, 10, 11, 12, 13, 14, 15, 16, 17, 18, 19, 20, 21, 22, 23, 24, 25, 26, 27, 28, 29, 30], [])])
def roadbookref14_Put.B4 : List Nat := [0, 1, 3, 7, 0, 16, 48, 127, 255, 511, 0, 1024, 3072, 8191, 0, 16384, 65535, 0, 131072, 400384, 1048575, 0, 2097152, 8388607, 0, 16777216, 51256320, 134217727, 0, 536870911, 1073741823, 2147483647]
theorem roadbookref14_Put.tab4 : rtab .any (opsOf Try.f19 4) = roadbookref14_Put.T4 := by kernel_rfl
theorem roadbookref14_Put.bits4 : waitsOk roadbookref14_Put.T4.2 roadbookref14_Put.B4 = true := by kernel_rfl

set_option maxHeartbeats 8000000 in
set_option maxRecDepth 100000 in
theorem roadbookref14_Put.calls (k : Nat) (av : Int) (au : Int) (aw : Int) (ay : ByteArray) (aD : Int) (az : Int) (aA : ByteArray) (ax : Int) (aE : Int) (aC : ByteArray) (ap : Int) (an : ByteArray) (aj : Int) (am : Int) (ak : Int) (ah : Int) (ai : Int) (al : Int) (ao : Int) (ac : ByteArray) (af : ByteArray) (aT : Option Addr) (aN : Nat) (ae : List (S46)) (aq : Int) (ar : ByteArray) (aJ : Option Addr) (aK : Nat) (ag : List (S48)) (r1 : ByteArray) (r2 : Bool) (w : World) (bY : Kd.C k46 w aT ae.length ae) (bZ : ae.length ≤ aN) (ca : Kd.C k48 w aJ ag.length ag) (cb : ag.length ≤ aK) (h : roadbookref14_Put.f k av au aw ay aD az aA ax aE aC ap an aj am ak ah ai al ao ac af ae aq ar ag = some (r1, r2)) :
  Calls Try.prog 19 #[.agg #[.int .i64 av, .int .i64 au, .int .i64 aw, .string ay, .int .i64 aD, .int .i64 az, .string aA, .int .i64 ax, .int .i64 aE, .string aC, .int .i64 ap, .string an, .int .i64 aj, .int .i64 am, .int .i64 ak, .int .i64 ah, .int .i64 ai, .int .i64 al, .int .i64 ao, .string ac, .string af, .slice aT ae.length aN, .int .i64 aq, .string ar, .slice aJ ag.length aK]] w fun e w' => e = .returned (.tuple #[.string r1, .bool r2]) ∧ Below w.heap.size w w' := by
 have gB := Try.underlying25
 have cT := Aside0.mk bY
 have bl := Aside0.mk bZ
 clear bY bZ
 have cP := Aside0.mk ca
 have bg := Aside0.mk cb
 clear ca cb
 have HB := Aside0.mk (Below.refl w.heap.size w)
 have H : ((roadbookref14_Right.f k av au aw ay aD az aA ax aE aC ap an aj am ak ah ai al ao ac af ae aq ar ag).bind fun ba => (if ba = true then ((roadbookref13_Put.f k ag).bind fun bW => ((some (([(wrap64 (8 * ah)) % 256, 0, (ai) % 256] : List Int) : List Int)).bind fun bb => (if 1 + (strOfNums bb).size ≤ 9223372036854775807 then ((roadbookref02_Of.f k al 4).bind fun aQ => (if ((⟨#[1]⟩ : ByteArray) ++ (strOfNums bb)).size + aQ.size ≤ 9223372036854775807 then (if (((⟨#[1]⟩ : ByteArray) ++ (strOfNums bb)) ++ aQ).size + ac.size ≤ 9223372036854775807 then ((roadbookref02_Of.f k aj 4).bind fun aV => (if ((((⟨#[1]⟩ : ByteArray) ++ (strOfNums bb)) ++ aQ) ++ ac).size + aV.size ≤ 9223372036854775807 then (if (((((⟨#[1]⟩ : ByteArray) ++ (strOfNums bb)) ++ aQ) ++ ac) ++ aV).size + af.size ≤ 9223372036854775807 then ((roadbookref02_Of.f k am 4).bind fun bi => (if ((((((⟨#[1]⟩ : ByteArray) ++ (strOfNums bb)) ++ aQ) ++ ac) ++ aV) ++ af).size + bi.size ≤ 9223372036854775807 then (if (((((((⟨#[1]⟩ : ByteArray) ++ (strOfNums bb)) ++ aQ) ++ ac) ++ aV) ++ af) ++ bi).size + bW.1.size ≤ 9223372036854775807 then (some ((((((((⟨#[1]⟩ : ByteArray) ++ (strOfNums bb)) ++ aQ) ++ ac) ++ aV) ++ af) ++ bi) ++ bW.1, true)) else (none)) else (none))) else (none)) else (none))) else (none)) else (none))) else (none)))) else (some ((⟨#[]⟩ : ByteArray), false)))) = some (r1, r2) := h
 clear h
 replace H := Option.bind_eq_some_iff.mp H
 obtain ⟨ba, gN, H⟩ := H
 replace H : (if ba = true then ((roadbookref13_Put.f k ag).bind fun bW => ((some (([(wrap64 (8 * ah)) % 256, 0, (ai) % 256] : List Int) : List Int)).bind fun bb => (if 1 + (strOfNums bb).size ≤ 9223372036854775807 then ((roadbookref02_Of.f k al 4).bind fun aQ => (if ((⟨#[1]⟩ : ByteArray) ++ (strOfNums bb)).size + aQ.size ≤ 9223372036854775807 then (if (((⟨#[1]⟩ : ByteArray) ++ (strOfNums bb)) ++ aQ).size + ac.size ≤ 9223372036854775807 then ((roadbookref02_Of.f k aj 4).bind fun aV => (if ((((⟨#[1]⟩ : ByteArray) ++ (strOfNums bb)) ++ aQ) ++ ac).size + aV.size ≤ 9223372036854775807 then (if (((((⟨#[1]⟩ : ByteArray) ++ (strOfNums bb)) ++ aQ) ++ ac) ++ aV).size + af.size ≤ 9223372036854775807 then ((roadbookref02_Of.f k am 4).bind fun bi => (if ((((((⟨#[1]⟩ : ByteArray) ++ (strOfNums bb)) ++ aQ) ++ ac) ++ aV) ++ af).size + bi.size ≤ 9223372036854775807 then (if (((((((⟨#[1]⟩ : ByteArray) ++ (strOfNums bb)) ++ aQ) ++ ac) ++ aV) ++ af) ++ bi).size + bW.1.size ≤ 9223372036854775807 then (some ((((((((⟨#[1]⟩ : ByteArray) ++ (strOfNums bb)) ++ aQ) ++ ac) ++ aV) ++ af) ++ bi) ++ bW.1, true)) else (none)) else (none))) else (none)) else (none))) else (none)) else (none))) else (none)))) else (some ((⟨#[]⟩ : ByteArray), false))) = some (r1, r2) := H
 have A2 := Aside0.mk gN
 clear gN
 by_cases c3 : ba = true
 ·subst c3
  have H1 : ((roadbookref13_Put.f k ag).bind fun bW => ((some (([(wrap64 (8 * ah)) % 256, 0, (ai) % 256] : List Int) : List Int)).bind fun bb => (if 1 + (strOfNums bb).size ≤ 9223372036854775807 then ((roadbookref02_Of.f k al 4).bind fun aQ => (if ((⟨#[1]⟩ : ByteArray) ++ (strOfNums bb)).size + aQ.size ≤ 9223372036854775807 then (if (((⟨#[1]⟩ : ByteArray) ++ (strOfNums bb)) ++ aQ).size + ac.size ≤ 9223372036854775807 then ((roadbookref02_Of.f k aj 4).bind fun aV => (if ((((⟨#[1]⟩ : ByteArray) ++ (strOfNums bb)) ++ aQ) ++ ac).size + aV.size ≤ 9223372036854775807 then (if (((((⟨#[1]⟩ : ByteArray) ++ (strOfNums bb)) ++ aQ) ++ ac) ++ aV).size + af.size ≤ 9223372036854775807 then ((roadbookref02_Of.f k am 4).bind fun bi => (if ((((((⟨#[1]⟩ : ByteArray) ++ (strOfNums bb)) ++ aQ) ++ ac) ++ aV) ++ af).size + bi.size ≤ 9223372036854775807 then (if (((((((⟨#[1]⟩ : ByteArray) ++ (strOfNums bb)) ++ aQ) ++ ac) ++ aV) ++ af) ++ bi).size + bW.1.size ≤ 9223372036854775807 then (some ((((((((⟨#[1]⟩ : ByteArray) ++ (strOfNums bb)) ++ aQ) ++ ac) ++ aV) ++ af) ++ bi) ++ bW.1, true)) else (none)) else (none))) else (none)) else (none))) else (none)) else (none))) else (none)))) = some (r1, r2) := by rw [if_pos rfl] at H; exact H
  clear H
  have H := H1
  clear H1
  replace H := Option.bind_eq_some_iff.mp H
  obtain ⟨⟨bf, bc⟩, jA, H⟩ := H
  replace H : ((some (([(wrap64 (8 * ah)) % 256, 0, (ai) % 256] : List Int) : List Int)).bind fun bb => (if 1 + (strOfNums bb).size ≤ 9223372036854775807 then ((roadbookref02_Of.f k al 4).bind fun aQ => (if ((⟨#[1]⟩ : ByteArray) ++ (strOfNums bb)).size + aQ.size ≤ 9223372036854775807 then (if (((⟨#[1]⟩ : ByteArray) ++ (strOfNums bb)) ++ aQ).size + ac.size ≤ 9223372036854775807 then ((roadbookref02_Of.f k aj 4).bind fun aV => (if ((((⟨#[1]⟩ : ByteArray) ++ (strOfNums bb)) ++ aQ) ++ ac).size + aV.size ≤ 9223372036854775807 then (if (((((⟨#[1]⟩ : ByteArray) ++ (strOfNums bb)) ++ aQ) ++ ac) ++ aV).size + af.size ≤ 9223372036854775807 then ((roadbookref02_Of.f k am 4).bind fun bi => (if ((((((⟨#[1]⟩ : ByteArray) ++ (strOfNums bb)) ++ aQ) ++ ac) ++ aV) ++ af).size + bi.size ≤ 9223372036854775807 then (if (((((((⟨#[1]⟩ : ByteArray) ++ (strOfNums bb)) ++ aQ) ++ ac) ++ aV) ++ af) ++ bi).size + bf.size ≤ 9223372036854775807 then (some ((((((((⟨#[1]⟩ : ByteArray) ++ (strOfNums bb)) ++ aQ) ++ ac) ++ aV) ++ af) ++ bi) ++ bf, true)) else (none)) else (none))) else (none)) else (none))) else (none)) else (none))) else (none))) = some (r1, r2) := H
  have A4 := Aside0.mk jA
  clear jA
  obtain ⟨bb, hy105⟩ : ∃ y_ : List Int, y_ = (([(wrap64 (8 * ah)) % 256, 0, (ai) % 256] : List Int)) := ⟨_, rfl⟩
  replace H : (if 1 + (strOfNums bb).size ≤ 9223372036854775807 then ((roadbookref02_Of.f k al 4).bind fun aQ => (if ((⟨#[1]⟩ : ByteArray) ++ (strOfNums bb)).size + aQ.size ≤ 9223372036854775807 then (if (((⟨#[1]⟩ : ByteArray) ++ (strOfNums bb)) ++ aQ).size + ac.size ≤ 9223372036854775807 then ((roadbookref02_Of.f k aj 4).bind fun aV => (if ((((⟨#[1]⟩ : ByteArray) ++ (strOfNums bb)) ++ aQ) ++ ac).size + aV.size ≤ 9223372036854775807 then (if (((((⟨#[1]⟩ : ByteArray) ++ (strOfNums bb)) ++ aQ) ++ ac) ++ aV).size + af.size ≤ 9223372036854775807 then ((roadbookref02_Of.f k am 4).bind fun bi => (if ((((((⟨#[1]⟩ : ByteArray) ++ (strOfNums bb)) ++ aQ) ++ ac) ++ aV) ++ af).size + bi.size ≤ 9223372036854775807 then (if (((((((⟨#[1]⟩ : ByteArray) ++ (strOfNums bb)) ++ aQ) ++ ac) ++ aV) ++ af) ++ bi).size + bf.size ≤ 9223372036854775807 then (some ((((((((⟨#[1]⟩ : ByteArray) ++ (strOfNums bb)) ++ aQ) ++ ac) ++ aV) ++ af) ++ bi) ++ bf, true)) else (none)) else (none))) else (none)) else (none))) else (none)) else (none))) else (none)) = some (r1, r2) := by first | (rw [hy105]; with_reducible exact H) | (have H2_ := (Option.bind_some _ _).symm.trans H; rw [hy105]; with_reducible exact H2_) | (have H2_ := (Option.bind_some _ _).symm.trans H; with_reducible exact H2_) | with_reducible exact H | (rw [hy105]; exact H) | exact H
  have Ny105 := Aside0.mk hy105
  clear hy105
  by_cases c5 : 1 + (strOfNums bb).size ≤ 9223372036854775807
  ·rw [if_pos c5] at H
   have hm := eq_true c5
   have jC : decide (1 + (strOfNums bb).size ≤ 9223372036854775807) = true := decide_eq_true c5
   try have vL : (9223372036854775807 < 1 + (strOfNums bb).size) = False := eq_false (Nat.not_lt.2 c5)
   try (have vM := vL; simp only [ByteArray.size_append] at vM)
   replace H := Option.bind_eq_some_iff.mp H
   obtain ⟨aQ, ls, H⟩ := H
   replace H : (if ((⟨#[1]⟩ : ByteArray) ++ (strOfNums bb)).size + aQ.size ≤ 9223372036854775807 then (if (((⟨#[1]⟩ : ByteArray) ++ (strOfNums bb)) ++ aQ).size + ac.size ≤ 9223372036854775807 then ((roadbookref02_Of.f k aj 4).bind fun aV => (if ((((⟨#[1]⟩ : ByteArray) ++ (strOfNums bb)) ++ aQ) ++ ac).size + aV.size ≤ 9223372036854775807 then (if (((((⟨#[1]⟩ : ByteArray) ++ (strOfNums bb)) ++ aQ) ++ ac) ++ aV).size + af.size ≤ 9223372036854775807 then ((roadbookref02_Of.f k am 4).bind fun bi => (if ((((((⟨#[1]⟩ : ByteArray) ++ (strOfNums bb)) ++ aQ) ++ ac) ++ aV) ++ af).size + bi.size ≤ 9223372036854775807 then (if (((((((⟨#[1]⟩ : ByteArray) ++ (strOfNums bb)) ++ aQ) ++ ac) ++ aV) ++ af) ++ bi).size + bf.size ≤ 9223372036854775807 then (some ((((((((⟨#[1]⟩ : ByteArray) ++ (strOfNums bb)) ++ aQ) ++ ac) ++ aV) ++ af) ++ bi) ++ bf, true)) else (none)) else (none))) else (none)) else (none))) else (none)) else (none)) = some (r1, r2) := H
   have A6 := Aside0.mk ls
   clear ls
   by_cases c7 : ((⟨#[1]⟩ : ByteArray) ++ (strOfNums bb)).size + aQ.size ≤ 9223372036854775807
   ·rw [if_pos c7] at H
    have ib := eq_true c7
    have lL : decide (((⟨#[1]⟩ : ByteArray) ++ (strOfNums bb)).size + aQ.size ≤ 9223372036854775807) = true := decide_eq_true c7
    try have pn : (9223372036854775807 < ((⟨#[1]⟩ : ByteArray) ++ (strOfNums bb)).size + aQ.size) = False := eq_false (Nat.not_lt.2 c7)
    try (have po := pn; simp only [ByteArray.size_append, show (⟨#[1]⟩ : ByteArray).size = 1 from rfl] at po)
    by_cases c8 : (((⟨#[1]⟩ : ByteArray) ++ (strOfNums bb)) ++ aQ).size + ac.size ≤ 9223372036854775807
    ·rw [if_pos c8] at H
     have iG := eq_true c8
     have kt : decide ((((⟨#[1]⟩ : ByteArray) ++ (strOfNums bb)) ++ aQ).size + ac.size ≤ 9223372036854775807) = true := decide_eq_true c8
     try have uq : (9223372036854775807 < (((⟨#[1]⟩ : ByteArray) ++ (strOfNums bb)) ++ aQ).size + ac.size) = False := eq_false (Nat.not_lt.2 c8)
     try (have vN := uq; simp only [ByteArray.size_append, show (⟨#[1]⟩ : ByteArray).size = 1 from rfl] at vN)
     replace H := Option.bind_eq_some_iff.mp H
     obtain ⟨aV, mr, H⟩ := H
     replace H : (if ((((⟨#[1]⟩ : ByteArray) ++ (strOfNums bb)) ++ aQ) ++ ac).size + aV.size ≤ 9223372036854775807 then (if (((((⟨#[1]⟩ : ByteArray) ++ (strOfNums bb)) ++ aQ) ++ ac) ++ aV).size + af.size ≤ 9223372036854775807 then ((roadbookref02_Of.f k am 4).bind fun bi => (if ((((((⟨#[1]⟩ : ByteArray) ++ (strOfNums bb)) ++ aQ) ++ ac) ++ aV) ++ af).size + bi.size ≤ 9223372036854775807 then (if (((((((⟨#[1]⟩ : ByteArray) ++ (strOfNums bb)) ++ aQ) ++ ac) ++ aV) ++ af) ++ bi).size + bf.size ≤ 9223372036854775807 then (some ((((((((⟨#[1]⟩ : ByteArray) ++ (strOfNums bb)) ++ aQ) ++ ac) ++ aV) ++ af) ++ bi) ++ bf, true)) else (none)) else (none))) else (none)) else (none)) = some (r1, r2) := H
     have A9 := Aside0.mk mr
     clear mr
     by_cases cX : ((((⟨#[1]⟩ : ByteArray) ++ (strOfNums bb)) ++ aQ) ++ ac).size + aV.size ≤ 9223372036854775807
     ·rw [if_pos cX] at H
      have ff := eq_true cX
      have gG : decide (((((⟨#[1]⟩ : ByteArray) ++ (strOfNums bb)) ++ aQ) ++ ac).size + aV.size ≤ 9223372036854775807) = true := decide_eq_true cX
      try have jY : (9223372036854775807 < ((((⟨#[1]⟩ : ByteArray) ++ (strOfNums bb)) ++ aQ) ++ ac).size + aV.size) = False := eq_false (Nat.not_lt.2 cX)
      try (have lH := jY; simp only [ByteArray.size_append, show (⟨#[1]⟩ : ByteArray).size = 1 from rfl] at lH)
      by_cases cU : (((((⟨#[1]⟩ : ByteArray) ++ (strOfNums bb)) ++ aQ) ++ ac) ++ aV).size + af.size ≤ 9223372036854775807
      ·rw [if_pos cU] at H
       have fE := eq_true cU
       have hu : decide ((((((⟨#[1]⟩ : ByteArray) ++ (strOfNums bb)) ++ aQ) ++ ac) ++ aV).size + af.size ≤ 9223372036854775807) = true := decide_eq_true cU
       try have uy : (9223372036854775807 < (((((⟨#[1]⟩ : ByteArray) ++ (strOfNums bb)) ++ aQ) ++ ac) ++ aV).size + af.size) = False := eq_false (Nat.not_lt.2 cU)
       try (have uz := uy; simp only [ByteArray.size_append, show (⟨#[1]⟩ : ByteArray).size = 1 from rfl] at uz)
       replace H := Option.bind_eq_some_iff.mp H
       obtain ⟨bi, hN, H⟩ := H
       replace H : (if ((((((⟨#[1]⟩ : ByteArray) ++ (strOfNums bb)) ++ aQ) ++ ac) ++ aV) ++ af).size + bi.size ≤ 9223372036854775807 then (if (((((((⟨#[1]⟩ : ByteArray) ++ (strOfNums bb)) ++ aQ) ++ ac) ++ aV) ++ af) ++ bi).size + bf.size ≤ 9223372036854775807 then (some ((((((((⟨#[1]⟩ : ByteArray) ++ (strOfNums bb)) ++ aQ) ++ ac) ++ aV) ++ af) ++ bi) ++ bf, true)) else (none)) else (none)) = some (r1, r2) := H
       have ln := Aside0.mk hN
       clear hN
       by_cases dB : ((((((⟨#[1]⟩ : ByteArray) ++ (strOfNums bb)) ++ aQ) ++ ac) ++ aV) ++ af).size + bi.size ≤ 9223372036854775807
       ·rw [if_pos dB] at H
        have gF := eq_true dB
        have ie : decide (((((((⟨#[1]⟩ : ByteArray) ++ (strOfNums bb)) ++ aQ) ++ ac) ++ aV) ++ af).size + bi.size ≤ 9223372036854775807) = true := decide_eq_true dB
        try have mt : (9223372036854775807 < ((((((⟨#[1]⟩ : ByteArray) ++ (strOfNums bb)) ++ aQ) ++ ac) ++ aV) ++ af).size + bi.size) = False := eq_false (Nat.not_lt.2 dB)
        try (have mu := mt; simp only [ByteArray.size_append, show (⟨#[1]⟩ : ByteArray).size = 1 from rfl] at mu)
        by_cases gW : (((((((⟨#[1]⟩ : ByteArray) ++ (strOfNums bb)) ++ aQ) ++ ac) ++ aV) ++ af) ++ bi).size + bf.size ≤ 9223372036854775807
        ·rw [if_pos gW] at H
         have ko := eq_true gW
         have kp : decide ((((((((⟨#[1]⟩ : ByteArray) ++ (strOfNums bb)) ++ aQ) ++ ac) ++ aV) ++ af) ++ bi).size + bf.size ≤ 9223372036854775807) = true := decide_eq_true gW
         try have mv : (9223372036854775807 < (((((((⟨#[1]⟩ : ByteArray) ++ (strOfNums bb)) ++ aQ) ++ ac) ++ aV) ++ af) ++ bi).size + bf.size) = False := eq_false (Nat.not_lt.2 gW)
         try (have mw := mv; simp only [ByteArray.size_append, show (⟨#[1]⟩ : ByteArray).size = 1 from rfl] at mw)
         simp only [Option.some.injEq, Prod.mk.injEq] at H
         obtain ⟨rfl, rfl⟩ := H
         go_enter Try.func19, Try.ntmps19
         try go_wp2_with (first | ((with_reducible refine Pre.gate_load 25 rfl ?_); (try (refine gate_guard Z13 ?_; dsimp only)); refine Pre.load_event rfl rfl rfl Z13 Z2 Try.underlying25 rfl Z6 ?_) | ((with_reducible refine gate_dst (N := 1) rfl ?_); refine box_event ?hg (N := 1) ?hd (cs := #[.int .i64 av, .int .i64 au, .int .i64 aw, .string ay, .int .i64 aD, .int .i64 az, .string aA, .int .i64 ax, .int .i64 aE, .string aC, .int .i64 ap, .string an, .int .i64 aj, .int .i64 am, .int .i64 ak, .int .i64 ah, .int .i64 ai, .int .i64 al, .int .i64 ao, .string ac, .string af, .slice aT ae.length aN, .int .i64 aq, .string ar, .slice aJ ag.length aK]) (t := 25) ?hr ?_; (case hd => rfl); (case hg => rfl); (case hr => first | (go_simp; done) | (go_simp; rfl)); intro aa hg pE hbox hb; have aG := Aside0.mk (below_step Z3 hb); have aH := Aside0.mk (hbox); have aI := Aside0.mk ((by rw [hg]; exact (below_size Z3) : w.heap.size ≤ aa)); have aZ := Aside0.mk ((by rw [hg]; exact (below_size Z3) : w.heap.size ≤ aa)); replace HB := aG; have ab := aH; have cl := aI; have bs := aZ; clear aG aH aI aZ; clear hb hbox hg; have ir := cells_25 ab.out) | ((with_reducible refine gate_callee (f := 21) rfl ?_); refine goesL_ (some 7) rfl rfl Try.func21 Z6 rfl #[.agg #[.int .i64 av, .int .i64 au, .int .i64 aw, .string ay, .int .i64 aD, .int .i64 az, .string aA, .int .i64 ax, .int .i64 aE, .string aC, .int .i64 ap, .string an, .int .i64 aj, .int .i64 am, .int .i64 ak, .int .i64 ah, .int .i64 ai, .int .i64 al, .int .i64 ao, .string ac, .string af, .slice aT ae.length aN, .int .i64 aq, .string ar, .slice aJ ag.length aK]] rfl Z5 ?_; (with_reducible refine (roadbookref14_Right.calls k av au aw ay aD az aA ax aE aC ap an aj am ak ah ai al ao ac af _ _ ae aq ar _ _ ag true _ ?side1 ?side2 ?side3 ?side4 A2.out).mono ?_); (case side1 => exact Z8); (case side2 => exact bl.out); (case side3 => exact Z7); (case side4 => exact bg.out); rintro e kz ⟨rfl, hb⟩; refine ⟨_, rfl, ?_⟩; have aG := Aside0.mk (blk_below (g := aa) Z1 hb); have aH := Aside0.mk (below_step Z0 hb); replace ab := aG; replace HB := aH; clear aG aH; (try clear hb); (try clear hb2); (try clear hk); (try clear hi); have nj := cells_25 ab.out) | ((with_reducible refine gate_callee (f := 51) rfl ?_); refine goesL_ (some 12) rfl rfl Try.func51 Z6 rfl #[.slice aJ ag.length aK] rfl Z5 ?_; (with_reducible refine (roadbookref13_Put.calls k _ _ ag bf bc _ ?side1 ?side2 A4.out).mono ?_); (case side1 => exact Z7); (case side2 => exact bg.out); rintro e nD ⟨rfl, hb⟩; refine ⟨_, rfl, ?_⟩; have aG := Aside0.mk (blk_below (g := aa) Z1 hb); have aH := Aside0.mk (below_step Z0 hb); replace ab := aG; replace HB := aH; clear aG aH; (try clear hb); (try clear hb2); (try clear hk); (try clear hi)))
         have aG := Aside0.mk (blk_drew ab.out)
         have aH := Aside0.mk (below_drew1 HB.out)
         clear ab
         clear HB
         have ab := aG
         have HB := aH
         clear aG aH
         refine start_ (n := 32) (S := fun w' => w'.cell? ⟨aa, 0, none⟩ = some (.int .i64 av) ∧ w'.cell? ⟨aa, 1, none⟩ = some (.int .i64 au) ∧ w'.cell? ⟨aa, 2, none⟩ = some (.int .i64 aw) ∧ w'.cell? ⟨aa, 3, none⟩ = some (.string ay) ∧ w'.cell? ⟨aa, 4, none⟩ = some (.int .i64 aD) ∧ w'.cell? ⟨aa, 5, none⟩ = some (.int .i64 az) ∧ w'.cell? ⟨aa, 6, none⟩ = some (.string aA) ∧ w'.cell? ⟨aa, 7, none⟩ = some (.int .i64 ax) ∧ w'.cell? ⟨aa, 8, none⟩ = some (.int .i64 aE) ∧ w'.cell? ⟨aa, 9, none⟩ = some (.string aC) ∧ w'.cell? ⟨aa, 10, none⟩ = some (.int .i64 ap) ∧ w'.cell? ⟨aa, 11, none⟩ = some (.string an) ∧ w'.cell? ⟨aa, 12, none⟩ = some (.int .i64 aj) ∧ w'.cell? ⟨aa, 13, none⟩ = some (.int .i64 am) ∧ w'.cell? ⟨aa, 14, none⟩ = some (.int .i64 ak) ∧ w'.cell? ⟨aa, 15, none⟩ = some (.int .i64 ah) ∧ w'.cell? ⟨aa, 16, none⟩ = some (.int .i64 ai) ∧ w'.cell? ⟨aa, 17, none⟩ = some (.int .i64 al) ∧ w'.cell? ⟨aa, 18, none⟩ = some (.int .i64 ao) ∧ w'.cell? ⟨aa, 19, none⟩ = some (.string ac) ∧ w'.cell? ⟨aa, 20, none⟩ = some (.string af) ∧ w'.cell? ⟨aa, 21, none⟩ = some (.slice aT ae.length aN) ∧ w'.cell? ⟨aa, 22, none⟩ = some (.int .i64 aq) ∧ w'.cell? ⟨aa, 23, none⟩ = some (.string ar) ∧ w'.cell? ⟨aa, 24, none⟩ = some (.slice aJ ag.length aK)) (ds := []) #[false, false, false, false, false, false, false, false, false, false, false, false, false, false, false, false, false, false, false, false, false, false, false, false, false, false, false, false, false, false, false, false] Z6 rfl rfl ⟨(blk_cell ab.out 0).trans rfl, (blk_cell ab.out 1).trans rfl, (blk_cell ab.out 2).trans rfl, (blk_cell ab.out 3).trans rfl, (blk_cell ab.out 4).trans rfl, (blk_cell ab.out 5).trans rfl, (blk_cell ab.out 6).trans rfl, (blk_cell ab.out 7).trans rfl, (blk_cell ab.out 8).trans rfl, (blk_cell ab.out 9).trans rfl, (blk_cell ab.out 10).trans rfl, (blk_cell ab.out 11).trans rfl, (blk_cell ab.out 12).trans rfl, (blk_cell ab.out 13).trans rfl, (blk_cell ab.out 14).trans rfl, (blk_cell ab.out 15).trans rfl, (blk_cell ab.out 16).trans rfl, (blk_cell ab.out 17).trans rfl, (blk_cell ab.out 18).trans rfl, (blk_cell ab.out 19).trans rfl, (blk_cell ab.out 20).trans rfl, (blk_cell ab.out 21).trans rfl, (blk_cell ab.out 22).trans rfl, (blk_cell ab.out 23).trans rfl, (blk_cell ab.out 24).trans rfl⟩ (fun hHeld => ?_); refine with_tabW roadbookref14_Put.tab4 roadbookref14_Put.bits4 (fun HT_ HW_ => ?_)
         generalize nD.drew = kG at ab HB hHeld ⊢
         refine pure_ (i := 0) (N := some 15) (v := ?_) (a' := ?_) #[true, false, false, false, false, false, false, false, false, false, false, false, false, false, false, false, false, false, false, false, false, false, false, false, false, false, false, false, false, false, false, false] rfl rfl (any_of HT_.out Z6) (fun _ _ _ h => h) (Or.inl ⟨Z13, ?_⟩) ?_ ?_
         rotate_left
         ·intro w'
          go_simp
          with_reducible rfl
         rotate_left
         ·simp only [Act.put, List.setIfInBounds_toArray, List.set_cons_zero, List.set_cons_succ, i64_w, i32_w]
          rfl
         refine pure_ (i := 4) (N := some 19) (v := ?_) (a' := ?_) #[true, false, false, false, true, false, false, false, false, false, false, false, false, false, false, false, false, false, false, false, false, false, false, false, false, false, false, false, false, false, false, false] rfl rfl (any_of HT_.out Z6) (fun _ _ _ h => h) (Or.inl ⟨Z13, ?_⟩) ?_ ?_
         rotate_left
         ·intro w'
          go_simp
          with_reducible rfl
         rotate_left
         ·simp only [Act.put, List.setIfInBounds_toArray, List.set_cons_zero, List.set_cons_succ, i64_w, i32_w]
          rfl
         refine pure_ (i := 10) (N := some 25) (v := ?_) (a' := ?_) #[true, false, false, false, true, false, false, false, false, false, true, false, false, false, false, false, false, false, false, false, false, false, false, false, false, false, false, false, false, false, false, false] rfl rfl (any_of HT_.out Z6) (fun _ _ _ h => h) (Or.inl ⟨Z13, ?_⟩) ?_ ?_
         rotate_left
         ·intro w'
          go_simp
          with_reducible rfl
         rotate_left
         ·simp only [Act.put, List.setIfInBounds_toArray, List.set_cons_zero, List.set_cons_succ, i64_w, i32_w]
          rfl
         refine pure_ (i := 14) (N := some 29) (v := ?_) (a' := ?_) #[true, false, false, false, true, false, false, false, false, false, true, false, false, false, true, false, false, false, false, false, false, false, false, false, false, false, false, false, false, false, false, false] rfl rfl (any_of HT_.out Z6) (fun _ _ _ h => h) (Or.inl ⟨Z13, ?_⟩) ?_ ?_
         rotate_left
         ·intro w'
          go_simp
          with_reducible rfl
         rotate_left
         ·simp only [Act.put, List.setIfInBounds_toArray, List.set_cons_zero, List.set_cons_succ, i64_w, i32_w]
          rfl
         refine pure_ (i := 17) (N := some 32) (v := ?_) (a' := ?_) #[true, false, false, false, true, false, false, false, false, false, true, false, false, false, true, false, false, true, false, false, false, false, false, false, false, false, false, false, false, false, false, false] rfl rfl (any_of HT_.out Z6) (fun _ _ _ h => h) (Or.inl ⟨Z13, ?_⟩) ?_ ?_
         rotate_left
         ·intro w'
          go_simp
          with_reducible rfl
         rotate_left
         ·simp only [Act.put, List.setIfInBounds_toArray, List.set_cons_zero, List.set_cons_succ, i64_w, i32_w]
          rfl
         refine pure_ (i := 21) (N := some 36) (v := ?_) (a' := ?_) #[true, false, false, false, true, false, false, false, false, false, true, false, false, false, true, false, false, true, false, false, false, true, false, false, false, false, false, false, false, false, false, false] rfl rfl (any_of HT_.out Z6) (fun _ _ _ h => h) (Or.inl ⟨Z13, ?_⟩) ?_ ?_
         rotate_left
         ·intro w'
          go_simp
          with_reducible rfl
         rotate_left
         ·simp only [Act.put, List.setIfInBounds_toArray, List.set_cons_zero, List.set_cons_succ, i64_w, i32_w]
          rfl
         refine pure_ (i := 24) (N := some 39) (v := ?_) (a' := ?_) #[true, false, false, false, true, false, false, false, false, false, true, false, false, false, true, false, false, true, false, false, false, true, false, false, true, false, false, false, false, false, false, false] rfl rfl (any_of HT_.out Z6) (fun _ _ _ h => h) (Or.inl ⟨Z13, ?_⟩) ?_ ?_
         rotate_left
         ·intro w'
          go_simp
          with_reducible rfl
         rotate_left
         ·simp only [Act.put, List.setIfInBounds_toArray, List.set_cons_zero, List.set_cons_succ, i64_w, i32_w]
          rfl
         refine pure_ (i := 28) (N := some 43) (v := ?_) (a' := ?_) #[true, false, false, false, true, false, false, false, false, false, true, false, false, false, true, false, false, true, false, false, false, true, false, false, true, false, false, false, true, false, false, false] rfl rfl (any_of HT_.out Z6) (fun _ _ _ h => h) (Or.inl ⟨Z13, ?_⟩) ?_ ?_
         rotate_left
         ·intro w'
          go_simp
          with_reducible rfl
         rotate_left
         ·simp only [Act.put, List.setIfInBounds_toArray, List.set_cons_zero, List.set_cons_succ, i64_w, i32_w]
          rfl
         refine take_ (i := 1) (N := some 16) (v := ?_) (a' := ?_) #[true, true, false, false, true, false, false, false, false, false, true, false, false, false, true, false, false, true, false, false, false, true, false, false, true, false, false, false, true, false, false, false] rfl rfl (take_ofW HT_.out HW_.out Z6) (fun _ _ _ h => h) (Or.inl ⟨Z13, ?_⟩) hHeld ?_ ?_
         rotate_left
         ·rintro w' ⟨s0, s1, s2, s3, s4, s5, s6, s7, s8, s9, s10, s11, s12, s13, s14, s15, s16, s17, s18, s19, s20, s21, s22, s23, s24⟩
          first | (refine Eq.trans (Pre.load_run (ty := 25) rfl Z13 s0 Try.underlying25 rfl Z6) ?_; with_reducible rfl) | (refine Eq.trans (Pre.load_run (ty := 25) rfl Z13 s1 Try.underlying25 rfl Z6) ?_; with_reducible rfl) | (refine Eq.trans (Pre.load_run (ty := 25) rfl Z13 s2 Try.underlying25 rfl Z6) ?_; with_reducible rfl) | (refine Eq.trans (Pre.load_run (ty := 25) rfl Z13 s3 Try.underlying25 rfl Z6) ?_; with_reducible rfl) | (refine Eq.trans (Pre.load_run (ty := 25) rfl Z13 s4 Try.underlying25 rfl Z6) ?_; with_reducible rfl) | (refine Eq.trans (Pre.load_run (ty := 25) rfl Z13 s5 Try.underlying25 rfl Z6) ?_; with_reducible rfl) | (refine Eq.trans (Pre.load_run (ty := 25) rfl Z13 s6 Try.underlying25 rfl Z6) ?_; with_reducible rfl) | (refine Eq.trans (Pre.load_run (ty := 25) rfl Z13 s7 Try.underlying25 rfl Z6) ?_; with_reducible rfl) | (refine Eq.trans (Pre.load_run (ty := 25) rfl Z13 s8 Try.underlying25 rfl Z6) ?_; with_reducible rfl) | (refine Eq.trans (Pre.load_run (ty := 25) rfl Z13 s9 Try.underlying25 rfl Z6) ?_; with_reducible rfl) | (refine Eq.trans (Pre.load_run (ty := 25) rfl Z13 s10 Try.underlying25 rfl Z6) ?_; with_reducible rfl) | (refine Eq.trans (Pre.load_run (ty := 25) rfl Z13 s11 Try.underlying25 rfl Z6) ?_; with_reducible rfl) | (refine Eq.trans (Pre.load_run (ty := 25) rfl Z13 s12 Try.underlying25 rfl Z6) ?_; with_reducible rfl) | (refine Eq.trans (Pre.load_run (ty := 25) rfl Z13 s13 Try.underlying25 rfl Z6) ?_; with_reducible rfl) | (refine Eq.trans (Pre.load_run (ty := 25) rfl Z13 s14 Try.underlying25 rfl Z6) ?_; with_reducible rfl) | (refine Eq.trans (Pre.load_run (ty := 25) rfl Z13 s15 Try.underlying25 rfl Z6) ?_; with_reducible rfl) | (refine Eq.trans (Pre.load_run (ty := 25) rfl Z13 s16 Try.underlying25 rfl Z6) ?_; with_reducible rfl) | (refine Eq.trans (Pre.load_run (ty := 25) rfl Z13 s17 Try.underlying25 rfl Z6) ?_; with_reducible rfl) | (refine Eq.trans (Pre.load_run (ty := 25) rfl Z13 s18 Try.underlying25 rfl Z6) ?_; with_reducible rfl) | (refine Eq.trans (Pre.load_run (ty := 25) rfl Z13 s19 Try.underlying25 rfl Z6) ?_; with_reducible rfl) | (refine Eq.trans (Pre.load_run (ty := 25) rfl Z13 s20 Try.underlying25 rfl Z6) ?_; with_reducible rfl) | (refine Eq.trans (Pre.load_run (ty := 25) rfl Z13 s21 Try.underlying25 rfl Z6) ?_; with_reducible rfl) | (refine Eq.trans (Pre.load_run (ty := 25) rfl Z13 s22 Try.underlying25 rfl Z6) ?_; with_reducible rfl) | (refine Eq.trans (Pre.load_run (ty := 25) rfl Z13 s23 Try.underlying25 rfl Z6) ?_; with_reducible rfl) | (refine Eq.trans (Pre.load_run (ty := 25) rfl Z13 s24 Try.underlying25 rfl Z6) ?_; with_reducible rfl) | (go_simp; with_reducible rfl)
         rotate_left
         ·simp only [Act.put, List.setIfInBounds_toArray, List.set_cons_zero, List.set_cons_succ, i64_w, i32_w]
          rfl
         refine pure_ (i := 2) (N := some 17) (v := ?_) (a' := ?_) #[true, true, true, false, true, false, false, false, false, false, true, false, false, false, true, false, false, true, false, false, false, true, false, false, true, false, false, false, true, false, false, false] rfl rfl (any_of HT_.out Z6) (fun _ _ _ h => h) (Or.inl ⟨Z13, ?_⟩) ?_ ?_
         rotate_left
         ·intro w'
          go_simp
          with_reducible rfl
         rotate_left
         ·simp only [Act.put, List.setIfInBounds_toArray, List.set_cons_zero, List.set_cons_succ, i64_w, i32_w]
          rfl
         refine pure_ (i := 3) (N := some 18) (v := ?_) (a' := ?_) #[true, true, true, true, true, false, false, false, false, false, true, false, false, false, true, false, false, true, false, false, false, true, false, false, true, false, false, false, true, false, false, false] rfl rfl (any_of HT_.out Z6) (fun _ _ _ h => h) (Or.inl ⟨Z13, ?_⟩) ?_ ?_
         rotate_left
         ·intro w'
          go_simp
          with_reducible rfl
         rotate_left
         ·simp only [Act.put, List.setIfInBounds_toArray, List.set_cons_zero, List.set_cons_succ, i64_w, i32_w]
          rfl
         refine take_ (i := 5) (N := some 20) (v := ?_) (a' := ?_) #[true, true, true, true, true, true, false, false, false, false, true, false, false, false, true, false, false, true, false, false, false, true, false, false, true, false, false, false, true, false, false, false] rfl rfl (take_ofW HT_.out HW_.out Z6) (fun _ _ _ h => h) (Or.inl ⟨Z13, ?_⟩) hHeld ?_ ?_
         rotate_left
         ·rintro w' ⟨s0, s1, s2, s3, s4, s5, s6, s7, s8, s9, s10, s11, s12, s13, s14, s15, s16, s17, s18, s19, s20, s21, s22, s23, s24⟩
          first | (refine Eq.trans (Pre.load_run (ty := 25) rfl Z13 s0 Try.underlying25 rfl Z6) ?_; with_reducible rfl) | (refine Eq.trans (Pre.load_run (ty := 25) rfl Z13 s1 Try.underlying25 rfl Z6) ?_; with_reducible rfl) | (refine Eq.trans (Pre.load_run (ty := 25) rfl Z13 s2 Try.underlying25 rfl Z6) ?_; with_reducible rfl) | (refine Eq.trans (Pre.load_run (ty := 25) rfl Z13 s3 Try.underlying25 rfl Z6) ?_; with_reducible rfl) | (refine Eq.trans (Pre.load_run (ty := 25) rfl Z13 s4 Try.underlying25 rfl Z6) ?_; with_reducible rfl) | (refine Eq.trans (Pre.load_run (ty := 25) rfl Z13 s5 Try.underlying25 rfl Z6) ?_; with_reducible rfl) | (refine Eq.trans (Pre.load_run (ty := 25) rfl Z13 s6 Try.underlying25 rfl Z6) ?_; with_reducible rfl) | (refine Eq.trans (Pre.load_run (ty := 25) rfl Z13 s7 Try.underlying25 rfl Z6) ?_; with_reducible rfl) | (refine Eq.trans (Pre.load_run (ty := 25) rfl Z13 s8 Try.underlying25 rfl Z6) ?_; with_reducible rfl) | (refine Eq.trans (Pre.load_run (ty := 25) rfl Z13 s9 Try.underlying25 rfl Z6) ?_; with_reducible rfl) | (refine Eq.trans (Pre.load_run (ty := 25) rfl Z13 s10 Try.underlying25 rfl Z6) ?_; with_reducible rfl) | (refine Eq.trans (Pre.load_run (ty := 25) rfl Z13 s11 Try.underlying25 rfl Z6) ?_; with_reducible rfl) | (refine Eq.trans (Pre.load_run (ty := 25) rfl Z13 s12 Try.underlying25 rfl Z6) ?_; with_reducible rfl) | (refine Eq.trans (Pre.load_run (ty := 25) rfl Z13 s13 Try.underlying25 rfl Z6) ?_; with_reducible rfl) | (refine Eq.trans (Pre.load_run (ty := 25) rfl Z13 s14 Try.underlying25 rfl Z6) ?_; with_reducible rfl) | (refine Eq.trans (Pre.load_run (ty := 25) rfl Z13 s15 Try.underlying25 rfl Z6) ?_; with_reducible rfl) | (refine Eq.trans (Pre.load_run (ty := 25) rfl Z13 s16 Try.underlying25 rfl Z6) ?_; with_reducible rfl) | (refine Eq.trans (Pre.load_run (ty := 25) rfl Z13 s17 Try.underlying25 rfl Z6) ?_; with_reducible rfl) | (refine Eq.trans (Pre.load_run (ty := 25) rfl Z13 s18 Try.underlying25 rfl Z6) ?_; with_reducible rfl) | (refine Eq.trans (Pre.load_run (ty := 25) rfl Z13 s19 Try.underlying25 rfl Z6) ?_; with_reducible rfl) | (refine Eq.trans (Pre.load_run (ty := 25) rfl Z13 s20 Try.underlying25 rfl Z6) ?_; with_reducible rfl) | (refine Eq.trans (Pre.load_run (ty := 25) rfl Z13 s21 Try.underlying25 rfl Z6) ?_; with_reducible rfl) | (refine Eq.trans (Pre.load_run (ty := 25) rfl Z13 s22 Try.underlying25 rfl Z6) ?_; with_reducible rfl) | (refine Eq.trans (Pre.load_run (ty := 25) rfl Z13 s23 Try.underlying25 rfl Z6) ?_; with_reducible rfl) | (refine Eq.trans (Pre.load_run (ty := 25) rfl Z13 s24 Try.underlying25 rfl Z6) ?_; with_reducible rfl) | (go_simp; with_reducible rfl)
         rotate_left
         ·simp only [Act.put, List.setIfInBounds_toArray, List.set_cons_zero, List.set_cons_succ, i64_w, i32_w]
          rfl
         refine pure_ (i := 6) (N := some 21) (v := ?_) (a' := ?_) #[true, true, true, true, true, true, true, false, false, false, true, false, false, false, true, false, false, true, false, false, false, true, false, false, true, false, false, false, true, false, false, false] rfl rfl (any_of HT_.out Z6) (fun _ _ _ h => h) (Or.inl ⟨Z13, ?_⟩) ?_ ?_
         rotate_left
         ·intro w'
          go_simp
          with_reducible rfl
         rotate_left
         ·simp only [Act.put, List.setIfInBounds_toArray, List.set_cons_zero, List.set_cons_succ, i64_w, i32_w]
          rfl
         refine take_ (i := 11) (N := some 26) (v := ?_) (a' := ?_) #[true, true, true, true, true, true, true, false, false, false, true, true, false, false, true, false, false, true, false, false, false, true, false, false, true, false, false, false, true, false, false, false] rfl rfl (take_ofW HT_.out HW_.out Z6) (fun _ _ _ h => h) (Or.inl ⟨Z13, ?_⟩) hHeld ?_ ?_
         rotate_left
         ·rintro w' ⟨s0, s1, s2, s3, s4, s5, s6, s7, s8, s9, s10, s11, s12, s13, s14, s15, s16, s17, s18, s19, s20, s21, s22, s23, s24⟩
          first | (refine Eq.trans (Pre.load_run (ty := 25) rfl Z13 s0 Try.underlying25 rfl Z6) ?_; with_reducible rfl) | (refine Eq.trans (Pre.load_run (ty := 25) rfl Z13 s1 Try.underlying25 rfl Z6) ?_; with_reducible rfl) | (refine Eq.trans (Pre.load_run (ty := 25) rfl Z13 s2 Try.underlying25 rfl Z6) ?_; with_reducible rfl) | (refine Eq.trans (Pre.load_run (ty := 25) rfl Z13 s3 Try.underlying25 rfl Z6) ?_; with_reducible rfl) | (refine Eq.trans (Pre.load_run (ty := 25) rfl Z13 s4 Try.underlying25 rfl Z6) ?_; with_reducible rfl) | (refine Eq.trans (Pre.load_run (ty := 25) rfl Z13 s5 Try.underlying25 rfl Z6) ?_; with_reducible rfl) | (refine Eq.trans (Pre.load_run (ty := 25) rfl Z13 s6 Try.underlying25 rfl Z6) ?_; with_reducible rfl) | (refine Eq.trans (Pre.load_run (ty := 25) rfl Z13 s7 Try.underlying25 rfl Z6) ?_; with_reducible rfl) | (refine Eq.trans (Pre.load_run (ty := 25) rfl Z13 s8 Try.underlying25 rfl Z6) ?_; with_reducible rfl) | (refine Eq.trans (Pre.load_run (ty := 25) rfl Z13 s9 Try.underlying25 rfl Z6) ?_; with_reducible rfl) | (refine Eq.trans (Pre.load_run (ty := 25) rfl Z13 s10 Try.underlying25 rfl Z6) ?_; with_reducible rfl) | (refine Eq.trans (Pre.load_run (ty := 25) rfl Z13 s11 Try.underlying25 rfl Z6) ?_; with_reducible rfl) | (refine Eq.trans (Pre.load_run (ty := 25) rfl Z13 s12 Try.underlying25 rfl Z6) ?_; with_reducible rfl) | (refine Eq.trans (Pre.load_run (ty := 25) rfl Z13 s13 Try.underlying25 rfl Z6) ?_; with_reducible rfl) | (refine Eq.trans (Pre.load_run (ty := 25) rfl Z13 s14 Try.underlying25 rfl Z6) ?_; with_reducible rfl) | (refine Eq.trans (Pre.load_run (ty := 25) rfl Z13 s15 Try.underlying25 rfl Z6) ?_; with_reducible rfl) | (refine Eq.trans (Pre.load_run (ty := 25) rfl Z13 s16 Try.underlying25 rfl Z6) ?_; with_reducible rfl) | (refine Eq.trans (Pre.load_run (ty := 25) rfl Z13 s17 Try.underlying25 rfl Z6) ?_; with_reducible rfl) | (refine Eq.trans (Pre.load_run (ty := 25) rfl Z13 s18 Try.underlying25 rfl Z6) ?_; with_reducible rfl) | (refine Eq.trans (Pre.load_run (ty := 25) rfl Z13 s19 Try.underlying25 rfl Z6) ?_; with_reducible rfl) | (refine Eq.trans (Pre.load_run (ty := 25) rfl Z13 s20 Try.underlying25 rfl Z6) ?_; with_reducible rfl) | (refine Eq.trans (Pre.load_run (ty := 25) rfl Z13 s21 Try.underlying25 rfl Z6) ?_; with_reducible rfl) | (refine Eq.trans (Pre.load_run (ty := 25) rfl Z13 s22 Try.underlying25 rfl Z6) ?_; with_reducible rfl) | (refine Eq.trans (Pre.load_run (ty := 25) rfl Z13 s23 Try.underlying25 rfl Z6) ?_; with_reducible rfl) | (refine Eq.trans (Pre.load_run (ty := 25) rfl Z13 s24 Try.underlying25 rfl Z6) ?_; with_reducible rfl) | (go_simp; with_reducible rfl)
         rotate_left
         ·simp only [Act.put, List.setIfInBounds_toArray, List.set_cons_zero, List.set_cons_succ, i64_w, i32_w]
          rfl
         refine take_ (i := 15) (N := some 30) (v := ?_) (a' := ?_) #[true, true, true, true, true, true, true, false, false, false, true, true, false, false, true, true, false, true, false, false, false, true, false, false, true, false, false, false, true, false, false, false] rfl rfl (take_ofW HT_.out HW_.out Z6) (fun _ _ _ h => h) (Or.inl ⟨Z13, ?_⟩) hHeld ?_ ?_
         rotate_left
         ·rintro w' ⟨s0, s1, s2, s3, s4, s5, s6, s7, s8, s9, s10, s11, s12, s13, s14, s15, s16, s17, s18, s19, s20, s21, s22, s23, s24⟩
          first | (refine Eq.trans (Pre.load_run (ty := 25) rfl Z13 s0 Try.underlying25 rfl Z6) ?_; with_reducible rfl) | (refine Eq.trans (Pre.load_run (ty := 25) rfl Z13 s1 Try.underlying25 rfl Z6) ?_; with_reducible rfl) | (refine Eq.trans (Pre.load_run (ty := 25) rfl Z13 s2 Try.underlying25 rfl Z6) ?_; with_reducible rfl) | (refine Eq.trans (Pre.load_run (ty := 25) rfl Z13 s3 Try.underlying25 rfl Z6) ?_; with_reducible rfl) | (refine Eq.trans (Pre.load_run (ty := 25) rfl Z13 s4 Try.underlying25 rfl Z6) ?_; with_reducible rfl) | (refine Eq.trans (Pre.load_run (ty := 25) rfl Z13 s5 Try.underlying25 rfl Z6) ?_; with_reducible rfl) | (refine Eq.trans (Pre.load_run (ty := 25) rfl Z13 s6 Try.underlying25 rfl Z6) ?_; with_reducible rfl) | (refine Eq.trans (Pre.load_run (ty := 25) rfl Z13 s7 Try.underlying25 rfl Z6) ?_; with_reducible rfl) | (refine Eq.trans (Pre.load_run (ty := 25) rfl Z13 s8 Try.underlying25 rfl Z6) ?_; with_reducible rfl) | (refine Eq.trans (Pre.load_run (ty := 25) rfl Z13 s9 Try.underlying25 rfl Z6) ?_; with_reducible rfl) | (refine Eq.trans (Pre.load_run (ty := 25) rfl Z13 s10 Try.underlying25 rfl Z6) ?_; with_reducible rfl) | (refine Eq.trans (Pre.load_run (ty := 25) rfl Z13 s11 Try.underlying25 rfl Z6) ?_; with_reducible rfl) | (refine Eq.trans (Pre.load_run (ty := 25) rfl Z13 s12 Try.underlying25 rfl Z6) ?_; with_reducible rfl) | (refine Eq.trans (Pre.load_run (ty := 25) rfl Z13 s13 Try.underlying25 rfl Z6) ?_; with_reducible rfl) | (refine Eq.trans (Pre.load_run (ty := 25) rfl Z13 s14 Try.underlying25 rfl Z6) ?_; with_reducible rfl) | (refine Eq.trans (Pre.load_run (ty := 25) rfl Z13 s15 Try.underlying25 rfl Z6) ?_; with_reducible rfl) | (refine Eq.trans (Pre.load_run (ty := 25) rfl Z13 s16 Try.underlying25 rfl Z6) ?_; with_reducible rfl) | (refine Eq.trans (Pre.load_run (ty := 25) rfl Z13 s17 Try.underlying25 rfl Z6) ?_; with_reducible rfl) | (refine Eq.trans (Pre.load_run (ty := 25) rfl Z13 s18 Try.underlying25 rfl Z6) ?_; with_reducible rfl) | (refine Eq.trans (Pre.load_run (ty := 25) rfl Z13 s19 Try.underlying25 rfl Z6) ?_; with_reducible rfl) | (refine Eq.trans (Pre.load_run (ty := 25) rfl Z13 s20 Try.underlying25 rfl Z6) ?_; with_reducible rfl) | (refine Eq.trans (Pre.load_run (ty := 25) rfl Z13 s21 Try.underlying25 rfl Z6) ?_; with_reducible rfl) | (refine Eq.trans (Pre.load_run (ty := 25) rfl Z13 s22 Try.underlying25 rfl Z6) ?_; with_reducible rfl) | (refine Eq.trans (Pre.load_run (ty := 25) rfl Z13 s23 Try.underlying25 rfl Z6) ?_; with_reducible rfl) | (refine Eq.trans (Pre.load_run (ty := 25) rfl Z13 s24 Try.underlying25 rfl Z6) ?_; with_reducible rfl) | (go_simp; with_reducible rfl)
         rotate_left
         ·simp only [Act.put, List.setIfInBounds_toArray, List.set_cons_zero, List.set_cons_succ, i64_w, i32_w]
          rfl
         refine take_ (i := 18) (N := some 33) (v := ?_) (a' := ?_) #[true, true, true, true, true, true, true, false, false, false, true, true, false, false, true, true, false, true, true, false, false, true, false, false, true, false, false, false, true, false, false, false] rfl rfl (take_ofW HT_.out HW_.out Z6) (fun _ _ _ h => h) (Or.inl ⟨Z13, ?_⟩) hHeld ?_ ?_
         rotate_left
         ·rintro w' ⟨s0, s1, s2, s3, s4, s5, s6, s7, s8, s9, s10, s11, s12, s13, s14, s15, s16, s17, s18, s19, s20, s21, s22, s23, s24⟩
          first | (refine Eq.trans (Pre.load_run (ty := 25) rfl Z13 s0 Try.underlying25 rfl Z6) ?_; with_reducible rfl) | (refine Eq.trans (Pre.load_run (ty := 25) rfl Z13 s1 Try.underlying25 rfl Z6) ?_; with_reducible rfl) | (refine Eq.trans (Pre.load_run (ty := 25) rfl Z13 s2 Try.underlying25 rfl Z6) ?_; with_reducible rfl) | (refine Eq.trans (Pre.load_run (ty := 25) rfl Z13 s3 Try.underlying25 rfl Z6) ?_; with_reducible rfl) | (refine Eq.trans (Pre.load_run (ty := 25) rfl Z13 s4 Try.underlying25 rfl Z6) ?_; with_reducible rfl) | (refine Eq.trans (Pre.load_run (ty := 25) rfl Z13 s5 Try.underlying25 rfl Z6) ?_; with_reducible rfl) | (refine Eq.trans (Pre.load_run (ty := 25) rfl Z13 s6 Try.underlying25 rfl Z6) ?_; with_reducible rfl) | (refine Eq.trans (Pre.load_run (ty := 25) rfl Z13 s7 Try.underlying25 rfl Z6) ?_; with_reducible rfl) | (refine Eq.trans (Pre.load_run (ty := 25) rfl Z13 s8 Try.underlying25 rfl Z6) ?_; with_reducible rfl) | (refine Eq.trans (Pre.load_run (ty := 25) rfl Z13 s9 Try.underlying25 rfl Z6) ?_; with_reducible rfl) | (refine Eq.trans (Pre.load_run (ty := 25) rfl Z13 s10 Try.underlying25 rfl Z6) ?_; with_reducible rfl) | (refine Eq.trans (Pre.load_run (ty := 25) rfl Z13 s11 Try.underlying25 rfl Z6) ?_; with_reducible rfl) | (refine Eq.trans (Pre.load_run (ty := 25) rfl Z13 s12 Try.underlying25 rfl Z6) ?_; with_reducible rfl) | (refine Eq.trans (Pre.load_run (ty := 25) rfl Z13 s13 Try.underlying25 rfl Z6) ?_; with_reducible rfl) | (refine Eq.trans (Pre.load_run (ty := 25) rfl Z13 s14 Try.underlying25 rfl Z6) ?_; with_reducible rfl) | (refine Eq.trans (Pre.load_run (ty := 25) rfl Z13 s15 Try.underlying25 rfl Z6) ?_; with_reducible rfl) | (refine Eq.trans (Pre.load_run (ty := 25) rfl Z13 s16 Try.underlying25 rfl Z6) ?_; with_reducible rfl) | (refine Eq.trans (Pre.load_run (ty := 25) rfl Z13 s17 Try.underlying25 rfl Z6) ?_; with_reducible rfl) | (refine Eq.trans (Pre.load_run (ty := 25) rfl Z13 s18 Try.underlying25 rfl Z6) ?_; with_reducible rfl) | (refine Eq.trans (Pre.load_run (ty := 25) rfl Z13 s19 Try.underlying25 rfl Z6) ?_; with_reducible rfl) | (refine Eq.trans (Pre.load_run (ty := 25) rfl Z13 s20 Try.underlying25 rfl Z6) ?_; with_reducible rfl) | (refine Eq.trans (Pre.load_run (ty := 25) rfl Z13 s21 Try.underlying25 rfl Z6) ?_; with_reducible rfl) | (refine Eq.trans (Pre.load_run (ty := 25) rfl Z13 s22 Try.underlying25 rfl Z6) ?_; with_reducible rfl) | (refine Eq.trans (Pre.load_run (ty := 25) rfl Z13 s23 Try.underlying25 rfl Z6) ?_; with_reducible rfl) | (refine Eq.trans (Pre.load_run (ty := 25) rfl Z13 s24 Try.underlying25 rfl Z6) ?_; with_reducible rfl) | (go_simp; with_reducible rfl)
         rotate_left
         ·simp only [Act.put, List.setIfInBounds_toArray, List.set_cons_zero, List.set_cons_succ, i64_w, i32_w]
          rfl
         refine take_ (i := 22) (N := some 37) (v := ?_) (a' := ?_) #[true, true, true, true, true, true, true, false, false, false, true, true, false, false, true, true, false, true, true, false, false, true, true, false, true, false, false, false, true, false, false, false] rfl rfl (take_ofW HT_.out HW_.out Z6) (fun _ _ _ h => h) (Or.inl ⟨Z13, ?_⟩) hHeld ?_ ?_
         rotate_left
         ·rintro w' ⟨s0, s1, s2, s3, s4, s5, s6, s7, s8, s9, s10, s11, s12, s13, s14, s15, s16, s17, s18, s19, s20, s21, s22, s23, s24⟩
          first | (refine Eq.trans (Pre.load_run (ty := 25) rfl Z13 s0 Try.underlying25 rfl Z6) ?_; with_reducible rfl) | (refine Eq.trans (Pre.load_run (ty := 25) rfl Z13 s1 Try.underlying25 rfl Z6) ?_; with_reducible rfl) | (refine Eq.trans (Pre.load_run (ty := 25) rfl Z13 s2 Try.underlying25 rfl Z6) ?_; with_reducible rfl) | (refine Eq.trans (Pre.load_run (ty := 25) rfl Z13 s3 Try.underlying25 rfl Z6) ?_; with_reducible rfl) | (refine Eq.trans (Pre.load_run (ty := 25) rfl Z13 s4 Try.underlying25 rfl Z6) ?_; with_reducible rfl) | (refine Eq.trans (Pre.load_run (ty := 25) rfl Z13 s5 Try.underlying25 rfl Z6) ?_; with_reducible rfl) | (refine Eq.trans (Pre.load_run (ty := 25) rfl Z13 s6 Try.underlying25 rfl Z6) ?_; with_reducible rfl) | (refine Eq.trans (Pre.load_run (ty := 25) rfl Z13 s7 Try.underlying25 rfl Z6) ?_; with_reducible rfl) | (refine Eq.trans (Pre.load_run (ty := 25) rfl Z13 s8 Try.underlying25 rfl Z6) ?_; with_reducible rfl) | (refine Eq.trans (Pre.load_run (ty := 25) rfl Z13 s9 Try.underlying25 rfl Z6) ?_; with_reducible rfl) | (refine Eq.trans (Pre.load_run (ty := 25) rfl Z13 s10 Try.underlying25 rfl Z6) ?_; with_reducible rfl) | (refine Eq.trans (Pre.load_run (ty := 25) rfl Z13 s11 Try.underlying25 rfl Z6) ?_; with_reducible rfl) | (refine Eq.trans (Pre.load_run (ty := 25) rfl Z13 s12 Try.underlying25 rfl Z6) ?_; with_reducible rfl) | (refine Eq.trans (Pre.load_run (ty := 25) rfl Z13 s13 Try.underlying25 rfl Z6) ?_; with_reducible rfl) | (refine Eq.trans (Pre.load_run (ty := 25) rfl Z13 s14 Try.underlying25 rfl Z6) ?_; with_reducible rfl) | (refine Eq.trans (Pre.load_run (ty := 25) rfl Z13 s15 Try.underlying25 rfl Z6) ?_; with_reducible rfl) | (refine Eq.trans (Pre.load_run (ty := 25) rfl Z13 s16 Try.underlying25 rfl Z6) ?_; with_reducible rfl) | (refine Eq.trans (Pre.load_run (ty := 25) rfl Z13 s17 Try.underlying25 rfl Z6) ?_; with_reducible rfl) | (refine Eq.trans (Pre.load_run (ty := 25) rfl Z13 s18 Try.underlying25 rfl Z6) ?_; with_reducible rfl) | (refine Eq.trans (Pre.load_run (ty := 25) rfl Z13 s19 Try.underlying25 rfl Z6) ?_; with_reducible rfl) | (refine Eq.trans (Pre.load_run (ty := 25) rfl Z13 s20 Try.underlying25 rfl Z6) ?_; with_reducible rfl) | (refine Eq.trans (Pre.load_run (ty := 25) rfl Z13 s21 Try.underlying25 rfl Z6) ?_; with_reducible rfl) | (refine Eq.trans (Pre.load_run (ty := 25) rfl Z13 s22 Try.underlying25 rfl Z6) ?_; with_reducible rfl) | (refine Eq.trans (Pre.load_run (ty := 25) rfl Z13 s23 Try.underlying25 rfl Z6) ?_; with_reducible rfl) | (refine Eq.trans (Pre.load_run (ty := 25) rfl Z13 s24 Try.underlying25 rfl Z6) ?_; with_reducible rfl) | (go_simp; with_reducible rfl)
         rotate_left
         ·simp only [Act.put, List.setIfInBounds_toArray, List.set_cons_zero, List.set_cons_succ, i64_w, i32_w]
          rfl
         refine take_ (i := 25) (N := some 40) (v := ?_) (a' := ?_) #[true, true, true, true, true, true, true, false, false, false, true, true, false, false, true, true, false, true, true, false, false, true, true, false, true, true, false, false, true, false, false, false] rfl rfl (take_ofW HT_.out HW_.out Z6) (fun _ _ _ h => h) (Or.inl ⟨Z13, ?_⟩) hHeld ?_ ?_
         rotate_left
         ·rintro w' ⟨s0, s1, s2, s3, s4, s5, s6, s7, s8, s9, s10, s11, s12, s13, s14, s15, s16, s17, s18, s19, s20, s21, s22, s23, s24⟩
          first | (refine Eq.trans (Pre.load_run (ty := 25) rfl Z13 s0 Try.underlying25 rfl Z6) ?_; with_reducible rfl) | (refine Eq.trans (Pre.load_run (ty := 25) rfl Z13 s1 Try.underlying25 rfl Z6) ?_; with_reducible rfl) | (refine Eq.trans (Pre.load_run (ty := 25) rfl Z13 s2 Try.underlying25 rfl Z6) ?_; with_reducible rfl) | (refine Eq.trans (Pre.load_run (ty := 25) rfl Z13 s3 Try.underlying25 rfl Z6) ?_; with_reducible rfl) | (refine Eq.trans (Pre.load_run (ty := 25) rfl Z13 s4 Try.underlying25 rfl Z6) ?_; with_reducible rfl) | (refine Eq.trans (Pre.load_run (ty := 25) rfl Z13 s5 Try.underlying25 rfl Z6) ?_; with_reducible rfl) | (refine Eq.trans (Pre.load_run (ty := 25) rfl Z13 s6 Try.underlying25 rfl Z6) ?_; with_reducible rfl) | (refine Eq.trans (Pre.load_run (ty := 25) rfl Z13 s7 Try.underlying25 rfl Z6) ?_; with_reducible rfl) | (refine Eq.trans (Pre.load_run (ty := 25) rfl Z13 s8 Try.underlying25 rfl Z6) ?_; with_reducible rfl) | (refine Eq.trans (Pre.load_run (ty := 25) rfl Z13 s9 Try.underlying25 rfl Z6) ?_; with_reducible rfl) | (refine Eq.trans (Pre.load_run (ty := 25) rfl Z13 s10 Try.underlying25 rfl Z6) ?_; with_reducible rfl) | (refine Eq.trans (Pre.load_run (ty := 25) rfl Z13 s11 Try.underlying25 rfl Z6) ?_; with_reducible rfl) | (refine Eq.trans (Pre.load_run (ty := 25) rfl Z13 s12 Try.underlying25 rfl Z6) ?_; with_reducible rfl) | (refine Eq.trans (Pre.load_run (ty := 25) rfl Z13 s13 Try.underlying25 rfl Z6) ?_; with_reducible rfl) | (refine Eq.trans (Pre.load_run (ty := 25) rfl Z13 s14 Try.underlying25 rfl Z6) ?_; with_reducible rfl) | (refine Eq.trans (Pre.load_run (ty := 25) rfl Z13 s15 Try.underlying25 rfl Z6) ?_; with_reducible rfl) | (refine Eq.trans (Pre.load_run (ty := 25) rfl Z13 s16 Try.underlying25 rfl Z6) ?_; with_reducible rfl) | (refine Eq.trans (Pre.load_run (ty := 25) rfl Z13 s17 Try.underlying25 rfl Z6) ?_; with_reducible rfl) | (refine Eq.trans (Pre.load_run (ty := 25) rfl Z13 s18 Try.underlying25 rfl Z6) ?_; with_reducible rfl) | (refine Eq.trans (Pre.load_run (ty := 25) rfl Z13 s19 Try.underlying25 rfl Z6) ?_; with_reducible rfl) | (refine Eq.trans (Pre.load_run (ty := 25) rfl Z13 s20 Try.underlying25 rfl Z6) ?_; with_reducible rfl) | (refine Eq.trans (Pre.load_run (ty := 25) rfl Z13 s21 Try.underlying25 rfl Z6) ?_; with_reducible rfl) | (refine Eq.trans (Pre.load_run (ty := 25) rfl Z13 s22 Try.underlying25 rfl Z6) ?_; with_reducible rfl) | (refine Eq.trans (Pre.load_run (ty := 25) rfl Z13 s23 Try.underlying25 rfl Z6) ?_; with_reducible rfl) | (refine Eq.trans (Pre.load_run (ty := 25) rfl Z13 s24 Try.underlying25 rfl Z6) ?_; with_reducible rfl) | (go_simp; with_reducible rfl)
         rotate_left
         ·simp only [Act.put, List.setIfInBounds_toArray, List.set_cons_zero, List.set_cons_succ, i64_w, i32_w]
          rfl
         refine join_ (σ := Value) 4 #[true, true, true, true, true, true, true, true, true, true, true, true, true, true, true, true, true, true, true, true, true, true, true, true, true, true, true, false, true, false, false, false] (fun s_ => [(22, s_), (23, .string (strOfNums bb)), (27, .string aQ), (34, .string aV), (41, .string bi), (24, .string ((⟨#[1]⟩ : ByteArray) ++ (strOfNums bb))), (28, .string (((⟨#[1]⟩ : ByteArray) ++ (strOfNums bb)) ++ aQ)), (31, .string ((((⟨#[1]⟩ : ByteArray) ++ (strOfNums bb)) ++ aQ) ++ ac)), (35, .string (((((⟨#[1]⟩ : ByteArray) ++ (strOfNums bb)) ++ aQ) ++ ac) ++ aV)), (38, .string ((((((⟨#[1]⟩ : ByteArray) ++ (strOfNums bb)) ++ aQ) ++ ac) ++ aV) ++ af))]) (fun s_ w' => (w'.cell? ⟨aa, 0, none⟩ = some (.int .i64 av) ∧ w'.cell? ⟨aa, 1, none⟩ = some (.int .i64 au) ∧ w'.cell? ⟨aa, 2, none⟩ = some (.int .i64 aw) ∧ w'.cell? ⟨aa, 3, none⟩ = some (.string ay) ∧ w'.cell? ⟨aa, 4, none⟩ = some (.int .i64 aD) ∧ w'.cell? ⟨aa, 5, none⟩ = some (.int .i64 az) ∧ w'.cell? ⟨aa, 6, none⟩ = some (.string aA) ∧ w'.cell? ⟨aa, 7, none⟩ = some (.int .i64 ax) ∧ w'.cell? ⟨aa, 8, none⟩ = some (.int .i64 aE) ∧ w'.cell? ⟨aa, 9, none⟩ = some (.string aC) ∧ w'.cell? ⟨aa, 10, none⟩ = some (.int .i64 ap) ∧ w'.cell? ⟨aa, 11, none⟩ = some (.string an) ∧ w'.cell? ⟨aa, 12, none⟩ = some (.int .i64 aj) ∧ w'.cell? ⟨aa, 13, none⟩ = some (.int .i64 am) ∧ w'.cell? ⟨aa, 14, none⟩ = some (.int .i64 ak) ∧ w'.cell? ⟨aa, 15, none⟩ = some (.int .i64 ah) ∧ w'.cell? ⟨aa, 16, none⟩ = some (.int .i64 ai) ∧ w'.cell? ⟨aa, 17, none⟩ = some (.int .i64 al) ∧ w'.cell? ⟨aa, 18, none⟩ = some (.int .i64 ao) ∧ w'.cell? ⟨aa, 19, none⟩ = some (.string ac) ∧ w'.cell? ⟨aa, 20, none⟩ = some (.string af) ∧ w'.cell? ⟨aa, 21, none⟩ = some (.slice aT ae.length aN) ∧ w'.cell? ⟨aa, 22, none⟩ = some (.int .i64 aq) ∧ w'.cell? ⟨aa, 23, none⟩ = some (.string ar) ∧ w'.cell? ⟨aa, 24, none⟩ = some (.slice aJ ag.length aK)) ∧ (Kd.R (Kd.int .u8) 5 w' w.heap.size (fun _ => True) s_ bb) ∧ (w'.heap[aa]? = some (.cells #[.int .i64 av, .int .i64 au, .int .i64 aw, .string ay, .int .i64 aD, .int .i64 az, .string aA, .int .i64 ax, .int .i64 aE, .string aC, .int .i64 ap, .string an, .int .i64 aj, .int .i64 am, .int .i64 ak, .int .i64 ah, .int .i64 ai, .int .i64 al, .int .i64 ao, .string ac, .string af, .slice aT ae.length aN, .int .i64 aq, .string ar, .slice aJ ag.length aK] 25 (0, 0))) ∧ (Below w.heap.size w w')) ?_ ?_
         rotate_left
         ·intro hJ7_8_12_19_26
          refine join_ (σ := Value) 5 #[true, true, true, true, true, true, true, true, true, true, true, true, true, true, true, true, true, true, true, true, true, true, true, true, true, true, false, false, true, false, false, false] (fun s_ => [(22, s_), (23, .string (strOfNums bb)), (27, .string aQ), (34, .string aV), (24, .string ((⟨#[1]⟩ : ByteArray) ++ (strOfNums bb))), (28, .string (((⟨#[1]⟩ : ByteArray) ++ (strOfNums bb)) ++ aQ)), (31, .string ((((⟨#[1]⟩ : ByteArray) ++ (strOfNums bb)) ++ aQ) ++ ac)), (35, .string (((((⟨#[1]⟩ : ByteArray) ++ (strOfNums bb)) ++ aQ) ++ ac) ++ aV)), (38, .string ((((((⟨#[1]⟩ : ByteArray) ++ (strOfNums bb)) ++ aQ) ++ ac) ++ aV) ++ af))]) (fun s_ w' => (w'.cell? ⟨aa, 0, none⟩ = some (.int .i64 av) ∧ w'.cell? ⟨aa, 1, none⟩ = some (.int .i64 au) ∧ w'.cell? ⟨aa, 2, none⟩ = some (.int .i64 aw) ∧ w'.cell? ⟨aa, 3, none⟩ = some (.string ay) ∧ w'.cell? ⟨aa, 4, none⟩ = some (.int .i64 aD) ∧ w'.cell? ⟨aa, 5, none⟩ = some (.int .i64 az) ∧ w'.cell? ⟨aa, 6, none⟩ = some (.string aA) ∧ w'.cell? ⟨aa, 7, none⟩ = some (.int .i64 ax) ∧ w'.cell? ⟨aa, 8, none⟩ = some (.int .i64 aE) ∧ w'.cell? ⟨aa, 9, none⟩ = some (.string aC) ∧ w'.cell? ⟨aa, 10, none⟩ = some (.int .i64 ap) ∧ w'.cell? ⟨aa, 11, none⟩ = some (.string an) ∧ w'.cell? ⟨aa, 12, none⟩ = some (.int .i64 aj) ∧ w'.cell? ⟨aa, 13, none⟩ = some (.int .i64 am) ∧ w'.cell? ⟨aa, 14, none⟩ = some (.int .i64 ak) ∧ w'.cell? ⟨aa, 15, none⟩ = some (.int .i64 ah) ∧ w'.cell? ⟨aa, 16, none⟩ = some (.int .i64 ai) ∧ w'.cell? ⟨aa, 17, none⟩ = some (.int .i64 al) ∧ w'.cell? ⟨aa, 18, none⟩ = some (.int .i64 ao) ∧ w'.cell? ⟨aa, 19, none⟩ = some (.string ac) ∧ w'.cell? ⟨aa, 20, none⟩ = some (.string af) ∧ w'.cell? ⟨aa, 21, none⟩ = some (.slice aT ae.length aN) ∧ w'.cell? ⟨aa, 22, none⟩ = some (.int .i64 aq) ∧ w'.cell? ⟨aa, 23, none⟩ = some (.string ar) ∧ w'.cell? ⟨aa, 24, none⟩ = some (.slice aJ ag.length aK)) ∧ (Kd.R (Kd.int .u8) 5 w' w.heap.size (fun _ => True) s_ bb) ∧ (w'.heap[aa]? = some (.cells #[.int .i64 av, .int .i64 au, .int .i64 aw, .string ay, .int .i64 aD, .int .i64 az, .string aA, .int .i64 ax, .int .i64 aE, .string aC, .int .i64 ap, .string an, .int .i64 aj, .int .i64 am, .int .i64 ak, .int .i64 ah, .int .i64 ai, .int .i64 al, .int .i64 ao, .string ac, .string af, .slice aT ae.length aN, .int .i64 aq, .string ar, .slice aJ ag.length aK] 25 (0, 0))) ∧ (Below w.heap.size w w')) ?_ ?_
          rotate_left
          ·intro hJ7_8_12_19
           refine join_ (σ := Value) 10 #[true, true, true, true, true, true, true, true, false, false, true, true, true, false, true, true, false, true, true, true, false, true, true, false, true, true, true, false, true, false, false, false] (fun s_ => [(22, s_), (27, .string aQ), (34, .string aV), (41, .string bi)]) (fun s_ w' => (w'.cell? ⟨aa, 0, none⟩ = some (.int .i64 av) ∧ w'.cell? ⟨aa, 1, none⟩ = some (.int .i64 au) ∧ w'.cell? ⟨aa, 2, none⟩ = some (.int .i64 aw) ∧ w'.cell? ⟨aa, 3, none⟩ = some (.string ay) ∧ w'.cell? ⟨aa, 4, none⟩ = some (.int .i64 aD) ∧ w'.cell? ⟨aa, 5, none⟩ = some (.int .i64 az) ∧ w'.cell? ⟨aa, 6, none⟩ = some (.string aA) ∧ w'.cell? ⟨aa, 7, none⟩ = some (.int .i64 ax) ∧ w'.cell? ⟨aa, 8, none⟩ = some (.int .i64 aE) ∧ w'.cell? ⟨aa, 9, none⟩ = some (.string aC) ∧ w'.cell? ⟨aa, 10, none⟩ = some (.int .i64 ap) ∧ w'.cell? ⟨aa, 11, none⟩ = some (.string an) ∧ w'.cell? ⟨aa, 12, none⟩ = some (.int .i64 aj) ∧ w'.cell? ⟨aa, 13, none⟩ = some (.int .i64 am) ∧ w'.cell? ⟨aa, 14, none⟩ = some (.int .i64 ak) ∧ w'.cell? ⟨aa, 15, none⟩ = some (.int .i64 ah) ∧ w'.cell? ⟨aa, 16, none⟩ = some (.int .i64 ai) ∧ w'.cell? ⟨aa, 17, none⟩ = some (.int .i64 al) ∧ w'.cell? ⟨aa, 18, none⟩ = some (.int .i64 ao) ∧ w'.cell? ⟨aa, 19, none⟩ = some (.string ac) ∧ w'.cell? ⟨aa, 20, none⟩ = some (.string af) ∧ w'.cell? ⟨aa, 21, none⟩ = some (.slice aT ae.length aN) ∧ w'.cell? ⟨aa, 22, none⟩ = some (.int .i64 aq) ∧ w'.cell? ⟨aa, 23, none⟩ = some (.string ar) ∧ w'.cell? ⟨aa, 24, none⟩ = some (.slice aJ ag.length aK)) ∧ (Kd.R (Kd.int .u8) 5 w' w.heap.size (fun _ => True) s_ bb) ∧ (w'.heap[aa]? = some (.cells #[.int .i64 av, .int .i64 au, .int .i64 aw, .string ay, .int .i64 aD, .int .i64 az, .string aA, .int .i64 ax, .int .i64 aE, .string aC, .int .i64 ap, .string an, .int .i64 aj, .int .i64 am, .int .i64 ak, .int .i64 ah, .int .i64 ai, .int .i64 al, .int .i64 ao, .string ac, .string af, .slice aT ae.length aN, .int .i64 aq, .string ar, .slice aJ ag.length aK] 25 (0, 0))) ∧ (Below w.heap.size w w')) ?_ ?_
           rotate_left
           ·intro hJ7_12_19_26
            refine join_ (σ := Value) 8 #[true, true, true, true, true, true, true, true, true, true, true, true, true, true, true, true, true, true, true, false, false, true, true, false, true, true, false, false, true, false, false, false] (fun s_ => [(22, s_), (23, .string (strOfNums bb)), (27, .string aQ), (24, .string ((⟨#[1]⟩ : ByteArray) ++ (strOfNums bb))), (28, .string (((⟨#[1]⟩ : ByteArray) ++ (strOfNums bb)) ++ aQ)), (31, .string ((((⟨#[1]⟩ : ByteArray) ++ (strOfNums bb)) ++ aQ) ++ ac))]) (fun s_ w' => (w'.cell? ⟨aa, 0, none⟩ = some (.int .i64 av) ∧ w'.cell? ⟨aa, 1, none⟩ = some (.int .i64 au) ∧ w'.cell? ⟨aa, 2, none⟩ = some (.int .i64 aw) ∧ w'.cell? ⟨aa, 3, none⟩ = some (.string ay) ∧ w'.cell? ⟨aa, 4, none⟩ = some (.int .i64 aD) ∧ w'.cell? ⟨aa, 5, none⟩ = some (.int .i64 az) ∧ w'.cell? ⟨aa, 6, none⟩ = some (.string aA) ∧ w'.cell? ⟨aa, 7, none⟩ = some (.int .i64 ax) ∧ w'.cell? ⟨aa, 8, none⟩ = some (.int .i64 aE) ∧ w'.cell? ⟨aa, 9, none⟩ = some (.string aC) ∧ w'.cell? ⟨aa, 10, none⟩ = some (.int .i64 ap) ∧ w'.cell? ⟨aa, 11, none⟩ = some (.string an) ∧ w'.cell? ⟨aa, 12, none⟩ = some (.int .i64 aj) ∧ w'.cell? ⟨aa, 13, none⟩ = some (.int .i64 am) ∧ w'.cell? ⟨aa, 14, none⟩ = some (.int .i64 ak) ∧ w'.cell? ⟨aa, 15, none⟩ = some (.int .i64 ah) ∧ w'.cell? ⟨aa, 16, none⟩ = some (.int .i64 ai) ∧ w'.cell? ⟨aa, 17, none⟩ = some (.int .i64 al) ∧ w'.cell? ⟨aa, 18, none⟩ = some (.int .i64 ao) ∧ w'.cell? ⟨aa, 19, none⟩ = some (.string ac) ∧ w'.cell? ⟨aa, 20, none⟩ = some (.string af) ∧ w'.cell? ⟨aa, 21, none⟩ = some (.slice aT ae.length aN) ∧ w'.cell? ⟨aa, 22, none⟩ = some (.int .i64 aq) ∧ w'.cell? ⟨aa, 23, none⟩ = some (.string ar) ∧ w'.cell? ⟨aa, 24, none⟩ = some (.slice aJ ag.length aK)) ∧ (Kd.R (Kd.int .u8) 5 w' w.heap.size (fun _ => True) s_ bb) ∧ (w'.heap[aa]? = some (.cells #[.int .i64 av, .int .i64 au, .int .i64 aw, .string ay, .int .i64 aD, .int .i64 az, .string aA, .int .i64 ax, .int .i64 aE, .string aC, .int .i64 ap, .string an, .int .i64 aj, .int .i64 am, .int .i64 ak, .int .i64 ah, .int .i64 ai, .int .i64 al, .int .i64 ao, .string ac, .string af, .slice aT ae.length aN, .int .i64 aq, .string ar, .slice aJ ag.length aK] 25 (0, 0))) ∧ (Below w.heap.size w w')) ?_ ?_
            rotate_left
            ·intro hJ7_8_12
             refine join_ (σ := Value) 11 #[true, true, true, true, true, true, true, true, false, false, true, true, true, false, true, true, false, true, true, true, false, true, true, false, true, true, false, false, true, false, false, false] (fun s_ => [(22, s_), (27, .string aQ), (34, .string aV)]) (fun s_ w' => (w'.cell? ⟨aa, 0, none⟩ = some (.int .i64 av) ∧ w'.cell? ⟨aa, 1, none⟩ = some (.int .i64 au) ∧ w'.cell? ⟨aa, 2, none⟩ = some (.int .i64 aw) ∧ w'.cell? ⟨aa, 3, none⟩ = some (.string ay) ∧ w'.cell? ⟨aa, 4, none⟩ = some (.int .i64 aD) ∧ w'.cell? ⟨aa, 5, none⟩ = some (.int .i64 az) ∧ w'.cell? ⟨aa, 6, none⟩ = some (.string aA) ∧ w'.cell? ⟨aa, 7, none⟩ = some (.int .i64 ax) ∧ w'.cell? ⟨aa, 8, none⟩ = some (.int .i64 aE) ∧ w'.cell? ⟨aa, 9, none⟩ = some (.string aC) ∧ w'.cell? ⟨aa, 10, none⟩ = some (.int .i64 ap) ∧ w'.cell? ⟨aa, 11, none⟩ = some (.string an) ∧ w'.cell? ⟨aa, 12, none⟩ = some (.int .i64 aj) ∧ w'.cell? ⟨aa, 13, none⟩ = some (.int .i64 am) ∧ w'.cell? ⟨aa, 14, none⟩ = some (.int .i64 ak) ∧ w'.cell? ⟨aa, 15, none⟩ = some (.int .i64 ah) ∧ w'.cell? ⟨aa, 16, none⟩ = some (.int .i64 ai) ∧ w'.cell? ⟨aa, 17, none⟩ = some (.int .i64 al) ∧ w'.cell? ⟨aa, 18, none⟩ = some (.int .i64 ao) ∧ w'.cell? ⟨aa, 19, none⟩ = some (.string ac) ∧ w'.cell? ⟨aa, 20, none⟩ = some (.string af) ∧ w'.cell? ⟨aa, 21, none⟩ = some (.slice aT ae.length aN) ∧ w'.cell? ⟨aa, 22, none⟩ = some (.int .i64 aq) ∧ w'.cell? ⟨aa, 23, none⟩ = some (.string ar) ∧ w'.cell? ⟨aa, 24, none⟩ = some (.slice aJ ag.length aK)) ∧ (Kd.R (Kd.int .u8) 5 w' w.heap.size (fun _ => True) s_ bb) ∧ (w'.heap[aa]? = some (.cells #[.int .i64 av, .int .i64 au, .int .i64 aw, .string ay, .int .i64 aD, .int .i64 az, .string aA, .int .i64 ax, .int .i64 aE, .string aC, .int .i64 ap, .string an, .int .i64 aj, .int .i64 am, .int .i64 ak, .int .i64 ah, .int .i64 ai, .int .i64 al, .int .i64 ao, .string ac, .string af, .slice aT ae.length aN, .int .i64 aq, .string ar, .slice aJ ag.length aK] 25 (0, 0))) ∧ (Below w.heap.size w w')) ?_ ?_
             rotate_left
             ·intro hJ7_12_19
              refine join_ (σ := Unit) 11 #[true, true, true, true, true, true, true, false, false, false, true, true, true, false, true, true, false, true, true, true, false, true, true, false, true, true, true, false, true, false, false, false] (fun s_ => [(27, .string aQ), (34, .string aV), (41, .string bi)]) (fun s_ w' => (w'.cell? ⟨aa, 0, none⟩ = some (.int .i64 av) ∧ w'.cell? ⟨aa, 1, none⟩ = some (.int .i64 au) ∧ w'.cell? ⟨aa, 2, none⟩ = some (.int .i64 aw) ∧ w'.cell? ⟨aa, 3, none⟩ = some (.string ay) ∧ w'.cell? ⟨aa, 4, none⟩ = some (.int .i64 aD) ∧ w'.cell? ⟨aa, 5, none⟩ = some (.int .i64 az) ∧ w'.cell? ⟨aa, 6, none⟩ = some (.string aA) ∧ w'.cell? ⟨aa, 7, none⟩ = some (.int .i64 ax) ∧ w'.cell? ⟨aa, 8, none⟩ = some (.int .i64 aE) ∧ w'.cell? ⟨aa, 9, none⟩ = some (.string aC) ∧ w'.cell? ⟨aa, 10, none⟩ = some (.int .i64 ap) ∧ w'.cell? ⟨aa, 11, none⟩ = some (.string an) ∧ w'.cell? ⟨aa, 12, none⟩ = some (.int .i64 aj) ∧ w'.cell? ⟨aa, 13, none⟩ = some (.int .i64 am) ∧ w'.cell? ⟨aa, 14, none⟩ = some (.int .i64 ak) ∧ w'.cell? ⟨aa, 15, none⟩ = some (.int .i64 ah) ∧ w'.cell? ⟨aa, 16, none⟩ = some (.int .i64 ai) ∧ w'.cell? ⟨aa, 17, none⟩ = some (.int .i64 al) ∧ w'.cell? ⟨aa, 18, none⟩ = some (.int .i64 ao) ∧ w'.cell? ⟨aa, 19, none⟩ = some (.string ac) ∧ w'.cell? ⟨aa, 20, none⟩ = some (.string af) ∧ w'.cell? ⟨aa, 21, none⟩ = some (.slice aT ae.length aN) ∧ w'.cell? ⟨aa, 22, none⟩ = some (.int .i64 aq) ∧ w'.cell? ⟨aa, 23, none⟩ = some (.string ar) ∧ w'.cell? ⟨aa, 24, none⟩ = some (.slice aJ ag.length aK)) ∧ (w'.heap[aa]? = some (.cells #[.int .i64 av, .int .i64 au, .int .i64 aw, .string ay, .int .i64 aD, .int .i64 az, .string aA, .int .i64 ax, .int .i64 aE, .string aC, .int .i64 ap, .string an, .int .i64 aj, .int .i64 am, .int .i64 ak, .int .i64 ah, .int .i64 ai, .int .i64 al, .int .i64 ao, .string ac, .string af, .slice aT ae.length aN, .int .i64 aq, .string ar, .slice aJ ag.length aK] 25 (0, 0))) ∧ (Below w.heap.size w w')) ?_ ?_
              rotate_left
              ·intro hJ12_19_26
               refine join_ (σ := Value) 11 #[true, true, true, true, true, true, true, true, true, true, true, true, false, false, true, true, false, true, true, false, false, true, true, false, true, true, false, false, true, false, false, false] (fun s_ => [(22, s_), (23, .string (strOfNums bb)), (24, .string ((⟨#[1]⟩ : ByteArray) ++ (strOfNums bb)))]) (fun s_ w' => (w'.cell? ⟨aa, 0, none⟩ = some (.int .i64 av) ∧ w'.cell? ⟨aa, 1, none⟩ = some (.int .i64 au) ∧ w'.cell? ⟨aa, 2, none⟩ = some (.int .i64 aw) ∧ w'.cell? ⟨aa, 3, none⟩ = some (.string ay) ∧ w'.cell? ⟨aa, 4, none⟩ = some (.int .i64 aD) ∧ w'.cell? ⟨aa, 5, none⟩ = some (.int .i64 az) ∧ w'.cell? ⟨aa, 6, none⟩ = some (.string aA) ∧ w'.cell? ⟨aa, 7, none⟩ = some (.int .i64 ax) ∧ w'.cell? ⟨aa, 8, none⟩ = some (.int .i64 aE) ∧ w'.cell? ⟨aa, 9, none⟩ = some (.string aC) ∧ w'.cell? ⟨aa, 10, none⟩ = some (.int .i64 ap) ∧ w'.cell? ⟨aa, 11, none⟩ = some (.string an) ∧ w'.cell? ⟨aa, 12, none⟩ = some (.int .i64 aj) ∧ w'.cell? ⟨aa, 13, none⟩ = some (.int .i64 am) ∧ w'.cell? ⟨aa, 14, none⟩ = some (.int .i64 ak) ∧ w'.cell? ⟨aa, 15, none⟩ = some (.int .i64 ah) ∧ w'.cell? ⟨aa, 16, none⟩ = some (.int .i64 ai) ∧ w'.cell? ⟨aa, 17, none⟩ = some (.int .i64 al) ∧ w'.cell? ⟨aa, 18, none⟩ = some (.int .i64 ao) ∧ w'.cell? ⟨aa, 19, none⟩ = some (.string ac) ∧ w'.cell? ⟨aa, 20, none⟩ = some (.string af) ∧ w'.cell? ⟨aa, 21, none⟩ = some (.slice aT ae.length aN) ∧ w'.cell? ⟨aa, 22, none⟩ = some (.int .i64 aq) ∧ w'.cell? ⟨aa, 23, none⟩ = some (.string ar) ∧ w'.cell? ⟨aa, 24, none⟩ = some (.slice aJ ag.length aK)) ∧ (Kd.R (Kd.int .u8) 5 w' w.heap.size (fun _ => True) s_ bb) ∧ (w'.heap[aa]? = some (.cells #[.int .i64 av, .int .i64 au, .int .i64 aw, .string ay, .int .i64 aD, .int .i64 az, .string aA, .int .i64 ax, .int .i64 aE, .string aC, .int .i64 ap, .string an, .int .i64 aj, .int .i64 am, .int .i64 ak, .int .i64 ah, .int .i64 ai, .int .i64 al, .int .i64 ao, .string ac, .string af, .slice aT ae.length aN, .int .i64 aq, .string ar, .slice aJ ag.length aK] 25 (0, 0))) ∧ (Below w.heap.size w w')) ?_ ?_
               rotate_left
               ·intro hJ7_8
                refine join_ (σ := Value) 12 #[true, true, true, true, true, true, true, true, false, false, true, true, true, false, true, true, false, true, true, false, false, true, true, false, true, true, false, false, true, false, false, false] (fun s_ => [(22, s_), (27, .string aQ)]) (fun s_ w' => (w'.cell? ⟨aa, 0, none⟩ = some (.int .i64 av) ∧ w'.cell? ⟨aa, 1, none⟩ = some (.int .i64 au) ∧ w'.cell? ⟨aa, 2, none⟩ = some (.int .i64 aw) ∧ w'.cell? ⟨aa, 3, none⟩ = some (.string ay) ∧ w'.cell? ⟨aa, 4, none⟩ = some (.int .i64 aD) ∧ w'.cell? ⟨aa, 5, none⟩ = some (.int .i64 az) ∧ w'.cell? ⟨aa, 6, none⟩ = some (.string aA) ∧ w'.cell? ⟨aa, 7, none⟩ = some (.int .i64 ax) ∧ w'.cell? ⟨aa, 8, none⟩ = some (.int .i64 aE) ∧ w'.cell? ⟨aa, 9, none⟩ = some (.string aC) ∧ w'.cell? ⟨aa, 10, none⟩ = some (.int .i64 ap) ∧ w'.cell? ⟨aa, 11, none⟩ = some (.string an) ∧ w'.cell? ⟨aa, 12, none⟩ = some (.int .i64 aj) ∧ w'.cell? ⟨aa, 13, none⟩ = some (.int .i64 am) ∧ w'.cell? ⟨aa, 14, none⟩ = some (.int .i64 ak) ∧ w'.cell? ⟨aa, 15, none⟩ = some (.int .i64 ah) ∧ w'.cell? ⟨aa, 16, none⟩ = some (.int .i64 ai) ∧ w'.cell? ⟨aa, 17, none⟩ = some (.int .i64 al) ∧ w'.cell? ⟨aa, 18, none⟩ = some (.int .i64 ao) ∧ w'.cell? ⟨aa, 19, none⟩ = some (.string ac) ∧ w'.cell? ⟨aa, 20, none⟩ = some (.string af) ∧ w'.cell? ⟨aa, 21, none⟩ = some (.slice aT ae.length aN) ∧ w'.cell? ⟨aa, 22, none⟩ = some (.int .i64 aq) ∧ w'.cell? ⟨aa, 23, none⟩ = some (.string ar) ∧ w'.cell? ⟨aa, 24, none⟩ = some (.slice aJ ag.length aK)) ∧ (Kd.R (Kd.int .u8) 5 w' w.heap.size (fun _ => True) s_ bb) ∧ (w'.heap[aa]? = some (.cells #[.int .i64 av, .int .i64 au, .int .i64 aw, .string ay, .int .i64 aD, .int .i64 az, .string aA, .int .i64 ax, .int .i64 aE, .string aC, .int .i64 ap, .string an, .int .i64 aj, .int .i64 am, .int .i64 ak, .int .i64 ah, .int .i64 ai, .int .i64 al, .int .i64 ao, .string ac, .string af, .slice aT ae.length aN, .int .i64 aq, .string ar, .slice aJ ag.length aK] 25 (0, 0))) ∧ (Below w.heap.size w w')) ?_ ?_
                rotate_left
                ·intro hJ7_12
                 refine join_ (σ := Unit) 12 #[true, true, true, true, true, true, true, false, false, false, true, true, true, false, true, true, false, true, true, true, false, true, true, false, true, true, false, false, true, false, false, false] (fun s_ => [(27, .string aQ), (34, .string aV)]) (fun s_ w' => (w'.cell? ⟨aa, 0, none⟩ = some (.int .i64 av) ∧ w'.cell? ⟨aa, 1, none⟩ = some (.int .i64 au) ∧ w'.cell? ⟨aa, 2, none⟩ = some (.int .i64 aw) ∧ w'.cell? ⟨aa, 3, none⟩ = some (.string ay) ∧ w'.cell? ⟨aa, 4, none⟩ = some (.int .i64 aD) ∧ w'.cell? ⟨aa, 5, none⟩ = some (.int .i64 az) ∧ w'.cell? ⟨aa, 6, none⟩ = some (.string aA) ∧ w'.cell? ⟨aa, 7, none⟩ = some (.int .i64 ax) ∧ w'.cell? ⟨aa, 8, none⟩ = some (.int .i64 aE) ∧ w'.cell? ⟨aa, 9, none⟩ = some (.string aC) ∧ w'.cell? ⟨aa, 10, none⟩ = some (.int .i64 ap) ∧ w'.cell? ⟨aa, 11, none⟩ = some (.string an) ∧ w'.cell? ⟨aa, 12, none⟩ = some (.int .i64 aj) ∧ w'.cell? ⟨aa, 13, none⟩ = some (.int .i64 am) ∧ w'.cell? ⟨aa, 14, none⟩ = some (.int .i64 ak) ∧ w'.cell? ⟨aa, 15, none⟩ = some (.int .i64 ah) ∧ w'.cell? ⟨aa, 16, none⟩ = some (.int .i64 ai) ∧ w'.cell? ⟨aa, 17, none⟩ = some (.int .i64 al) ∧ w'.cell? ⟨aa, 18, none⟩ = some (.int .i64 ao) ∧ w'.cell? ⟨aa, 19, none⟩ = some (.string ac) ∧ w'.cell? ⟨aa, 20, none⟩ = some (.string af) ∧ w'.cell? ⟨aa, 21, none⟩ = some (.slice aT ae.length aN) ∧ w'.cell? ⟨aa, 22, none⟩ = some (.int .i64 aq) ∧ w'.cell? ⟨aa, 23, none⟩ = some (.string ar) ∧ w'.cell? ⟨aa, 24, none⟩ = some (.slice aJ ag.length aK)) ∧ (w'.heap[aa]? = some (.cells #[.int .i64 av, .int .i64 au, .int .i64 aw, .string ay, .int .i64 aD, .int .i64 az, .string aA, .int .i64 ax, .int .i64 aE, .string aC, .int .i64 ap, .string an, .int .i64 aj, .int .i64 am, .int .i64 ak, .int .i64 ah, .int .i64 ai, .int .i64 al, .int .i64 ao, .string ac, .string af, .slice aT ae.length aN, .int .i64 aq, .string ar, .slice aJ ag.length aK] 25 (0, 0))) ∧ (Below w.heap.size w w')) ?_ ?_
                 rotate_left
                 ·intro hJ12_19
                  refine join_ (σ := Value) 13 #[true, true, true, true, true, true, true, true, false, false, true, true, false, false, true, true, false, true, true, false, false, true, true, false, true, true, false, false, true, false, false, false] (fun s_ => [(22, s_)]) (fun s_ w' => (w'.cell? ⟨aa, 0, none⟩ = some (.int .i64 av) ∧ w'.cell? ⟨aa, 1, none⟩ = some (.int .i64 au) ∧ w'.cell? ⟨aa, 2, none⟩ = some (.int .i64 aw) ∧ w'.cell? ⟨aa, 3, none⟩ = some (.string ay) ∧ w'.cell? ⟨aa, 4, none⟩ = some (.int .i64 aD) ∧ w'.cell? ⟨aa, 5, none⟩ = some (.int .i64 az) ∧ w'.cell? ⟨aa, 6, none⟩ = some (.string aA) ∧ w'.cell? ⟨aa, 7, none⟩ = some (.int .i64 ax) ∧ w'.cell? ⟨aa, 8, none⟩ = some (.int .i64 aE) ∧ w'.cell? ⟨aa, 9, none⟩ = some (.string aC) ∧ w'.cell? ⟨aa, 10, none⟩ = some (.int .i64 ap) ∧ w'.cell? ⟨aa, 11, none⟩ = some (.string an) ∧ w'.cell? ⟨aa, 12, none⟩ = some (.int .i64 aj) ∧ w'.cell? ⟨aa, 13, none⟩ = some (.int .i64 am) ∧ w'.cell? ⟨aa, 14, none⟩ = some (.int .i64 ak) ∧ w'.cell? ⟨aa, 15, none⟩ = some (.int .i64 ah) ∧ w'.cell? ⟨aa, 16, none⟩ = some (.int .i64 ai) ∧ w'.cell? ⟨aa, 17, none⟩ = some (.int .i64 al) ∧ w'.cell? ⟨aa, 18, none⟩ = some (.int .i64 ao) ∧ w'.cell? ⟨aa, 19, none⟩ = some (.string ac) ∧ w'.cell? ⟨aa, 20, none⟩ = some (.string af) ∧ w'.cell? ⟨aa, 21, none⟩ = some (.slice aT ae.length aN) ∧ w'.cell? ⟨aa, 22, none⟩ = some (.int .i64 aq) ∧ w'.cell? ⟨aa, 23, none⟩ = some (.string ar) ∧ w'.cell? ⟨aa, 24, none⟩ = some (.slice aJ ag.length aK)) ∧ (Kd.R (Kd.int .u8) 5 w' w.heap.size (fun _ => True) s_ bb) ∧ (w'.heap[aa]? = some (.cells #[.int .i64 av, .int .i64 au, .int .i64 aw, .string ay, .int .i64 aD, .int .i64 az, .string aA, .int .i64 ax, .int .i64 aE, .string aC, .int .i64 ap, .string an, .int .i64 aj, .int .i64 am, .int .i64 ak, .int .i64 ah, .int .i64 ai, .int .i64 al, .int .i64 ao, .string ac, .string af, .slice aT ae.length aN, .int .i64 aq, .string ar, .slice aJ ag.length aK] 25 (0, 0))) ∧ (Below w.heap.size w w')) ?_ ?_
                  rotate_left
                  ·intro hJ7
                   refine join_ (σ := Unit) 13 #[true, true, true, true, true, true, true, false, false, false, true, true, true, false, true, true, false, true, true, false, false, true, true, false, true, true, false, false, true, false, false, false] (fun s_ => [(27, .string aQ)]) (fun s_ w' => (w'.cell? ⟨aa, 0, none⟩ = some (.int .i64 av) ∧ w'.cell? ⟨aa, 1, none⟩ = some (.int .i64 au) ∧ w'.cell? ⟨aa, 2, none⟩ = some (.int .i64 aw) ∧ w'.cell? ⟨aa, 3, none⟩ = some (.string ay) ∧ w'.cell? ⟨aa, 4, none⟩ = some (.int .i64 aD) ∧ w'.cell? ⟨aa, 5, none⟩ = some (.int .i64 az) ∧ w'.cell? ⟨aa, 6, none⟩ = some (.string aA) ∧ w'.cell? ⟨aa, 7, none⟩ = some (.int .i64 ax) ∧ w'.cell? ⟨aa, 8, none⟩ = some (.int .i64 aE) ∧ w'.cell? ⟨aa, 9, none⟩ = some (.string aC) ∧ w'.cell? ⟨aa, 10, none⟩ = some (.int .i64 ap) ∧ w'.cell? ⟨aa, 11, none⟩ = some (.string an) ∧ w'.cell? ⟨aa, 12, none⟩ = some (.int .i64 aj) ∧ w'.cell? ⟨aa, 13, none⟩ = some (.int .i64 am) ∧ w'.cell? ⟨aa, 14, none⟩ = some (.int .i64 ak) ∧ w'.cell? ⟨aa, 15, none⟩ = some (.int .i64 ah) ∧ w'.cell? ⟨aa, 16, none⟩ = some (.int .i64 ai) ∧ w'.cell? ⟨aa, 17, none⟩ = some (.int .i64 al) ∧ w'.cell? ⟨aa, 18, none⟩ = some (.int .i64 ao) ∧ w'.cell? ⟨aa, 19, none⟩ = some (.string ac) ∧ w'.cell? ⟨aa, 20, none⟩ = some (.string af) ∧ w'.cell? ⟨aa, 21, none⟩ = some (.slice aT ae.length aN) ∧ w'.cell? ⟨aa, 22, none⟩ = some (.int .i64 aq) ∧ w'.cell? ⟨aa, 23, none⟩ = some (.string ar) ∧ w'.cell? ⟨aa, 24, none⟩ = some (.slice aJ ag.length aK)) ∧ (w'.heap[aa]? = some (.cells #[.int .i64 av, .int .i64 au, .int .i64 aw, .string ay, .int .i64 aD, .int .i64 az, .string aA, .int .i64 ax, .int .i64 aE, .string aC, .int .i64 ap, .string an, .int .i64 aj, .int .i64 am, .int .i64 ak, .int .i64 ah, .int .i64 ai, .int .i64 al, .int .i64 ao, .string ac, .string af, .slice aT ae.length aN, .int .i64 aq, .string ar, .slice aJ ag.length aK] 25 (0, 0))) ∧ (Below w.heap.size w w')) ?_ ?_
                   rotate_left
                   ·intro hJ12
                    refine two_ (i := 7) (j := 12) (Ni := some 22) (Nj := some 27) #[true, true, true, true, true, true, true, true, false, false, true, true, false, false, true, true, false, true, true, false, false, true, true, false, true, true, false, false, true, false, false, false] #[true, true, true, true, true, true, true, false, false, false, true, true, true, false, true, true, false, true, true, false, false, true, true, false, true, true, false, false, true, false, false, false] rfl rfl rfl rfl (two_of HT_.out Z6) Z32 Z32 (fun K hK => ?_) (fun K hK => ?_)
                    ·skip
                     refine Kd.R_lit_step (Kd.int .u8) _ 5 ?hg (N := 22) ?hd (xs := ([(wrap64 (8 * ah)) % 256, 0, (ai) % 256] : List Int)) (inner := [.int .u8 ((wrap64 (8 * ah)) % 256), .int .u8 0, .int .u8 ((ai) % 256)]) (ok := fun _ => True) (okp := fun _ => True) ?hr ?hp (fun _ hk => hk) trivial (Below.refl _ _) (Nat.le_refl _) Z73 ?_; (case hd => rfl); (case hg => rfl); (case hr => first | (go_simp; done) | (go_simp; rfl)); (case hp => exact (Reps.one (show Kd.M (Kd.int .u8) _ _ _ ((wrap64 (8 * ah)) % 256) [.int .u8 ((wrap64 (8 * ah)) % 256)] from rfl) (Reps.one (show Kd.M (Kd.int .u8) _ _ _ 0 [.int .u8 0] from rfl) (Reps.one (show Kd.M (Kd.int .u8) _ _ _ ((ai) % 256) [.int .u8 ((ai) % 256)] from rfl) (Reps.none _ _)))))
                     intro dJ mi ho22 hb hg_ hnew_
                     clear hg_ hnew_
                     (first | rw [← Ny105.out] at ho22 | (simp only [Int.reduceToNat] at ho22; rw [← Ny105.out] at ho22))
                     have aG := Aside0.mk (Kd.R_lower ho22 (below_size Z0))
                     have aH := Aside0.mk (blk_below (g := aa) Z1 hb)
                     have aI := Aside0.mk (below_step Z0 hb)
                     clear ab
                     clear HB
                     have cC := aG
                     have ab := aH
                     have HB := aI
                     clear aG aH aI
                     clear hb ho22
                     refine hK.out _ _ ⟨(blk_cell ab.out 0).trans rfl, (blk_cell ab.out 1).trans rfl, (blk_cell ab.out 2).trans rfl, (blk_cell ab.out 3).trans rfl, (blk_cell ab.out 4).trans rfl, (blk_cell ab.out 5).trans rfl, (blk_cell ab.out 6).trans rfl, (blk_cell ab.out 7).trans rfl, (blk_cell ab.out 8).trans rfl, (blk_cell ab.out 9).trans rfl, (blk_cell ab.out 10).trans rfl, (blk_cell ab.out 11).trans rfl, (blk_cell ab.out 12).trans rfl, (blk_cell ab.out 13).trans rfl, (blk_cell ab.out 14).trans rfl, (blk_cell ab.out 15).trans rfl, (blk_cell ab.out 16).trans rfl, (blk_cell ab.out 17).trans rfl, (blk_cell ab.out 18).trans rfl, (blk_cell ab.out 19).trans rfl, (blk_cell ab.out 20).trans rfl, (blk_cell ab.out 21).trans rfl, (blk_cell ab.out 22).trans rfl, (blk_cell ab.out 23).trans rfl, (blk_cell ab.out 24).trans rfl⟩ (fun hHeld => ?_)
                     clear hK K
                     refine norm_ (a' := ?_) ?_ ?_
                     rotate_left
                     ·show Act.put _ (some 22) _ = _
                      simp only [Act.put, List.setIfInBounds_toArray, List.set_cons_zero, List.set_cons_succ, i64_w, i32_w]
                      rfl
                     exact norm_ Z20 (hJ7 (dJ) _ ⟨hHeld, Z24, Z1, Z0⟩)
                    ·skip
                     refine goes_ Try.func52 Z6 rfl #[.int .i64 al, .int .i64 4] Z13 rfl rfl Z5 ?_
                     with_reducible refine (roadbookref02_Of.calls k al 4 aQ _ A6.out).mono ?_
                     rintro e mi ⟨rfl, hb⟩
                     refine ⟨_, rfl, ?_⟩
                     have aG := Aside0.mk (blk_below (g := aa) Z1 hb)
                     have aH := Aside0.mk (below_step Z0 hb)
                     clear ab
                     clear HB
                     have ab := aG
                     have HB := aH
                     clear aG aH
                     (try clear hb)
                     (try clear hb2)
                     (try clear hk)
                     (try clear hi)
                     refine hK.out _ _ ⟨(blk_cell ab.out 0).trans rfl, (blk_cell ab.out 1).trans rfl, (blk_cell ab.out 2).trans rfl, (blk_cell ab.out 3).trans rfl, (blk_cell ab.out 4).trans rfl, (blk_cell ab.out 5).trans rfl, (blk_cell ab.out 6).trans rfl, (blk_cell ab.out 7).trans rfl, (blk_cell ab.out 8).trans rfl, (blk_cell ab.out 9).trans rfl, (blk_cell ab.out 10).trans rfl, (blk_cell ab.out 11).trans rfl, (blk_cell ab.out 12).trans rfl, (blk_cell ab.out 13).trans rfl, (blk_cell ab.out 14).trans rfl, (blk_cell ab.out 15).trans rfl, (blk_cell ab.out 16).trans rfl, (blk_cell ab.out 17).trans rfl, (blk_cell ab.out 18).trans rfl, (blk_cell ab.out 19).trans rfl, (blk_cell ab.out 20).trans rfl, (blk_cell ab.out 21).trans rfl, (blk_cell ab.out 22).trans rfl, (blk_cell ab.out 23).trans rfl, (blk_cell ab.out 24).trans rfl⟩ (fun hHeld => ?_)
                     clear hK K
                     refine norm_ (a' := ?_) ?_ ?_
                     rotate_left
                     ·show Act.put _ (some 27) _ = _
                      simp only [Act.put, List.setIfInBounds_toArray, List.set_cons_zero, List.set_cons_succ, i64_w, i32_w]
                      rfl
                     exact norm_ Z20 (hJ12 () _ ⟨hHeld, Z1, Z0⟩)
                   ·skip
                    rintro _ ij ⟨hS_, h0_, h1_⟩
                    have aG : Aside0 (ij.heap[aa]? = some (.cells #[.int .i64 av, .int .i64 au, .int .i64 aw, .string ay, .int .i64 aD, .int .i64 az, .string aA, .int .i64 ax, .int .i64 aE, .string aC, .int .i64 ap, .string an, .int .i64 aj, .int .i64 am, .int .i64 ak, .int .i64 ah, .int .i64 ai, .int .i64 al, .int .i64 ao, .string ac, .string af, .slice aT ae.length aN, .int .i64 aq, .string ar, .slice aJ ag.length aK] 25 (0, 0))) := ⟨h0_⟩
                    have aH : Aside0 (Below w.heap.size w ij) := ⟨h1_⟩
                    clear ab
                    clear HB
                    clear h0_ h1_
                    have ab := aG
                    have HB := aH
                    clear aG aH
                    have hHeld : ij.cell? ⟨aa, 0, none⟩ = some (.int .i64 av) ∧ ij.cell? ⟨aa, 1, none⟩ = some (.int .i64 au) ∧ ij.cell? ⟨aa, 2, none⟩ = some (.int .i64 aw) ∧ ij.cell? ⟨aa, 3, none⟩ = some (.string ay) ∧ ij.cell? ⟨aa, 4, none⟩ = some (.int .i64 aD) ∧ ij.cell? ⟨aa, 5, none⟩ = some (.int .i64 az) ∧ ij.cell? ⟨aa, 6, none⟩ = some (.string aA) ∧ ij.cell? ⟨aa, 7, none⟩ = some (.int .i64 ax) ∧ ij.cell? ⟨aa, 8, none⟩ = some (.int .i64 aE) ∧ ij.cell? ⟨aa, 9, none⟩ = some (.string aC) ∧ ij.cell? ⟨aa, 10, none⟩ = some (.int .i64 ap) ∧ ij.cell? ⟨aa, 11, none⟩ = some (.string an) ∧ ij.cell? ⟨aa, 12, none⟩ = some (.int .i64 aj) ∧ ij.cell? ⟨aa, 13, none⟩ = some (.int .i64 am) ∧ ij.cell? ⟨aa, 14, none⟩ = some (.int .i64 ak) ∧ ij.cell? ⟨aa, 15, none⟩ = some (.int .i64 ah) ∧ ij.cell? ⟨aa, 16, none⟩ = some (.int .i64 ai) ∧ ij.cell? ⟨aa, 17, none⟩ = some (.int .i64 al) ∧ ij.cell? ⟨aa, 18, none⟩ = some (.int .i64 ao) ∧ ij.cell? ⟨aa, 19, none⟩ = some (.string ac) ∧ ij.cell? ⟨aa, 20, none⟩ = some (.string af) ∧ ij.cell? ⟨aa, 21, none⟩ = some (.slice aT ae.length aN) ∧ ij.cell? ⟨aa, 22, none⟩ = some (.int .i64 aq) ∧ ij.cell? ⟨aa, 23, none⟩ = some (.string ar) ∧ ij.cell? ⟨aa, 24, none⟩ = some (.slice aJ ag.length aK) := hS_
                    refine norm_ (a' := ?_) ?_ ?_
                    rotate_left
                    ·simp only [putAll, Act.put, List.setIfInBounds_toArray, List.set_cons_zero, List.set_cons_succ]
                     rfl
                    refine two_ (i := 7) (j := 19) (Ni := some 22) (Nj := some 34) #[true, true, true, true, true, true, true, true, false, false, true, true, true, false, true, true, false, true, true, false, false, true, true, false, true, true, false, false, true, false, false, false] #[true, true, true, true, true, true, true, false, false, false, true, true, true, false, true, true, false, true, true, true, false, true, true, false, true, true, false, false, true, false, false, false] rfl rfl rfl rfl (two_of HT_.out Z6) Z32 Z32 (fun K hK => ?_) (fun K hK => ?_)
                    ·skip
                     refine Kd.R_lit_step (Kd.int .u8) _ 5 ?hg (N := 22) ?hd (xs := ([(wrap64 (8 * ah)) % 256, 0, (ai) % 256] : List Int)) (inner := [.int .u8 ((wrap64 (8 * ah)) % 256), .int .u8 0, .int .u8 ((ai) % 256)]) (ok := fun _ => True) (okp := fun _ => True) ?hr ?hp (fun _ hk => hk) trivial (Below.refl _ _) (Nat.le_refl _) Z73 ?_; (case hd => rfl); (case hg => rfl); (case hr => first | (go_simp; done) | (go_simp; rfl)); (case hp => exact (Reps.one (show Kd.M (Kd.int .u8) _ _ _ ((wrap64 (8 * ah)) % 256) [.int .u8 ((wrap64 (8 * ah)) % 256)] from rfl) (Reps.one (show Kd.M (Kd.int .u8) _ _ _ 0 [.int .u8 0] from rfl) (Reps.one (show Kd.M (Kd.int .u8) _ _ _ ((ai) % 256) [.int .u8 ((ai) % 256)] from rfl) (Reps.none _ _)))))
                     intro dJ gn ho24 hb hg_ hnew_
                     clear hg_ hnew_
                     (first | rw [← Ny105.out] at ho24 | (simp only [Int.reduceToNat] at ho24; rw [← Ny105.out] at ho24))
                     have aG := Aside0.mk (Kd.R_lower ho24 (below_size Z0))
                     have aH := Aside0.mk (blk_below (g := aa) Z1 hb)
                     have aI := Aside0.mk (below_step Z0 hb)
                     clear ab
                     clear HB
                     have cC := aG
                     have ab := aH
                     have HB := aI
                     clear aG aH aI
                     clear hb ho24
                     refine hK.out _ _ ⟨(blk_cell ab.out 0).trans rfl, (blk_cell ab.out 1).trans rfl, (blk_cell ab.out 2).trans rfl, (blk_cell ab.out 3).trans rfl, (blk_cell ab.out 4).trans rfl, (blk_cell ab.out 5).trans rfl, (blk_cell ab.out 6).trans rfl, (blk_cell ab.out 7).trans rfl, (blk_cell ab.out 8).trans rfl, (blk_cell ab.out 9).trans rfl, (blk_cell ab.out 10).trans rfl, (blk_cell ab.out 11).trans rfl, (blk_cell ab.out 12).trans rfl, (blk_cell ab.out 13).trans rfl, (blk_cell ab.out 14).trans rfl, (blk_cell ab.out 15).trans rfl, (blk_cell ab.out 16).trans rfl, (blk_cell ab.out 17).trans rfl, (blk_cell ab.out 18).trans rfl, (blk_cell ab.out 19).trans rfl, (blk_cell ab.out 20).trans rfl, (blk_cell ab.out 21).trans rfl, (blk_cell ab.out 22).trans rfl, (blk_cell ab.out 23).trans rfl, (blk_cell ab.out 24).trans rfl⟩ (fun hHeld => ?_)
                     clear hK K
                     refine norm_ (a' := ?_) ?_ ?_
                     rotate_left
                     ·show Act.put _ (some 22) _ = _
                      simp only [Act.put, List.setIfInBounds_toArray, List.set_cons_zero, List.set_cons_succ, i64_w, i32_w]
                      rfl
                     exact norm_ Z20 (hJ7_12 (dJ) _ ⟨hHeld, Z24, Z1, Z0⟩)
                    ·skip
                     refine goes_ Try.func52 Z6 rfl #[.int .i64 aj, .int .i64 4] Z13 rfl rfl Z5 ?_
                     with_reducible refine (roadbookref02_Of.calls k aj 4 aV _ A9.out).mono ?_
                     rintro e gn ⟨rfl, hb⟩
                     refine ⟨_, rfl, ?_⟩
                     have aG := Aside0.mk (blk_below (g := aa) Z1 hb)
                     have aH := Aside0.mk (below_step Z0 hb)
                     clear ab
                     clear HB
                     have ab := aG
                     have HB := aH
                     clear aG aH
                     (try clear hb)
                     (try clear hb2)
                     (try clear hk)
                     (try clear hi)
                     refine hK.out _ _ ⟨(blk_cell ab.out 0).trans rfl, (blk_cell ab.out 1).trans rfl, (blk_cell ab.out 2).trans rfl, (blk_cell ab.out 3).trans rfl, (blk_cell ab.out 4).trans rfl, (blk_cell ab.out 5).trans rfl, (blk_cell ab.out 6).trans rfl, (blk_cell ab.out 7).trans rfl, (blk_cell ab.out 8).trans rfl, (blk_cell ab.out 9).trans rfl, (blk_cell ab.out 10).trans rfl, (blk_cell ab.out 11).trans rfl, (blk_cell ab.out 12).trans rfl, (blk_cell ab.out 13).trans rfl, (blk_cell ab.out 14).trans rfl, (blk_cell ab.out 15).trans rfl, (blk_cell ab.out 16).trans rfl, (blk_cell ab.out 17).trans rfl, (blk_cell ab.out 18).trans rfl, (blk_cell ab.out 19).trans rfl, (blk_cell ab.out 20).trans rfl, (blk_cell ab.out 21).trans rfl, (blk_cell ab.out 22).trans rfl, (blk_cell ab.out 23).trans rfl, (blk_cell ab.out 24).trans rfl⟩ (fun hHeld => ?_)
                     clear hK K
                     refine norm_ (a' := ?_) ?_ ?_
                     rotate_left
                     ·show Act.put _ (some 34) _ = _
                      simp only [Act.put, List.setIfInBounds_toArray, List.set_cons_zero, List.set_cons_succ, i64_w, i32_w]
                      rfl
                     exact norm_ Z20 (hJ12_19 () _ ⟨hHeld, Z1, Z0⟩)
                  ·skip
                   rintro dJ gn ⟨hS_, h0_, h1_, h2_⟩
                   have aG : Aside0 (Kd.R (Kd.int .u8) 5 gn w.heap.size (fun _ => True) dJ bb) := ⟨h0_⟩
                   have aH : Aside0 (gn.heap[aa]? = some (.cells #[.int .i64 av, .int .i64 au, .int .i64 aw, .string ay, .int .i64 aD, .int .i64 az, .string aA, .int .i64 ax, .int .i64 aE, .string aC, .int .i64 ap, .string an, .int .i64 aj, .int .i64 am, .int .i64 ak, .int .i64 ah, .int .i64 ai, .int .i64 al, .int .i64 ao, .string ac, .string af, .slice aT ae.length aN, .int .i64 aq, .string ar, .slice aJ ag.length aK] 25 (0, 0))) := ⟨h1_⟩
                   have aI : Aside0 (Below w.heap.size w gn) := ⟨h2_⟩
                   clear ab
                   clear HB
                   clear h0_ h1_ h2_
                   have cC := aG
                   have ab := aH
                   have HB := aI
                   clear aG aH aI
                   have hHeld : gn.cell? ⟨aa, 0, none⟩ = some (.int .i64 av) ∧ gn.cell? ⟨aa, 1, none⟩ = some (.int .i64 au) ∧ gn.cell? ⟨aa, 2, none⟩ = some (.int .i64 aw) ∧ gn.cell? ⟨aa, 3, none⟩ = some (.string ay) ∧ gn.cell? ⟨aa, 4, none⟩ = some (.int .i64 aD) ∧ gn.cell? ⟨aa, 5, none⟩ = some (.int .i64 az) ∧ gn.cell? ⟨aa, 6, none⟩ = some (.string aA) ∧ gn.cell? ⟨aa, 7, none⟩ = some (.int .i64 ax) ∧ gn.cell? ⟨aa, 8, none⟩ = some (.int .i64 aE) ∧ gn.cell? ⟨aa, 9, none⟩ = some (.string aC) ∧ gn.cell? ⟨aa, 10, none⟩ = some (.int .i64 ap) ∧ gn.cell? ⟨aa, 11, none⟩ = some (.string an) ∧ gn.cell? ⟨aa, 12, none⟩ = some (.int .i64 aj) ∧ gn.cell? ⟨aa, 13, none⟩ = some (.int .i64 am) ∧ gn.cell? ⟨aa, 14, none⟩ = some (.int .i64 ak) ∧ gn.cell? ⟨aa, 15, none⟩ = some (.int .i64 ah) ∧ gn.cell? ⟨aa, 16, none⟩ = some (.int .i64 ai) ∧ gn.cell? ⟨aa, 17, none⟩ = some (.int .i64 al) ∧ gn.cell? ⟨aa, 18, none⟩ = some (.int .i64 ao) ∧ gn.cell? ⟨aa, 19, none⟩ = some (.string ac) ∧ gn.cell? ⟨aa, 20, none⟩ = some (.string af) ∧ gn.cell? ⟨aa, 21, none⟩ = some (.slice aT ae.length aN) ∧ gn.cell? ⟨aa, 22, none⟩ = some (.int .i64 aq) ∧ gn.cell? ⟨aa, 23, none⟩ = some (.string ar) ∧ gn.cell? ⟨aa, 24, none⟩ = some (.slice aJ ag.length aK) := hS_
                   refine norm_ (a' := ?_) ?_ ?_
                   rotate_left
                   ·simp only [putAll, Act.put, List.setIfInBounds_toArray, List.set_cons_zero, List.set_cons_succ]
                    rfl
                   refine two_ (i := 8) (j := 12) (Ni := some 23) (Nj := some 27) #[true, true, true, true, true, true, true, true, true, false, true, true, false, false, true, true, false, true, true, false, false, true, true, false, true, true, false, false, true, false, false, false] #[true, true, true, true, true, true, true, true, false, false, true, true, true, false, true, true, false, true, true, false, false, true, true, false, true, true, false, false, true, false, false, false] rfl rfl rfl rfl (two_of HT_.out Z6) Z32 Z32 (fun K hK => ?_) (fun K hK => ?_)
                   ·skip
                    have hcv24 := own_string (P := Try.prog) Try.underlying51 Try.underlying5 Try.underlying9 (Kd.own_of_R cC.out)
                    refine value_ (w1 := ?_) (v := ?_) Z13 rfl ?_ ?_
                    rotate_left 2
                    ·go_simp
                     constructor
                     ·rfl
                     ·rfl
                    clear hcv24
                    refine hK.out _ _ ⟨(blk_cell ab.out 0).trans rfl, (blk_cell ab.out 1).trans rfl, (blk_cell ab.out 2).trans rfl, (blk_cell ab.out 3).trans rfl, (blk_cell ab.out 4).trans rfl, (blk_cell ab.out 5).trans rfl, (blk_cell ab.out 6).trans rfl, (blk_cell ab.out 7).trans rfl, (blk_cell ab.out 8).trans rfl, (blk_cell ab.out 9).trans rfl, (blk_cell ab.out 10).trans rfl, (blk_cell ab.out 11).trans rfl, (blk_cell ab.out 12).trans rfl, (blk_cell ab.out 13).trans rfl, (blk_cell ab.out 14).trans rfl, (blk_cell ab.out 15).trans rfl, (blk_cell ab.out 16).trans rfl, (blk_cell ab.out 17).trans rfl, (blk_cell ab.out 18).trans rfl, (blk_cell ab.out 19).trans rfl, (blk_cell ab.out 20).trans rfl, (blk_cell ab.out 21).trans rfl, (blk_cell ab.out 22).trans rfl, (blk_cell ab.out 23).trans rfl, (blk_cell ab.out 24).trans rfl⟩ (fun hHeld => ?_)
                    clear hK K
                    refine norm_ (a' := ?_) ?_ ?_
                    rotate_left
                    ·show Act.put _ (some 23) _ = _
                     simp only [Act.put, List.setIfInBounds_toArray, List.set_cons_zero, List.set_cons_succ, i64_w, i32_w]
                     rfl
                    refine pure_ (i := 9) (N := some 24) (v := ?_) (a' := ?_) #[true, true, true, true, true, true, true, true, true, true, true, true, false, false, true, true, false, true, true, false, false, true, true, false, true, true, false, false, true, false, false, false] rfl rfl (any_of HT_.out Z6) (fun _ _ _ h => h) (Or.inl ⟨Z13, ?_⟩) ?_ ?_
                    rotate_left
                    ·intro w'
                     go_simp
                     with_reducible rfl
                    rotate_left
                    ·simp only [Act.put, List.setIfInBounds_toArray, List.set_cons_zero, List.set_cons_succ, i64_w, i32_w]
                     rfl
                    exact norm_ Z20 (hJ7_8 (dJ) _ ⟨hHeld, Z24, Z1, Z0⟩)
                   ·skip
                    refine goes_ Try.func52 Z6 rfl #[.int .i64 al, .int .i64 4] Z13 rfl rfl Z5 ?_
                    with_reducible refine (roadbookref02_Of.calls k al 4 aQ _ A6.out).mono ?_
                    rintro e ed ⟨rfl, hb⟩
                    refine ⟨_, rfl, ?_⟩
                    have aG := Aside0.mk (Kd.R_below Z24 hb)
                    have aH := Aside0.mk (blk_below (g := aa) Z1 hb)
                    have aI := Aside0.mk (below_step Z0 hb)
                    clear cC
                    clear ab
                    clear HB
                    have cC := aG
                    have ab := aH
                    have HB := aI
                    clear aG aH aI
                    (try clear hb)
                    (try clear hb2)
                    (try clear hk)
                    (try clear hi)
                    refine hK.out _ _ ⟨(blk_cell ab.out 0).trans rfl, (blk_cell ab.out 1).trans rfl, (blk_cell ab.out 2).trans rfl, (blk_cell ab.out 3).trans rfl, (blk_cell ab.out 4).trans rfl, (blk_cell ab.out 5).trans rfl, (blk_cell ab.out 6).trans rfl, (blk_cell ab.out 7).trans rfl, (blk_cell ab.out 8).trans rfl, (blk_cell ab.out 9).trans rfl, (blk_cell ab.out 10).trans rfl, (blk_cell ab.out 11).trans rfl, (blk_cell ab.out 12).trans rfl, (blk_cell ab.out 13).trans rfl, (blk_cell ab.out 14).trans rfl, (blk_cell ab.out 15).trans rfl, (blk_cell ab.out 16).trans rfl, (blk_cell ab.out 17).trans rfl, (blk_cell ab.out 18).trans rfl, (blk_cell ab.out 19).trans rfl, (blk_cell ab.out 20).trans rfl, (blk_cell ab.out 21).trans rfl, (blk_cell ab.out 22).trans rfl, (blk_cell ab.out 23).trans rfl, (blk_cell ab.out 24).trans rfl⟩ (fun hHeld => ?_)
                    clear hK K
                    refine norm_ (a' := ?_) ?_ ?_
                    rotate_left
                    ·show Act.put _ (some 27) _ = _
                     simp only [Act.put, List.setIfInBounds_toArray, List.set_cons_zero, List.set_cons_succ, i64_w, i32_w]
                     rfl
                    exact norm_ Z20 (hJ7_12 (dJ) _ ⟨hHeld, Z24, Z1, Z0⟩)
                 ·skip
                  rintro _ gn ⟨hS_, h0_, h1_⟩
                  have aG : Aside0 (gn.heap[aa]? = some (.cells #[.int .i64 av, .int .i64 au, .int .i64 aw, .string ay, .int .i64 aD, .int .i64 az, .string aA, .int .i64 ax, .int .i64 aE, .string aC, .int .i64 ap, .string an, .int .i64 aj, .int .i64 am, .int .i64 ak, .int .i64 ah, .int .i64 ai, .int .i64 al, .int .i64 ao, .string ac, .string af, .slice aT ae.length aN, .int .i64 aq, .string ar, .slice aJ ag.length aK] 25 (0, 0))) := ⟨h0_⟩
                  have aH : Aside0 (Below w.heap.size w gn) := ⟨h1_⟩
                  clear ab
                  clear HB
                  clear h0_ h1_
                  have ab := aG
                  have HB := aH
                  clear aG aH
                  have hHeld : gn.cell? ⟨aa, 0, none⟩ = some (.int .i64 av) ∧ gn.cell? ⟨aa, 1, none⟩ = some (.int .i64 au) ∧ gn.cell? ⟨aa, 2, none⟩ = some (.int .i64 aw) ∧ gn.cell? ⟨aa, 3, none⟩ = some (.string ay) ∧ gn.cell? ⟨aa, 4, none⟩ = some (.int .i64 aD) ∧ gn.cell? ⟨aa, 5, none⟩ = some (.int .i64 az) ∧ gn.cell? ⟨aa, 6, none⟩ = some (.string aA) ∧ gn.cell? ⟨aa, 7, none⟩ = some (.int .i64 ax) ∧ gn.cell? ⟨aa, 8, none⟩ = some (.int .i64 aE) ∧ gn.cell? ⟨aa, 9, none⟩ = some (.string aC) ∧ gn.cell? ⟨aa, 10, none⟩ = some (.int .i64 ap) ∧ gn.cell? ⟨aa, 11, none⟩ = some (.string an) ∧ gn.cell? ⟨aa, 12, none⟩ = some (.int .i64 aj) ∧ gn.cell? ⟨aa, 13, none⟩ = some (.int .i64 am) ∧ gn.cell? ⟨aa, 14, none⟩ = some (.int .i64 ak) ∧ gn.cell? ⟨aa, 15, none⟩ = some (.int .i64 ah) ∧ gn.cell? ⟨aa, 16, none⟩ = some (.int .i64 ai) ∧ gn.cell? ⟨aa, 17, none⟩ = some (.int .i64 al) ∧ gn.cell? ⟨aa, 18, none⟩ = some (.int .i64 ao) ∧ gn.cell? ⟨aa, 19, none⟩ = some (.string ac) ∧ gn.cell? ⟨aa, 20, none⟩ = some (.string af) ∧ gn.cell? ⟨aa, 21, none⟩ = some (.slice aT ae.length aN) ∧ gn.cell? ⟨aa, 22, none⟩ = some (.int .i64 aq) ∧ gn.cell? ⟨aa, 23, none⟩ = some (.string ar) ∧ gn.cell? ⟨aa, 24, none⟩ = some (.slice aJ ag.length aK) := hS_
                  refine norm_ (a' := ?_) ?_ ?_
                  rotate_left
                  ·simp only [putAll, Act.put, List.setIfInBounds_toArray, List.set_cons_zero, List.set_cons_succ]
                   rfl
                  refine two_ (i := 7) (j := 26) (Ni := some 22) (Nj := some 41) #[true, true, true, true, true, true, true, true, false, false, true, true, true, false, true, true, false, true, true, true, false, true, true, false, true, true, false, false, true, false, false, false] #[true, true, true, true, true, true, true, false, false, false, true, true, true, false, true, true, false, true, true, true, false, true, true, false, true, true, true, false, true, false, false, false] rfl rfl rfl rfl (two_of HT_.out Z6) Z32 Z32 (fun K hK => ?_) (fun K hK => ?_)
                  ·skip
                   refine Kd.R_lit_step (Kd.int .u8) _ 5 ?hg (N := 22) ?hd (xs := ([(wrap64 (8 * ah)) % 256, 0, (ai) % 256] : List Int)) (inner := [.int .u8 ((wrap64 (8 * ah)) % 256), .int .u8 0, .int .u8 ((ai) % 256)]) (ok := fun _ => True) (okp := fun _ => True) ?hr ?hp (fun _ hk => hk) trivial (Below.refl _ _) (Nat.le_refl _) Z73 ?_; (case hd => rfl); (case hg => rfl); (case hr => first | (go_simp; done) | (go_simp; rfl)); (case hp => exact (Reps.one (show Kd.M (Kd.int .u8) _ _ _ ((wrap64 (8 * ah)) % 256) [.int .u8 ((wrap64 (8 * ah)) % 256)] from rfl) (Reps.one (show Kd.M (Kd.int .u8) _ _ _ 0 [.int .u8 0] from rfl) (Reps.one (show Kd.M (Kd.int .u8) _ _ _ ((ai) % 256) [.int .u8 ((ai) % 256)] from rfl) (Reps.none _ _)))))
                   intro dJ ed ho25 hb hg_ hnew_
                   clear hg_ hnew_
                   (first | rw [← Ny105.out] at ho25 | (simp only [Int.reduceToNat] at ho25; rw [← Ny105.out] at ho25))
                   have aG := Aside0.mk (Kd.R_lower ho25 (below_size Z0))
                   have aH := Aside0.mk (blk_below (g := aa) Z1 hb)
                   have aI := Aside0.mk (below_step Z0 hb)
                   clear ab
                   clear HB
                   have cC := aG
                   have ab := aH
                   have HB := aI
                   clear aG aH aI
                   clear hb ho25
                   refine hK.out _ _ ⟨(blk_cell ab.out 0).trans rfl, (blk_cell ab.out 1).trans rfl, (blk_cell ab.out 2).trans rfl, (blk_cell ab.out 3).trans rfl, (blk_cell ab.out 4).trans rfl, (blk_cell ab.out 5).trans rfl, (blk_cell ab.out 6).trans rfl, (blk_cell ab.out 7).trans rfl, (blk_cell ab.out 8).trans rfl, (blk_cell ab.out 9).trans rfl, (blk_cell ab.out 10).trans rfl, (blk_cell ab.out 11).trans rfl, (blk_cell ab.out 12).trans rfl, (blk_cell ab.out 13).trans rfl, (blk_cell ab.out 14).trans rfl, (blk_cell ab.out 15).trans rfl, (blk_cell ab.out 16).trans rfl, (blk_cell ab.out 17).trans rfl, (blk_cell ab.out 18).trans rfl, (blk_cell ab.out 19).trans rfl, (blk_cell ab.out 20).trans rfl, (blk_cell ab.out 21).trans rfl, (blk_cell ab.out 22).trans rfl, (blk_cell ab.out 23).trans rfl, (blk_cell ab.out 24).trans rfl⟩ (fun hHeld => ?_)
                   clear hK K
                   refine norm_ (a' := ?_) ?_ ?_
                   rotate_left
                   ·show Act.put _ (some 22) _ = _
                    simp only [Act.put, List.setIfInBounds_toArray, List.set_cons_zero, List.set_cons_succ, i64_w, i32_w]
                    rfl
                   exact norm_ Z20 (hJ7_12_19 (dJ) _ ⟨hHeld, Z24, Z1, Z0⟩)
                  ·skip
                   refine goes_ Try.func52 Z6 rfl #[.int .i64 am, .int .i64 4] Z13 rfl rfl Z5 ?_
                   with_reducible refine (roadbookref02_Of.calls k am 4 bi _ ln.out).mono ?_
                   rintro e ed ⟨rfl, hb⟩
                   refine ⟨_, rfl, ?_⟩
                   have aG := Aside0.mk (blk_below (g := aa) Z1 hb)
                   have aH := Aside0.mk (below_step Z0 hb)
                   clear ab
                   clear HB
                   have ab := aG
                   have HB := aH
                   clear aG aH
                   (try clear hb)
                   (try clear hb2)
                   (try clear hk)
                   (try clear hi)
                   refine hK.out _ _ ⟨(blk_cell ab.out 0).trans rfl, (blk_cell ab.out 1).trans rfl, (blk_cell ab.out 2).trans rfl, (blk_cell ab.out 3).trans rfl, (blk_cell ab.out 4).trans rfl, (blk_cell ab.out 5).trans rfl, (blk_cell ab.out 6).trans rfl, (blk_cell ab.out 7).trans rfl, (blk_cell ab.out 8).trans rfl, (blk_cell ab.out 9).trans rfl, (blk_cell ab.out 10).trans rfl, (blk_cell ab.out 11).trans rfl, (blk_cell ab.out 12).trans rfl, (blk_cell ab.out 13).trans rfl, (blk_cell ab.out 14).trans rfl, (blk_cell ab.out 15).trans rfl, (blk_cell ab.out 16).trans rfl, (blk_cell ab.out 17).trans rfl, (blk_cell ab.out 18).trans rfl, (blk_cell ab.out 19).trans rfl, (blk_cell ab.out 20).trans rfl, (blk_cell ab.out 21).trans rfl, (blk_cell ab.out 22).trans rfl, (blk_cell ab.out 23).trans rfl, (blk_cell ab.out 24).trans rfl⟩ (fun hHeld => ?_)
                   clear hK K
                   refine norm_ (a' := ?_) ?_ ?_
                   rotate_left
                   ·show Act.put _ (some 41) _ = _
                    simp only [Act.put, List.setIfInBounds_toArray, List.set_cons_zero, List.set_cons_succ, i64_w, i32_w]
                    rfl
                   exact norm_ Z20 (hJ12_19_26 () _ ⟨hHeld, Z1, Z0⟩)
                ·skip
                 rintro dJ ed ⟨hS_, h0_, h1_, h2_⟩
                 have aG : Aside0 (Kd.R (Kd.int .u8) 5 ed w.heap.size (fun _ => True) dJ bb) := ⟨h0_⟩
                 have aH : Aside0 (ed.heap[aa]? = some (.cells #[.int .i64 av, .int .i64 au, .int .i64 aw, .string ay, .int .i64 aD, .int .i64 az, .string aA, .int .i64 ax, .int .i64 aE, .string aC, .int .i64 ap, .string an, .int .i64 aj, .int .i64 am, .int .i64 ak, .int .i64 ah, .int .i64 ai, .int .i64 al, .int .i64 ao, .string ac, .string af, .slice aT ae.length aN, .int .i64 aq, .string ar, .slice aJ ag.length aK] 25 (0, 0))) := ⟨h1_⟩
                 have aI : Aside0 (Below w.heap.size w ed) := ⟨h2_⟩
                 clear ab
                 clear HB
                 clear h0_ h1_ h2_
                 have cC := aG
                 have ab := aH
                 have HB := aI
                 clear aG aH aI
                 have hHeld : ed.cell? ⟨aa, 0, none⟩ = some (.int .i64 av) ∧ ed.cell? ⟨aa, 1, none⟩ = some (.int .i64 au) ∧ ed.cell? ⟨aa, 2, none⟩ = some (.int .i64 aw) ∧ ed.cell? ⟨aa, 3, none⟩ = some (.string ay) ∧ ed.cell? ⟨aa, 4, none⟩ = some (.int .i64 aD) ∧ ed.cell? ⟨aa, 5, none⟩ = some (.int .i64 az) ∧ ed.cell? ⟨aa, 6, none⟩ = some (.string aA) ∧ ed.cell? ⟨aa, 7, none⟩ = some (.int .i64 ax) ∧ ed.cell? ⟨aa, 8, none⟩ = some (.int .i64 aE) ∧ ed.cell? ⟨aa, 9, none⟩ = some (.string aC) ∧ ed.cell? ⟨aa, 10, none⟩ = some (.int .i64 ap) ∧ ed.cell? ⟨aa, 11, none⟩ = some (.string an) ∧ ed.cell? ⟨aa, 12, none⟩ = some (.int .i64 aj) ∧ ed.cell? ⟨aa, 13, none⟩ = some (.int .i64 am) ∧ ed.cell? ⟨aa, 14, none⟩ = some (.int .i64 ak) ∧ ed.cell? ⟨aa, 15, none⟩ = some (.int .i64 ah) ∧ ed.cell? ⟨aa, 16, none⟩ = some (.int .i64 ai) ∧ ed.cell? ⟨aa, 17, none⟩ = some (.int .i64 al) ∧ ed.cell? ⟨aa, 18, none⟩ = some (.int .i64 ao) ∧ ed.cell? ⟨aa, 19, none⟩ = some (.string ac) ∧ ed.cell? ⟨aa, 20, none⟩ = some (.string af) ∧ ed.cell? ⟨aa, 21, none⟩ = some (.slice aT ae.length aN) ∧ ed.cell? ⟨aa, 22, none⟩ = some (.int .i64 aq) ∧ ed.cell? ⟨aa, 23, none⟩ = some (.string ar) ∧ ed.cell? ⟨aa, 24, none⟩ = some (.slice aJ ag.length aK) := hS_
                 refine norm_ (a' := ?_) ?_ ?_
                 rotate_left
                 ·simp only [putAll, Act.put, List.setIfInBounds_toArray, List.set_cons_zero, List.set_cons_succ]
                  rfl
                 refine two_ (i := 8) (j := 19) (Ni := some 23) (Nj := some 34) #[true, true, true, true, true, true, true, true, true, false, true, true, true, false, true, true, false, true, true, false, false, true, true, false, true, true, false, false, true, false, false, false] #[true, true, true, true, true, true, true, true, false, false, true, true, true, false, true, true, false, true, true, true, false, true, true, false, true, true, false, false, true, false, false, false] rfl rfl rfl rfl (two_of HT_.out Z6) Z32 Z32 (fun K hK => ?_) (fun K hK => ?_)
                 ·skip
                  have hcv25 := own_string (P := Try.prog) Try.underlying51 Try.underlying5 Try.underlying9 (Kd.own_of_R cC.out)
                  refine value_ (w1 := ?_) (v := ?_) Z13 rfl ?_ ?_
                  rotate_left 2
                  ·go_simp
                   constructor
                   ·rfl
                   ·rfl
                  clear hcv25
                  refine hK.out _ _ ⟨(blk_cell ab.out 0).trans rfl, (blk_cell ab.out 1).trans rfl, (blk_cell ab.out 2).trans rfl, (blk_cell ab.out 3).trans rfl, (blk_cell ab.out 4).trans rfl, (blk_cell ab.out 5).trans rfl, (blk_cell ab.out 6).trans rfl, (blk_cell ab.out 7).trans rfl, (blk_cell ab.out 8).trans rfl, (blk_cell ab.out 9).trans rfl, (blk_cell ab.out 10).trans rfl, (blk_cell ab.out 11).trans rfl, (blk_cell ab.out 12).trans rfl, (blk_cell ab.out 13).trans rfl, (blk_cell ab.out 14).trans rfl, (blk_cell ab.out 15).trans rfl, (blk_cell ab.out 16).trans rfl, (blk_cell ab.out 17).trans rfl, (blk_cell ab.out 18).trans rfl, (blk_cell ab.out 19).trans rfl, (blk_cell ab.out 20).trans rfl, (blk_cell ab.out 21).trans rfl, (blk_cell ab.out 22).trans rfl, (blk_cell ab.out 23).trans rfl, (blk_cell ab.out 24).trans rfl⟩ (fun hHeld => ?_)
                  clear hK K
                  refine norm_ (a' := ?_) ?_ ?_
                  rotate_left
                  ·show Act.put _ (some 23) _ = _
                   simp only [Act.put, List.setIfInBounds_toArray, List.set_cons_zero, List.set_cons_succ, i64_w, i32_w]
                   rfl
                  refine pure_ (i := 9) (N := some 24) (v := ?_) (a' := ?_) #[true, true, true, true, true, true, true, true, true, true, true, true, true, false, true, true, false, true, true, false, false, true, true, false, true, true, false, false, true, false, false, false] rfl rfl (any_of HT_.out Z6) (fun _ _ _ h => h) (Or.inl ⟨Z13, ?_⟩) ?_ ?_
                  rotate_left
                  ·intro w'
                   go_simp
                   with_reducible rfl
                  rotate_left
                  ·simp only [Act.put, List.setIfInBounds_toArray, List.set_cons_zero, List.set_cons_succ, i64_w, i32_w]
                   rfl
                  refine pure_ (i := 13) (N := some 28) (v := ?_) (a' := ?_) #[true, true, true, true, true, true, true, true, true, true, true, true, true, true, true, true, false, true, true, false, false, true, true, false, true, true, false, false, true, false, false, false] rfl rfl (any_of HT_.out Z6) (fun _ _ _ h => h) (Or.inl ⟨Z13, ?_⟩) ?_ ?_
                  rotate_left
                  ·intro w'
                   go_simp
                   with_reducible rfl
                  rotate_left
                  ·simp only [Act.put, List.setIfInBounds_toArray, List.set_cons_zero, List.set_cons_succ, i64_w, i32_w]
                   rfl
                  refine pure_ (i := 16) (N := some 31) (v := ?_) (a' := ?_) #[true, true, true, true, true, true, true, true, true, true, true, true, true, true, true, true, true, true, true, false, false, true, true, false, true, true, false, false, true, false, false, false] rfl rfl (any_of HT_.out Z6) (fun _ _ _ h => h) (Or.inl ⟨Z13, ?_⟩) ?_ ?_
                  rotate_left
                  ·intro w'
                   go_simp
                   with_reducible rfl
                  rotate_left
                  ·simp only [Act.put, List.setIfInBounds_toArray, List.set_cons_zero, List.set_cons_succ, i64_w, i32_w]
                   rfl
                  exact norm_ Z20 (hJ7_8_12 (dJ) _ ⟨hHeld, Z24, Z1, Z0⟩)
                 ·skip
                  refine goes_ Try.func52 Z6 rfl #[.int .i64 aj, .int .i64 4] Z13 rfl rfl Z5 ?_
                  with_reducible refine (roadbookref02_Of.calls k aj 4 aV _ A9.out).mono ?_
                  rintro e gO ⟨rfl, hb⟩
                  refine ⟨_, rfl, ?_⟩
                  have aG := Aside0.mk (Kd.R_below Z24 hb)
                  have aH := Aside0.mk (blk_below (g := aa) Z1 hb)
                  have aI := Aside0.mk (below_step Z0 hb)
                  clear cC
                  clear ab
                  clear HB
                  have cC := aG
                  have ab := aH
                  have HB := aI
                  clear aG aH aI
                  (try clear hb)
                  (try clear hb2)
                  (try clear hk)
                  (try clear hi)
                  refine hK.out _ _ ⟨(blk_cell ab.out 0).trans rfl, (blk_cell ab.out 1).trans rfl, (blk_cell ab.out 2).trans rfl, (blk_cell ab.out 3).trans rfl, (blk_cell ab.out 4).trans rfl, (blk_cell ab.out 5).trans rfl, (blk_cell ab.out 6).trans rfl, (blk_cell ab.out 7).trans rfl, (blk_cell ab.out 8).trans rfl, (blk_cell ab.out 9).trans rfl, (blk_cell ab.out 10).trans rfl, (blk_cell ab.out 11).trans rfl, (blk_cell ab.out 12).trans rfl, (blk_cell ab.out 13).trans rfl, (blk_cell ab.out 14).trans rfl, (blk_cell ab.out 15).trans rfl, (blk_cell ab.out 16).trans rfl, (blk_cell ab.out 17).trans rfl, (blk_cell ab.out 18).trans rfl, (blk_cell ab.out 19).trans rfl, (blk_cell ab.out 20).trans rfl, (blk_cell ab.out 21).trans rfl, (blk_cell ab.out 22).trans rfl, (blk_cell ab.out 23).trans rfl, (blk_cell ab.out 24).trans rfl⟩ (fun hHeld => ?_)
                  clear hK K
                  refine norm_ (a' := ?_) ?_ ?_
                  rotate_left
                  ·show Act.put _ (some 34) _ = _
                   simp only [Act.put, List.setIfInBounds_toArray, List.set_cons_zero, List.set_cons_succ, i64_w, i32_w]
                   rfl
                  exact norm_ Z20 (hJ7_12_19 (dJ) _ ⟨hHeld, Z24, Z1, Z0⟩)
               ·skip
                rintro dJ ed ⟨hS_, h0_, h1_, h2_⟩
                have aG : Aside0 (Kd.R (Kd.int .u8) 5 ed w.heap.size (fun _ => True) dJ bb) := ⟨h0_⟩
                have aH : Aside0 (ed.heap[aa]? = some (.cells #[.int .i64 av, .int .i64 au, .int .i64 aw, .string ay, .int .i64 aD, .int .i64 az, .string aA, .int .i64 ax, .int .i64 aE, .string aC, .int .i64 ap, .string an, .int .i64 aj, .int .i64 am, .int .i64 ak, .int .i64 ah, .int .i64 ai, .int .i64 al, .int .i64 ao, .string ac, .string af, .slice aT ae.length aN, .int .i64 aq, .string ar, .slice aJ ag.length aK] 25 (0, 0))) := ⟨h1_⟩
                have aI : Aside0 (Below w.heap.size w ed) := ⟨h2_⟩
                clear ab
                clear HB
                clear h0_ h1_ h2_
                have cC := aG
                have ab := aH
                have HB := aI
                clear aG aH aI
                have hHeld : ed.cell? ⟨aa, 0, none⟩ = some (.int .i64 av) ∧ ed.cell? ⟨aa, 1, none⟩ = some (.int .i64 au) ∧ ed.cell? ⟨aa, 2, none⟩ = some (.int .i64 aw) ∧ ed.cell? ⟨aa, 3, none⟩ = some (.string ay) ∧ ed.cell? ⟨aa, 4, none⟩ = some (.int .i64 aD) ∧ ed.cell? ⟨aa, 5, none⟩ = some (.int .i64 az) ∧ ed.cell? ⟨aa, 6, none⟩ = some (.string aA) ∧ ed.cell? ⟨aa, 7, none⟩ = some (.int .i64 ax) ∧ ed.cell? ⟨aa, 8, none⟩ = some (.int .i64 aE) ∧ ed.cell? ⟨aa, 9, none⟩ = some (.string aC) ∧ ed.cell? ⟨aa, 10, none⟩ = some (.int .i64 ap) ∧ ed.cell? ⟨aa, 11, none⟩ = some (.string an) ∧ ed.cell? ⟨aa, 12, none⟩ = some (.int .i64 aj) ∧ ed.cell? ⟨aa, 13, none⟩ = some (.int .i64 am) ∧ ed.cell? ⟨aa, 14, none⟩ = some (.int .i64 ak) ∧ ed.cell? ⟨aa, 15, none⟩ = some (.int .i64 ah) ∧ ed.cell? ⟨aa, 16, none⟩ = some (.int .i64 ai) ∧ ed.cell? ⟨aa, 17, none⟩ = some (.int .i64 al) ∧ ed.cell? ⟨aa, 18, none⟩ = some (.int .i64 ao) ∧ ed.cell? ⟨aa, 19, none⟩ = some (.string ac) ∧ ed.cell? ⟨aa, 20, none⟩ = some (.string af) ∧ ed.cell? ⟨aa, 21, none⟩ = some (.slice aT ae.length aN) ∧ ed.cell? ⟨aa, 22, none⟩ = some (.int .i64 aq) ∧ ed.cell? ⟨aa, 23, none⟩ = some (.string ar) ∧ ed.cell? ⟨aa, 24, none⟩ = some (.slice aJ ag.length aK) := hS_
                refine norm_ (a' := ?_) ?_ ?_
                rotate_left
                ·simp only [putAll, Act.put, List.setIfInBounds_toArray, List.set_cons_zero, List.set_cons_succ]
                 rfl
                refine one_ (i := 12) (N := some 27) #[true, true, true, true, true, true, true, true, true, true, true, true, true, false, true, true, false, true, true, false, false, true, true, false, true, true, false, false, true, false, false, false] rfl rfl (one_of HT_.out Z6) Z32 (fun K hK => ?_)
                refine goes_ Try.func52 Z6 rfl #[.int .i64 al, .int .i64 4] Z13 rfl rfl Z5 ?_
                with_reducible refine (roadbookref02_Of.calls k al 4 aQ _ A6.out).mono ?_
                rintro e gO ⟨rfl, hb⟩
                refine ⟨_, rfl, ?_⟩
                have aG := Aside0.mk (Kd.R_below Z24 hb)
                have aH := Aside0.mk (blk_below (g := aa) Z1 hb)
                have aI := Aside0.mk (below_step Z0 hb)
                clear cC
                clear ab
                clear HB
                have cC := aG
                have ab := aH
                have HB := aI
                clear aG aH aI
                (try clear hb)
                (try clear hb2)
                (try clear hk)
                (try clear hi)
                refine hK.out _ _ ⟨(blk_cell ab.out 0).trans rfl, (blk_cell ab.out 1).trans rfl, (blk_cell ab.out 2).trans rfl, (blk_cell ab.out 3).trans rfl, (blk_cell ab.out 4).trans rfl, (blk_cell ab.out 5).trans rfl, (blk_cell ab.out 6).trans rfl, (blk_cell ab.out 7).trans rfl, (blk_cell ab.out 8).trans rfl, (blk_cell ab.out 9).trans rfl, (blk_cell ab.out 10).trans rfl, (blk_cell ab.out 11).trans rfl, (blk_cell ab.out 12).trans rfl, (blk_cell ab.out 13).trans rfl, (blk_cell ab.out 14).trans rfl, (blk_cell ab.out 15).trans rfl, (blk_cell ab.out 16).trans rfl, (blk_cell ab.out 17).trans rfl, (blk_cell ab.out 18).trans rfl, (blk_cell ab.out 19).trans rfl, (blk_cell ab.out 20).trans rfl, (blk_cell ab.out 21).trans rfl, (blk_cell ab.out 22).trans rfl, (blk_cell ab.out 23).trans rfl, (blk_cell ab.out 24).trans rfl⟩ (fun hHeld => ?_)
                clear hK K
                refine norm_ (a' := ?_) ?_ ?_
                rotate_left
                ·show Act.put _ (some 27) _ = _
                 simp only [Act.put, List.setIfInBounds_toArray, List.set_cons_zero, List.set_cons_succ, i64_w, i32_w]
                 rfl
                refine pure_ (i := 13) (N := some 28) (v := ?_) (a' := ?_) #[true, true, true, true, true, true, true, true, true, true, true, true, true, true, true, true, false, true, true, false, false, true, true, false, true, true, false, false, true, false, false, false] rfl rfl (any_of HT_.out Z6) (fun _ _ _ h => h) (Or.inl ⟨Z13, ?_⟩) ?_ ?_
                rotate_left
                ·intro w'
                 go_simp
                 with_reducible rfl
                rotate_left
                ·simp only [Act.put, List.setIfInBounds_toArray, List.set_cons_zero, List.set_cons_succ, i64_w, i32_w]
                 rfl
                refine pure_ (i := 16) (N := some 31) (v := ?_) (a' := ?_) #[true, true, true, true, true, true, true, true, true, true, true, true, true, true, true, true, true, true, true, false, false, true, true, false, true, true, false, false, true, false, false, false] rfl rfl (any_of HT_.out Z6) (fun _ _ _ h => h) (Or.inl ⟨Z13, ?_⟩) ?_ ?_
                rotate_left
                ·intro w'
                 go_simp
                 with_reducible rfl
                rotate_left
                ·simp only [Act.put, List.setIfInBounds_toArray, List.set_cons_zero, List.set_cons_succ, i64_w, i32_w]
                 rfl
                exact norm_ Z20 (hJ7_8_12 (dJ) _ ⟨hHeld, Z24, Z1, Z0⟩)
              ·skip
               rintro _ ed ⟨hS_, h0_, h1_⟩
               have aG : Aside0 (ed.heap[aa]? = some (.cells #[.int .i64 av, .int .i64 au, .int .i64 aw, .string ay, .int .i64 aD, .int .i64 az, .string aA, .int .i64 ax, .int .i64 aE, .string aC, .int .i64 ap, .string an, .int .i64 aj, .int .i64 am, .int .i64 ak, .int .i64 ah, .int .i64 ai, .int .i64 al, .int .i64 ao, .string ac, .string af, .slice aT ae.length aN, .int .i64 aq, .string ar, .slice aJ ag.length aK] 25 (0, 0))) := ⟨h0_⟩
               have aH : Aside0 (Below w.heap.size w ed) := ⟨h1_⟩
               clear ab
               clear HB
               clear h0_ h1_
               have ab := aG
               have HB := aH
               clear aG aH
               have hHeld : ed.cell? ⟨aa, 0, none⟩ = some (.int .i64 av) ∧ ed.cell? ⟨aa, 1, none⟩ = some (.int .i64 au) ∧ ed.cell? ⟨aa, 2, none⟩ = some (.int .i64 aw) ∧ ed.cell? ⟨aa, 3, none⟩ = some (.string ay) ∧ ed.cell? ⟨aa, 4, none⟩ = some (.int .i64 aD) ∧ ed.cell? ⟨aa, 5, none⟩ = some (.int .i64 az) ∧ ed.cell? ⟨aa, 6, none⟩ = some (.string aA) ∧ ed.cell? ⟨aa, 7, none⟩ = some (.int .i64 ax) ∧ ed.cell? ⟨aa, 8, none⟩ = some (.int .i64 aE) ∧ ed.cell? ⟨aa, 9, none⟩ = some (.string aC) ∧ ed.cell? ⟨aa, 10, none⟩ = some (.int .i64 ap) ∧ ed.cell? ⟨aa, 11, none⟩ = some (.string an) ∧ ed.cell? ⟨aa, 12, none⟩ = some (.int .i64 aj) ∧ ed.cell? ⟨aa, 13, none⟩ = some (.int .i64 am) ∧ ed.cell? ⟨aa, 14, none⟩ = some (.int .i64 ak) ∧ ed.cell? ⟨aa, 15, none⟩ = some (.int .i64 ah) ∧ ed.cell? ⟨aa, 16, none⟩ = some (.int .i64 ai) ∧ ed.cell? ⟨aa, 17, none⟩ = some (.int .i64 al) ∧ ed.cell? ⟨aa, 18, none⟩ = some (.int .i64 ao) ∧ ed.cell? ⟨aa, 19, none⟩ = some (.string ac) ∧ ed.cell? ⟨aa, 20, none⟩ = some (.string af) ∧ ed.cell? ⟨aa, 21, none⟩ = some (.slice aT ae.length aN) ∧ ed.cell? ⟨aa, 22, none⟩ = some (.int .i64 aq) ∧ ed.cell? ⟨aa, 23, none⟩ = some (.string ar) ∧ ed.cell? ⟨aa, 24, none⟩ = some (.slice aJ ag.length aK) := hS_
               refine norm_ (a' := ?_) ?_ ?_
               rotate_left
               ·simp only [putAll, Act.put, List.setIfInBounds_toArray, List.set_cons_zero, List.set_cons_succ]
                rfl
               refine one_ (i := 7) (N := some 22) #[true, true, true, true, true, true, true, true, false, false, true, true, true, false, true, true, false, true, true, true, false, true, true, false, true, true, true, false, true, false, false, false] rfl rfl (one_of HT_.out Z6) Z32 (fun K hK => ?_)
               refine Kd.R_lit_step (Kd.int .u8) _ 5 ?hg (N := 22) ?hd (xs := ([(wrap64 (8 * ah)) % 256, 0, (ai) % 256] : List Int)) (inner := [.int .u8 ((wrap64 (8 * ah)) % 256), .int .u8 0, .int .u8 ((ai) % 256)]) (ok := fun _ => True) (okp := fun _ => True) ?hr ?hp (fun _ hk => hk) trivial (Below.refl _ _) (Nat.le_refl _) Z73 ?_; (case hd => rfl); (case hg => rfl); (case hr => first | (go_simp; done) | (go_simp; rfl)); (case hp => exact (Reps.one (show Kd.M (Kd.int .u8) _ _ _ ((wrap64 (8 * ah)) % 256) [.int .u8 ((wrap64 (8 * ah)) % 256)] from rfl) (Reps.one (show Kd.M (Kd.int .u8) _ _ _ 0 [.int .u8 0] from rfl) (Reps.one (show Kd.M (Kd.int .u8) _ _ _ ((ai) % 256) [.int .u8 ((ai) % 256)] from rfl) (Reps.none _ _)))))
               intro dJ gO ho26 hb hg_ hnew_
               clear hg_ hnew_
               (first | rw [← Ny105.out] at ho26 | (simp only [Int.reduceToNat] at ho26; rw [← Ny105.out] at ho26))
               have aG := Aside0.mk (Kd.R_lower ho26 (below_size Z0))
               have aH := Aside0.mk (blk_below (g := aa) Z1 hb)
               have aI := Aside0.mk (below_step Z0 hb)
               clear ab
               clear HB
               have cC := aG
               have ab := aH
               have HB := aI
               clear aG aH aI
               clear hb ho26
               refine hK.out _ _ ⟨(blk_cell ab.out 0).trans rfl, (blk_cell ab.out 1).trans rfl, (blk_cell ab.out 2).trans rfl, (blk_cell ab.out 3).trans rfl, (blk_cell ab.out 4).trans rfl, (blk_cell ab.out 5).trans rfl, (blk_cell ab.out 6).trans rfl, (blk_cell ab.out 7).trans rfl, (blk_cell ab.out 8).trans rfl, (blk_cell ab.out 9).trans rfl, (blk_cell ab.out 10).trans rfl, (blk_cell ab.out 11).trans rfl, (blk_cell ab.out 12).trans rfl, (blk_cell ab.out 13).trans rfl, (blk_cell ab.out 14).trans rfl, (blk_cell ab.out 15).trans rfl, (blk_cell ab.out 16).trans rfl, (blk_cell ab.out 17).trans rfl, (blk_cell ab.out 18).trans rfl, (blk_cell ab.out 19).trans rfl, (blk_cell ab.out 20).trans rfl, (blk_cell ab.out 21).trans rfl, (blk_cell ab.out 22).trans rfl, (blk_cell ab.out 23).trans rfl, (blk_cell ab.out 24).trans rfl⟩ (fun hHeld => ?_)
               clear hK K
               refine norm_ (a' := ?_) ?_ ?_
               rotate_left
               ·show Act.put _ (some 22) _ = _
                simp only [Act.put, List.setIfInBounds_toArray, List.set_cons_zero, List.set_cons_succ, i64_w, i32_w]
                rfl
               exact norm_ Z20 (hJ7_12_19_26 (dJ) _ ⟨hHeld, Z24, Z1, Z0⟩)
             ·skip
              rintro dJ gO ⟨hS_, h0_, h1_, h2_⟩
              have aG : Aside0 (Kd.R (Kd.int .u8) 5 gO w.heap.size (fun _ => True) dJ bb) := ⟨h0_⟩
              have aH : Aside0 (gO.heap[aa]? = some (.cells #[.int .i64 av, .int .i64 au, .int .i64 aw, .string ay, .int .i64 aD, .int .i64 az, .string aA, .int .i64 ax, .int .i64 aE, .string aC, .int .i64 ap, .string an, .int .i64 aj, .int .i64 am, .int .i64 ak, .int .i64 ah, .int .i64 ai, .int .i64 al, .int .i64 ao, .string ac, .string af, .slice aT ae.length aN, .int .i64 aq, .string ar, .slice aJ ag.length aK] 25 (0, 0))) := ⟨h1_⟩
              have aI : Aside0 (Below w.heap.size w gO) := ⟨h2_⟩
              clear ab
              clear HB
              clear h0_ h1_ h2_
              have cC := aG
              have ab := aH
              have HB := aI
              clear aG aH aI
              have hHeld : gO.cell? ⟨aa, 0, none⟩ = some (.int .i64 av) ∧ gO.cell? ⟨aa, 1, none⟩ = some (.int .i64 au) ∧ gO.cell? ⟨aa, 2, none⟩ = some (.int .i64 aw) ∧ gO.cell? ⟨aa, 3, none⟩ = some (.string ay) ∧ gO.cell? ⟨aa, 4, none⟩ = some (.int .i64 aD) ∧ gO.cell? ⟨aa, 5, none⟩ = some (.int .i64 az) ∧ gO.cell? ⟨aa, 6, none⟩ = some (.string aA) ∧ gO.cell? ⟨aa, 7, none⟩ = some (.int .i64 ax) ∧ gO.cell? ⟨aa, 8, none⟩ = some (.int .i64 aE) ∧ gO.cell? ⟨aa, 9, none⟩ = some (.string aC) ∧ gO.cell? ⟨aa, 10, none⟩ = some (.int .i64 ap) ∧ gO.cell? ⟨aa, 11, none⟩ = some (.string an) ∧ gO.cell? ⟨aa, 12, none⟩ = some (.int .i64 aj) ∧ gO.cell? ⟨aa, 13, none⟩ = some (.int .i64 am) ∧ gO.cell? ⟨aa, 14, none⟩ = some (.int .i64 ak) ∧ gO.cell? ⟨aa, 15, none⟩ = some (.int .i64 ah) ∧ gO.cell? ⟨aa, 16, none⟩ = some (.int .i64 ai) ∧ gO.cell? ⟨aa, 17, none⟩ = some (.int .i64 al) ∧ gO.cell? ⟨aa, 18, none⟩ = some (.int .i64 ao) ∧ gO.cell? ⟨aa, 19, none⟩ = some (.string ac) ∧ gO.cell? ⟨aa, 20, none⟩ = some (.string af) ∧ gO.cell? ⟨aa, 21, none⟩ = some (.slice aT ae.length aN) ∧ gO.cell? ⟨aa, 22, none⟩ = some (.int .i64 aq) ∧ gO.cell? ⟨aa, 23, none⟩ = some (.string ar) ∧ gO.cell? ⟨aa, 24, none⟩ = some (.slice aJ ag.length aK) := hS_
              refine norm_ (a' := ?_) ?_ ?_
              rotate_left
              ·simp only [putAll, Act.put, List.setIfInBounds_toArray, List.set_cons_zero, List.set_cons_succ]
               rfl
              refine two_ (i := 8) (j := 26) (Ni := some 23) (Nj := some 41) #[true, true, true, true, true, true, true, true, true, false, true, true, true, false, true, true, false, true, true, true, false, true, true, false, true, true, false, false, true, false, false, false] #[true, true, true, true, true, true, true, true, false, false, true, true, true, false, true, true, false, true, true, true, false, true, true, false, true, true, true, false, true, false, false, false] rfl rfl rfl rfl (two_of HT_.out Z6) Z32 Z32 (fun K hK => ?_) (fun K hK => ?_)
              ·skip
               have hcv26 := own_string (P := Try.prog) Try.underlying51 Try.underlying5 Try.underlying9 (Kd.own_of_R cC.out)
               refine value_ (w1 := ?_) (v := ?_) Z13 rfl ?_ ?_
               rotate_left 2
               ·go_simp
                constructor
                ·rfl
                ·rfl
               clear hcv26
               refine hK.out _ _ ⟨(blk_cell ab.out 0).trans rfl, (blk_cell ab.out 1).trans rfl, (blk_cell ab.out 2).trans rfl, (blk_cell ab.out 3).trans rfl, (blk_cell ab.out 4).trans rfl, (blk_cell ab.out 5).trans rfl, (blk_cell ab.out 6).trans rfl, (blk_cell ab.out 7).trans rfl, (blk_cell ab.out 8).trans rfl, (blk_cell ab.out 9).trans rfl, (blk_cell ab.out 10).trans rfl, (blk_cell ab.out 11).trans rfl, (blk_cell ab.out 12).trans rfl, (blk_cell ab.out 13).trans rfl, (blk_cell ab.out 14).trans rfl, (blk_cell ab.out 15).trans rfl, (blk_cell ab.out 16).trans rfl, (blk_cell ab.out 17).trans rfl, (blk_cell ab.out 18).trans rfl, (blk_cell ab.out 19).trans rfl, (blk_cell ab.out 20).trans rfl, (blk_cell ab.out 21).trans rfl, (blk_cell ab.out 22).trans rfl, (blk_cell ab.out 23).trans rfl, (blk_cell ab.out 24).trans rfl⟩ (fun hHeld => ?_)
               clear hK K
               refine norm_ (a' := ?_) ?_ ?_
               rotate_left
               ·show Act.put _ (some 23) _ = _
                simp only [Act.put, List.setIfInBounds_toArray, List.set_cons_zero, List.set_cons_succ, i64_w, i32_w]
                rfl
               refine pure_ (i := 9) (N := some 24) (v := ?_) (a' := ?_) #[true, true, true, true, true, true, true, true, true, true, true, true, true, false, true, true, false, true, true, true, false, true, true, false, true, true, false, false, true, false, false, false] rfl rfl (any_of HT_.out Z6) (fun _ _ _ h => h) (Or.inl ⟨Z13, ?_⟩) ?_ ?_
               rotate_left
               ·intro w'
                go_simp
                with_reducible rfl
               rotate_left
               ·simp only [Act.put, List.setIfInBounds_toArray, List.set_cons_zero, List.set_cons_succ, i64_w, i32_w]
                rfl
               refine pure_ (i := 13) (N := some 28) (v := ?_) (a' := ?_) #[true, true, true, true, true, true, true, true, true, true, true, true, true, true, true, true, false, true, true, true, false, true, true, false, true, true, false, false, true, false, false, false] rfl rfl (any_of HT_.out Z6) (fun _ _ _ h => h) (Or.inl ⟨Z13, ?_⟩) ?_ ?_
               rotate_left
               ·intro w'
                go_simp
                with_reducible rfl
               rotate_left
               ·simp only [Act.put, List.setIfInBounds_toArray, List.set_cons_zero, List.set_cons_succ, i64_w, i32_w]
                rfl
               refine pure_ (i := 16) (N := some 31) (v := ?_) (a' := ?_) #[true, true, true, true, true, true, true, true, true, true, true, true, true, true, true, true, true, true, true, true, false, true, true, false, true, true, false, false, true, false, false, false] rfl rfl (any_of HT_.out Z6) (fun _ _ _ h => h) (Or.inl ⟨Z13, ?_⟩) ?_ ?_
               rotate_left
               ·intro w'
                go_simp
                with_reducible rfl
               rotate_left
               ·simp only [Act.put, List.setIfInBounds_toArray, List.set_cons_zero, List.set_cons_succ, i64_w, i32_w]
                rfl
               refine pure_ (i := 20) (N := some 35) (v := ?_) (a' := ?_) #[true, true, true, true, true, true, true, true, true, true, true, true, true, true, true, true, true, true, true, true, true, true, true, false, true, true, false, false, true, false, false, false] rfl rfl (any_of HT_.out Z6) (fun _ _ _ h => h) (Or.inl ⟨Z13, ?_⟩) ?_ ?_
               rotate_left
               ·intro w'
                go_simp
                with_reducible rfl
               rotate_left
               ·simp only [Act.put, List.setIfInBounds_toArray, List.set_cons_zero, List.set_cons_succ, i64_w, i32_w]
                rfl
               refine pure_ (i := 23) (N := some 38) (v := ?_) (a' := ?_) #[true, true, true, true, true, true, true, true, true, true, true, true, true, true, true, true, true, true, true, true, true, true, true, true, true, true, false, false, true, false, false, false] rfl rfl (any_of HT_.out Z6) (fun _ _ _ h => h) (Or.inl ⟨Z13, ?_⟩) ?_ ?_
               rotate_left
               ·intro w'
                go_simp
                with_reducible rfl
               rotate_left
               ·simp only [Act.put, List.setIfInBounds_toArray, List.set_cons_zero, List.set_cons_succ, i64_w, i32_w]
                rfl
               exact norm_ Z20 (hJ7_8_12_19 (dJ) _ ⟨hHeld, Z24, Z1, Z0⟩)
              ·skip
               refine goes_ Try.func52 Z6 rfl #[.int .i64 am, .int .i64 4] Z13 rfl rfl Z5 ?_
               with_reducible refine (roadbookref02_Of.calls k am 4 bi _ ln.out).mono ?_
               rintro e gD ⟨rfl, hb⟩
               refine ⟨_, rfl, ?_⟩
               have aG := Aside0.mk (Kd.R_below Z24 hb)
               have aH := Aside0.mk (blk_below (g := aa) Z1 hb)
               have aI := Aside0.mk (below_step Z0 hb)
               clear cC
               clear ab
               clear HB
               have cC := aG
               have ab := aH
               have HB := aI
               clear aG aH aI
               (try clear hb)
               (try clear hb2)
               (try clear hk)
               (try clear hi)
               refine hK.out _ _ ⟨(blk_cell ab.out 0).trans rfl, (blk_cell ab.out 1).trans rfl, (blk_cell ab.out 2).trans rfl, (blk_cell ab.out 3).trans rfl, (blk_cell ab.out 4).trans rfl, (blk_cell ab.out 5).trans rfl, (blk_cell ab.out 6).trans rfl, (blk_cell ab.out 7).trans rfl, (blk_cell ab.out 8).trans rfl, (blk_cell ab.out 9).trans rfl, (blk_cell ab.out 10).trans rfl, (blk_cell ab.out 11).trans rfl, (blk_cell ab.out 12).trans rfl, (blk_cell ab.out 13).trans rfl, (blk_cell ab.out 14).trans rfl, (blk_cell ab.out 15).trans rfl, (blk_cell ab.out 16).trans rfl, (blk_cell ab.out 17).trans rfl, (blk_cell ab.out 18).trans rfl, (blk_cell ab.out 19).trans rfl, (blk_cell ab.out 20).trans rfl, (blk_cell ab.out 21).trans rfl, (blk_cell ab.out 22).trans rfl, (blk_cell ab.out 23).trans rfl, (blk_cell ab.out 24).trans rfl⟩ (fun hHeld => ?_)
               clear hK K
               refine norm_ (a' := ?_) ?_ ?_
               rotate_left
               ·show Act.put _ (some 41) _ = _
                simp only [Act.put, List.setIfInBounds_toArray, List.set_cons_zero, List.set_cons_succ, i64_w, i32_w]
                rfl
               exact norm_ Z20 (hJ7_12_19_26 (dJ) _ ⟨hHeld, Z24, Z1, Z0⟩)
            ·skip
             rintro dJ gO ⟨hS_, h0_, h1_, h2_⟩
             have aG : Aside0 (Kd.R (Kd.int .u8) 5 gO w.heap.size (fun _ => True) dJ bb) := ⟨h0_⟩
             have aH : Aside0 (gO.heap[aa]? = some (.cells #[.int .i64 av, .int .i64 au, .int .i64 aw, .string ay, .int .i64 aD, .int .i64 az, .string aA, .int .i64 ax, .int .i64 aE, .string aC, .int .i64 ap, .string an, .int .i64 aj, .int .i64 am, .int .i64 ak, .int .i64 ah, .int .i64 ai, .int .i64 al, .int .i64 ao, .string ac, .string af, .slice aT ae.length aN, .int .i64 aq, .string ar, .slice aJ ag.length aK] 25 (0, 0))) := ⟨h1_⟩
             have aI : Aside0 (Below w.heap.size w gO) := ⟨h2_⟩
             clear ab
             clear HB
             clear h0_ h1_ h2_
             have cC := aG
             have ab := aH
             have HB := aI
             clear aG aH aI
             have hHeld : gO.cell? ⟨aa, 0, none⟩ = some (.int .i64 av) ∧ gO.cell? ⟨aa, 1, none⟩ = some (.int .i64 au) ∧ gO.cell? ⟨aa, 2, none⟩ = some (.int .i64 aw) ∧ gO.cell? ⟨aa, 3, none⟩ = some (.string ay) ∧ gO.cell? ⟨aa, 4, none⟩ = some (.int .i64 aD) ∧ gO.cell? ⟨aa, 5, none⟩ = some (.int .i64 az) ∧ gO.cell? ⟨aa, 6, none⟩ = some (.string aA) ∧ gO.cell? ⟨aa, 7, none⟩ = some (.int .i64 ax) ∧ gO.cell? ⟨aa, 8, none⟩ = some (.int .i64 aE) ∧ gO.cell? ⟨aa, 9, none⟩ = some (.string aC) ∧ gO.cell? ⟨aa, 10, none⟩ = some (.int .i64 ap) ∧ gO.cell? ⟨aa, 11, none⟩ = some (.string an) ∧ gO.cell? ⟨aa, 12, none⟩ = some (.int .i64 aj) ∧ gO.cell? ⟨aa, 13, none⟩ = some (.int .i64 am) ∧ gO.cell? ⟨aa, 14, none⟩ = some (.int .i64 ak) ∧ gO.cell? ⟨aa, 15, none⟩ = some (.int .i64 ah) ∧ gO.cell? ⟨aa, 16, none⟩ = some (.int .i64 ai) ∧ gO.cell? ⟨aa, 17, none⟩ = some (.int .i64 al) ∧ gO.cell? ⟨aa, 18, none⟩ = some (.int .i64 ao) ∧ gO.cell? ⟨aa, 19, none⟩ = some (.string ac) ∧ gO.cell? ⟨aa, 20, none⟩ = some (.string af) ∧ gO.cell? ⟨aa, 21, none⟩ = some (.slice aT ae.length aN) ∧ gO.cell? ⟨aa, 22, none⟩ = some (.int .i64 aq) ∧ gO.cell? ⟨aa, 23, none⟩ = some (.string ar) ∧ gO.cell? ⟨aa, 24, none⟩ = some (.slice aJ ag.length aK) := hS_
             refine norm_ (a' := ?_) ?_ ?_
             rotate_left
             ·simp only [putAll, Act.put, List.setIfInBounds_toArray, List.set_cons_zero, List.set_cons_succ]
              rfl
             refine one_ (i := 19) (N := some 34) #[true, true, true, true, true, true, true, true, true, true, true, true, true, true, true, true, true, true, true, true, false, true, true, false, true, true, false, false, true, false, false, false] rfl rfl (one_of HT_.out Z6) Z32 (fun K hK => ?_)
             refine goes_ Try.func52 Z6 rfl #[.int .i64 aj, .int .i64 4] Z13 rfl rfl Z5 ?_
             with_reducible refine (roadbookref02_Of.calls k aj 4 aV _ A9.out).mono ?_
             rintro e gD ⟨rfl, hb⟩
             refine ⟨_, rfl, ?_⟩
             have aG := Aside0.mk (Kd.R_below Z24 hb)
             have aH := Aside0.mk (blk_below (g := aa) Z1 hb)
             have aI := Aside0.mk (below_step Z0 hb)
             clear cC
             clear ab
             clear HB
             have cC := aG
             have ab := aH
             have HB := aI
             clear aG aH aI
             (try clear hb)
             (try clear hb2)
             (try clear hk)
             (try clear hi)
             refine hK.out _ _ ⟨(blk_cell ab.out 0).trans rfl, (blk_cell ab.out 1).trans rfl, (blk_cell ab.out 2).trans rfl, (blk_cell ab.out 3).trans rfl, (blk_cell ab.out 4).trans rfl, (blk_cell ab.out 5).trans rfl, (blk_cell ab.out 6).trans rfl, (blk_cell ab.out 7).trans rfl, (blk_cell ab.out 8).trans rfl, (blk_cell ab.out 9).trans rfl, (blk_cell ab.out 10).trans rfl, (blk_cell ab.out 11).trans rfl, (blk_cell ab.out 12).trans rfl, (blk_cell ab.out 13).trans rfl, (blk_cell ab.out 14).trans rfl, (blk_cell ab.out 15).trans rfl, (blk_cell ab.out 16).trans rfl, (blk_cell ab.out 17).trans rfl, (blk_cell ab.out 18).trans rfl, (blk_cell ab.out 19).trans rfl, (blk_cell ab.out 20).trans rfl, (blk_cell ab.out 21).trans rfl, (blk_cell ab.out 22).trans rfl, (blk_cell ab.out 23).trans rfl, (blk_cell ab.out 24).trans rfl⟩ (fun hHeld => ?_)
             clear hK K
             refine norm_ (a' := ?_) ?_ ?_
             rotate_left
             ·show Act.put _ (some 34) _ = _
              simp only [Act.put, List.setIfInBounds_toArray, List.set_cons_zero, List.set_cons_succ, i64_w, i32_w]
              rfl
             refine pure_ (i := 20) (N := some 35) (v := ?_) (a' := ?_) #[true, true, true, true, true, true, true, true, true, true, true, true, true, true, true, true, true, true, true, true, true, true, true, false, true, true, false, false, true, false, false, false] rfl rfl (any_of HT_.out Z6) (fun _ _ _ h => h) (Or.inl ⟨Z13, ?_⟩) ?_ ?_
             rotate_left
             ·intro w'
              go_simp
              with_reducible rfl
             rotate_left
             ·simp only [Act.put, List.setIfInBounds_toArray, List.set_cons_zero, List.set_cons_succ, i64_w, i32_w]
              rfl
             refine pure_ (i := 23) (N := some 38) (v := ?_) (a' := ?_) #[true, true, true, true, true, true, true, true, true, true, true, true, true, true, true, true, true, true, true, true, true, true, true, true, true, true, false, false, true, false, false, false] rfl rfl (any_of HT_.out Z6) (fun _ _ _ h => h) (Or.inl ⟨Z13, ?_⟩) ?_ ?_
             rotate_left
             ·intro w'
              go_simp
              with_reducible rfl
             rotate_left
             ·simp only [Act.put, List.setIfInBounds_toArray, List.set_cons_zero, List.set_cons_succ, i64_w, i32_w]
              rfl
             exact norm_ Z20 (hJ7_8_12_19 (dJ) _ ⟨hHeld, Z24, Z1, Z0⟩)
           ·skip
            rintro dJ gD ⟨hS_, h0_, h1_, h2_⟩
            have aG : Aside0 (Kd.R (Kd.int .u8) 5 gD w.heap.size (fun _ => True) dJ bb) := ⟨h0_⟩
            have aH : Aside0 (gD.heap[aa]? = some (.cells #[.int .i64 av, .int .i64 au, .int .i64 aw, .string ay, .int .i64 aD, .int .i64 az, .string aA, .int .i64 ax, .int .i64 aE, .string aC, .int .i64 ap, .string an, .int .i64 aj, .int .i64 am, .int .i64 ak, .int .i64 ah, .int .i64 ai, .int .i64 al, .int .i64 ao, .string ac, .string af, .slice aT ae.length aN, .int .i64 aq, .string ar, .slice aJ ag.length aK] 25 (0, 0))) := ⟨h1_⟩
            have aI : Aside0 (Below w.heap.size w gD) := ⟨h2_⟩
            clear ab
            clear HB
            clear h0_ h1_ h2_
            have cC := aG
            have ab := aH
            have HB := aI
            clear aG aH aI
            have hHeld : gD.cell? ⟨aa, 0, none⟩ = some (.int .i64 av) ∧ gD.cell? ⟨aa, 1, none⟩ = some (.int .i64 au) ∧ gD.cell? ⟨aa, 2, none⟩ = some (.int .i64 aw) ∧ gD.cell? ⟨aa, 3, none⟩ = some (.string ay) ∧ gD.cell? ⟨aa, 4, none⟩ = some (.int .i64 aD) ∧ gD.cell? ⟨aa, 5, none⟩ = some (.int .i64 az) ∧ gD.cell? ⟨aa, 6, none⟩ = some (.string aA) ∧ gD.cell? ⟨aa, 7, none⟩ = some (.int .i64 ax) ∧ gD.cell? ⟨aa, 8, none⟩ = some (.int .i64 aE) ∧ gD.cell? ⟨aa, 9, none⟩ = some (.string aC) ∧ gD.cell? ⟨aa, 10, none⟩ = some (.int .i64 ap) ∧ gD.cell? ⟨aa, 11, none⟩ = some (.string an) ∧ gD.cell? ⟨aa, 12, none⟩ = some (.int .i64 aj) ∧ gD.cell? ⟨aa, 13, none⟩ = some (.int .i64 am) ∧ gD.cell? ⟨aa, 14, none⟩ = some (.int .i64 ak) ∧ gD.cell? ⟨aa, 15, none⟩ = some (.int .i64 ah) ∧ gD.cell? ⟨aa, 16, none⟩ = some (.int .i64 ai) ∧ gD.cell? ⟨aa, 17, none⟩ = some (.int .i64 al) ∧ gD.cell? ⟨aa, 18, none⟩ = some (.int .i64 ao) ∧ gD.cell? ⟨aa, 19, none⟩ = some (.string ac) ∧ gD.cell? ⟨aa, 20, none⟩ = some (.string af) ∧ gD.cell? ⟨aa, 21, none⟩ = some (.slice aT ae.length aN) ∧ gD.cell? ⟨aa, 22, none⟩ = some (.int .i64 aq) ∧ gD.cell? ⟨aa, 23, none⟩ = some (.string ar) ∧ gD.cell? ⟨aa, 24, none⟩ = some (.slice aJ ag.length aK) := hS_
            refine norm_ (a' := ?_) ?_ ?_
            rotate_left
            ·simp only [putAll, Act.put, List.setIfInBounds_toArray, List.set_cons_zero, List.set_cons_succ]
             rfl
            refine one_ (i := 8) (N := some 23) #[true, true, true, true, true, true, true, true, true, false, true, true, true, false, true, true, false, true, true, true, false, true, true, false, true, true, true, false, true, false, false, false] rfl rfl (one_of HT_.out Z6) Z32 (fun K hK => ?_)
            have hcv27 := own_string (P := Try.prog) Try.underlying51 Try.underlying5 Try.underlying9 (Kd.own_of_R cC.out)
            refine value_ (w1 := ?_) (v := ?_) Z13 rfl ?_ ?_
            rotate_left 2
            ·go_simp
             constructor
             ·rfl
             ·rfl
            clear hcv27
            refine hK.out _ _ ⟨(blk_cell ab.out 0).trans rfl, (blk_cell ab.out 1).trans rfl, (blk_cell ab.out 2).trans rfl, (blk_cell ab.out 3).trans rfl, (blk_cell ab.out 4).trans rfl, (blk_cell ab.out 5).trans rfl, (blk_cell ab.out 6).trans rfl, (blk_cell ab.out 7).trans rfl, (blk_cell ab.out 8).trans rfl, (blk_cell ab.out 9).trans rfl, (blk_cell ab.out 10).trans rfl, (blk_cell ab.out 11).trans rfl, (blk_cell ab.out 12).trans rfl, (blk_cell ab.out 13).trans rfl, (blk_cell ab.out 14).trans rfl, (blk_cell ab.out 15).trans rfl, (blk_cell ab.out 16).trans rfl, (blk_cell ab.out 17).trans rfl, (blk_cell ab.out 18).trans rfl, (blk_cell ab.out 19).trans rfl, (blk_cell ab.out 20).trans rfl, (blk_cell ab.out 21).trans rfl, (blk_cell ab.out 22).trans rfl, (blk_cell ab.out 23).trans rfl, (blk_cell ab.out 24).trans rfl⟩ (fun hHeld => ?_)
            clear hK K
            refine norm_ (a' := ?_) ?_ ?_
            rotate_left
            ·show Act.put _ (some 23) _ = _
             simp only [Act.put, List.setIfInBounds_toArray, List.set_cons_zero, List.set_cons_succ, i64_w, i32_w]
             rfl
            refine pure_ (i := 9) (N := some 24) (v := ?_) (a' := ?_) #[true, true, true, true, true, true, true, true, true, true, true, true, true, false, true, true, false, true, true, true, false, true, true, false, true, true, true, false, true, false, false, false] rfl rfl (any_of HT_.out Z6) (fun _ _ _ h => h) (Or.inl ⟨Z13, ?_⟩) ?_ ?_
            rotate_left
            ·intro w'
             go_simp
             with_reducible rfl
            rotate_left
            ·simp only [Act.put, List.setIfInBounds_toArray, List.set_cons_zero, List.set_cons_succ, i64_w, i32_w]
             rfl
            refine pure_ (i := 13) (N := some 28) (v := ?_) (a' := ?_) #[true, true, true, true, true, true, true, true, true, true, true, true, true, true, true, true, false, true, true, true, false, true, true, false, true, true, true, false, true, false, false, false] rfl rfl (any_of HT_.out Z6) (fun _ _ _ h => h) (Or.inl ⟨Z13, ?_⟩) ?_ ?_
            rotate_left
            ·intro w'
             go_simp
             with_reducible rfl
            rotate_left
            ·simp only [Act.put, List.setIfInBounds_toArray, List.set_cons_zero, List.set_cons_succ, i64_w, i32_w]
             rfl
            refine pure_ (i := 16) (N := some 31) (v := ?_) (a' := ?_) #[true, true, true, true, true, true, true, true, true, true, true, true, true, true, true, true, true, true, true, true, false, true, true, false, true, true, true, false, true, false, false, false] rfl rfl (any_of HT_.out Z6) (fun _ _ _ h => h) (Or.inl ⟨Z13, ?_⟩) ?_ ?_
            rotate_left
            ·intro w'
             go_simp
             with_reducible rfl
            rotate_left
            ·simp only [Act.put, List.setIfInBounds_toArray, List.set_cons_zero, List.set_cons_succ, i64_w, i32_w]
             rfl
            refine pure_ (i := 20) (N := some 35) (v := ?_) (a' := ?_) #[true, true, true, true, true, true, true, true, true, true, true, true, true, true, true, true, true, true, true, true, true, true, true, false, true, true, true, false, true, false, false, false] rfl rfl (any_of HT_.out Z6) (fun _ _ _ h => h) (Or.inl ⟨Z13, ?_⟩) ?_ ?_
            rotate_left
            ·intro w'
             go_simp
             with_reducible rfl
            rotate_left
            ·simp only [Act.put, List.setIfInBounds_toArray, List.set_cons_zero, List.set_cons_succ, i64_w, i32_w]
             rfl
            refine pure_ (i := 23) (N := some 38) (v := ?_) (a' := ?_) #[true, true, true, true, true, true, true, true, true, true, true, true, true, true, true, true, true, true, true, true, true, true, true, true, true, true, true, false, true, false, false, false] rfl rfl (any_of HT_.out Z6) (fun _ _ _ h => h) (Or.inl ⟨Z13, ?_⟩) ?_ ?_
            rotate_left
            ·intro w'
             go_simp
             with_reducible rfl
            rotate_left
            ·simp only [Act.put, List.setIfInBounds_toArray, List.set_cons_zero, List.set_cons_succ, i64_w, i32_w]
             rfl
            exact norm_ Z20 (hJ7_8_12_19_26 (dJ) _ ⟨hHeld, Z24, Z1, Z0⟩)
          ·skip
           rintro dJ gD ⟨hS_, h0_, h1_, h2_⟩
           have aG : Aside0 (Kd.R (Kd.int .u8) 5 gD w.heap.size (fun _ => True) dJ bb) := ⟨h0_⟩
           have aH : Aside0 (gD.heap[aa]? = some (.cells #[.int .i64 av, .int .i64 au, .int .i64 aw, .string ay, .int .i64 aD, .int .i64 az, .string aA, .int .i64 ax, .int .i64 aE, .string aC, .int .i64 ap, .string an, .int .i64 aj, .int .i64 am, .int .i64 ak, .int .i64 ah, .int .i64 ai, .int .i64 al, .int .i64 ao, .string ac, .string af, .slice aT ae.length aN, .int .i64 aq, .string ar, .slice aJ ag.length aK] 25 (0, 0))) := ⟨h1_⟩
           have aI : Aside0 (Below w.heap.size w gD) := ⟨h2_⟩
           clear ab
           clear HB
           clear h0_ h1_ h2_
           have cC := aG
           have ab := aH
           have HB := aI
           clear aG aH aI
           have hHeld : gD.cell? ⟨aa, 0, none⟩ = some (.int .i64 av) ∧ gD.cell? ⟨aa, 1, none⟩ = some (.int .i64 au) ∧ gD.cell? ⟨aa, 2, none⟩ = some (.int .i64 aw) ∧ gD.cell? ⟨aa, 3, none⟩ = some (.string ay) ∧ gD.cell? ⟨aa, 4, none⟩ = some (.int .i64 aD) ∧ gD.cell? ⟨aa, 5, none⟩ = some (.int .i64 az) ∧ gD.cell? ⟨aa, 6, none⟩ = some (.string aA) ∧ gD.cell? ⟨aa, 7, none⟩ = some (.int .i64 ax) ∧ gD.cell? ⟨aa, 8, none⟩ = some (.int .i64 aE) ∧ gD.cell? ⟨aa, 9, none⟩ = some (.string aC) ∧ gD.cell? ⟨aa, 10, none⟩ = some (.int .i64 ap) ∧ gD.cell? ⟨aa, 11, none⟩ = some (.string an) ∧ gD.cell? ⟨aa, 12, none⟩ = some (.int .i64 aj) ∧ gD.cell? ⟨aa, 13, none⟩ = some (.int .i64 am) ∧ gD.cell? ⟨aa, 14, none⟩ = some (.int .i64 ak) ∧ gD.cell? ⟨aa, 15, none⟩ = some (.int .i64 ah) ∧ gD.cell? ⟨aa, 16, none⟩ = some (.int .i64 ai) ∧ gD.cell? ⟨aa, 17, none⟩ = some (.int .i64 al) ∧ gD.cell? ⟨aa, 18, none⟩ = some (.int .i64 ao) ∧ gD.cell? ⟨aa, 19, none⟩ = some (.string ac) ∧ gD.cell? ⟨aa, 20, none⟩ = some (.string af) ∧ gD.cell? ⟨aa, 21, none⟩ = some (.slice aT ae.length aN) ∧ gD.cell? ⟨aa, 22, none⟩ = some (.int .i64 aq) ∧ gD.cell? ⟨aa, 23, none⟩ = some (.string ar) ∧ gD.cell? ⟨aa, 24, none⟩ = some (.slice aJ ag.length aK) := hS_
           refine norm_ (a' := ?_) ?_ ?_
           rotate_left
           ·simp only [putAll, Act.put, List.setIfInBounds_toArray, List.set_cons_zero, List.set_cons_succ]
            rfl
           refine one_ (i := 26) (N := some 41) #[true, true, true, true, true, true, true, true, true, true, true, true, true, true, true, true, true, true, true, true, true, true, true, true, true, true, true, false, true, false, false, false] rfl rfl (one_of HT_.out Z6) Z32 (fun K hK => ?_)
           refine goes_ Try.func52 Z6 rfl #[.int .i64 am, .int .i64 4] Z13 rfl rfl Z5 ?_
           with_reducible refine (roadbookref02_Of.calls k am 4 bi _ ln.out).mono ?_
           rintro e iy ⟨rfl, hb⟩
           refine ⟨_, rfl, ?_⟩
           have aG := Aside0.mk (Kd.R_below Z24 hb)
           have aH := Aside0.mk (blk_below (g := aa) Z1 hb)
           have aI := Aside0.mk (below_step Z0 hb)
           clear cC
           clear ab
           clear HB
           have cC := aG
           have ab := aH
           have HB := aI
           clear aG aH aI
           (try clear hb)
           (try clear hb2)
           (try clear hk)
           (try clear hi)
           refine hK.out _ _ ⟨(blk_cell ab.out 0).trans rfl, (blk_cell ab.out 1).trans rfl, (blk_cell ab.out 2).trans rfl, (blk_cell ab.out 3).trans rfl, (blk_cell ab.out 4).trans rfl, (blk_cell ab.out 5).trans rfl, (blk_cell ab.out 6).trans rfl, (blk_cell ab.out 7).trans rfl, (blk_cell ab.out 8).trans rfl, (blk_cell ab.out 9).trans rfl, (blk_cell ab.out 10).trans rfl, (blk_cell ab.out 11).trans rfl, (blk_cell ab.out 12).trans rfl, (blk_cell ab.out 13).trans rfl, (blk_cell ab.out 14).trans rfl, (blk_cell ab.out 15).trans rfl, (blk_cell ab.out 16).trans rfl, (blk_cell ab.out 17).trans rfl, (blk_cell ab.out 18).trans rfl, (blk_cell ab.out 19).trans rfl, (blk_cell ab.out 20).trans rfl, (blk_cell ab.out 21).trans rfl, (blk_cell ab.out 22).trans rfl, (blk_cell ab.out 23).trans rfl, (blk_cell ab.out 24).trans rfl⟩ (fun hHeld => ?_)
           clear hK K
           refine norm_ (a' := ?_) ?_ ?_
           rotate_left
           ·show Act.put _ (some 41) _ = _
            simp only [Act.put, List.setIfInBounds_toArray, List.set_cons_zero, List.set_cons_succ, i64_w, i32_w]
            rfl
           exact norm_ Z20 (hJ7_8_12_19_26 (dJ) _ ⟨hHeld, Z24, Z1, Z0⟩)
         rintro dJ iy ⟨hS_, h0_, h1_, h2_⟩
         have aG : Aside0 (Kd.R (Kd.int .u8) 5 iy w.heap.size (fun _ => True) dJ bb) := ⟨h0_⟩
         have aH : Aside0 (iy.heap[aa]? = some (.cells #[.int .i64 av, .int .i64 au, .int .i64 aw, .string ay, .int .i64 aD, .int .i64 az, .string aA, .int .i64 ax, .int .i64 aE, .string aC, .int .i64 ap, .string an, .int .i64 aj, .int .i64 am, .int .i64 ak, .int .i64 ah, .int .i64 ai, .int .i64 al, .int .i64 ao, .string ac, .string af, .slice aT ae.length aN, .int .i64 aq, .string ar, .slice aJ ag.length aK] 25 (0, 0))) := ⟨h1_⟩
         have aI : Aside0 (Below w.heap.size w iy) := ⟨h2_⟩
         clear ab
         clear HB
         clear h0_ h1_ h2_
         have cC := aG
         have ab := aH
         have HB := aI
         clear aG aH aI
         have hHeld : iy.cell? ⟨aa, 0, none⟩ = some (.int .i64 av) ∧ iy.cell? ⟨aa, 1, none⟩ = some (.int .i64 au) ∧ iy.cell? ⟨aa, 2, none⟩ = some (.int .i64 aw) ∧ iy.cell? ⟨aa, 3, none⟩ = some (.string ay) ∧ iy.cell? ⟨aa, 4, none⟩ = some (.int .i64 aD) ∧ iy.cell? ⟨aa, 5, none⟩ = some (.int .i64 az) ∧ iy.cell? ⟨aa, 6, none⟩ = some (.string aA) ∧ iy.cell? ⟨aa, 7, none⟩ = some (.int .i64 ax) ∧ iy.cell? ⟨aa, 8, none⟩ = some (.int .i64 aE) ∧ iy.cell? ⟨aa, 9, none⟩ = some (.string aC) ∧ iy.cell? ⟨aa, 10, none⟩ = some (.int .i64 ap) ∧ iy.cell? ⟨aa, 11, none⟩ = some (.string an) ∧ iy.cell? ⟨aa, 12, none⟩ = some (.int .i64 aj) ∧ iy.cell? ⟨aa, 13, none⟩ = some (.int .i64 am) ∧ iy.cell? ⟨aa, 14, none⟩ = some (.int .i64 ak) ∧ iy.cell? ⟨aa, 15, none⟩ = some (.int .i64 ah) ∧ iy.cell? ⟨aa, 16, none⟩ = some (.int .i64 ai) ∧ iy.cell? ⟨aa, 17, none⟩ = some (.int .i64 al) ∧ iy.cell? ⟨aa, 18, none⟩ = some (.int .i64 ao) ∧ iy.cell? ⟨aa, 19, none⟩ = some (.string ac) ∧ iy.cell? ⟨aa, 20, none⟩ = some (.string af) ∧ iy.cell? ⟨aa, 21, none⟩ = some (.slice aT ae.length aN) ∧ iy.cell? ⟨aa, 22, none⟩ = some (.int .i64 aq) ∧ iy.cell? ⟨aa, 23, none⟩ = some (.string ar) ∧ iy.cell? ⟨aa, 24, none⟩ = some (.slice aJ ag.length aK) := hS_
         refine norm_ (a' := ?_) ?_ ?_
         rotate_left
         ·simp only [putAll, Act.put, List.setIfInBounds_toArray, List.set_cons_zero, List.set_cons_succ]
          rfl
         refine pure_ (i := 27) (N := some 42) (v := ?_) (a' := ?_) #[true, true, true, true, true, true, true, true, true, true, true, true, true, true, true, true, true, true, true, true, true, true, true, true, true, true, true, true, true, false, false, false] rfl rfl (any_of HT_.out Z6) (fun _ _ _ h => h) (Or.inl ⟨Z13, ?_⟩) ?_ ?_
         rotate_left
         ·intro w'
          go_simp
          with_reducible rfl
         rotate_left
         ·simp only [Act.put, List.setIfInBounds_toArray, List.set_cons_zero, List.set_cons_succ, i64_w, i32_w]
          rfl
         refine pure_ (i := 29) (N := some 44) (v := ?_) (a' := ?_) #[true, true, true, true, true, true, true, true, true, true, true, true, true, true, true, true, true, true, true, true, true, true, true, true, true, true, true, true, true, true, false, false] rfl rfl (any_of HT_.out Z6) (fun _ _ _ h => h) (Or.inl ⟨Z13, ?_⟩) ?_ ?_
         rotate_left
         ·intro w'
          go_simp
          with_reducible rfl
         rotate_left
         ·simp only [Act.put, List.setIfInBounds_toArray, List.set_cons_zero, List.set_cons_succ, i64_w, i32_w]
          rfl
         refine pure_ (i := 30) (N := some 2) (v := ?_) (a' := ?_) #[true, true, true, true, true, true, true, true, true, true, true, true, true, true, true, true, true, true, true, true, true, true, true, true, true, true, true, true, true, true, true, false] rfl rfl (any_of HT_.out Z6) (fun _ _ _ h => h) (Or.inl ⟨Z13, ?_⟩) ?_ ?_
         rotate_left
         ·intro w'
          go_simp
          with_reducible rfl
         rotate_left
         ·simp only [Act.put, List.setIfInBounds_toArray, List.set_cons_zero, List.set_cons_succ, i64_w, i32_w]
          rfl
         refine pure_ (i := 31) (N := some 3) (v := ?_) (a' := ?_) #[true, true, true, true, true, true, true, true, true, true, true, true, true, true, true, true, true, true, true, true, true, true, true, true, true, true, true, true, true, true, true, true] rfl rfl (any_of HT_.out Z6) (fun _ _ _ h => h) (Or.inl ⟨Z13, ?_⟩) ?_ ?_
         rotate_left
         ·intro w'
          go_simp
          with_reducible rfl
         rotate_left
         ·simp only [Act.put, List.setIfInBounds_toArray, List.set_cons_zero, List.set_cons_succ, i64_w, i32_w]
          rfl
         refine done_ (done_of HT_.out Z6) ?_
         try go_wp2_with (first | ((with_reducible refine Pre.gate_load 25 rfl ?_); (try (refine gate_guard Z13 ?_; dsimp only)); refine Pre.load_event rfl rfl rfl Z13 Z2 Try.underlying25 rfl Z6 ?_))
         go_ret2
         exact ⟨Z9, Z0⟩
        ·rw [if_neg gW] at H
         exact absurd H Z73
       ·rw [if_neg dB] at H
        exact absurd H Z73
      ·rw [if_neg cU] at H
       exact absurd H Z73
     ·rw [if_neg cX] at H
      exact absurd H Z73
    ·rw [if_neg c8] at H
     exact absurd H Z73
   ·rw [if_neg c7] at H
    exact absurd H Z73
  ·rw [if_neg c5] at H
   exact absurd H Z73
 ·replace c3 := Bool.eq_false_iff.mpr c3
  subst c3
  have H1 : (some ((⟨#[]⟩ : ByteArray), false)) = some (r1, r2) := by rw [if_neg (show ¬ (false = true) by decide)] at H; exact H
  clear H
  have H := H1
  clear H1
  simp only [Option.some.injEq, Prod.mk.injEq] at H
  obtain ⟨rfl, rfl⟩ := H
  go_enter Try.func19, Try.ntmps19
  go_wp2_with (first | ((with_reducible refine Pre.gate_load 25 rfl ?_); (try (refine gate_guard Z13 ?_; dsimp only)); refine Pre.load_event rfl rfl rfl Z13 Z2 Try.underlying25 rfl Z6 ?_) | ((with_reducible refine gate_dst (N := 1) rfl ?_); refine box_event ?hg (N := 1) ?hd (cs := #[.int .i64 av, .int .i64 au, .int .i64 aw, .string ay, .int .i64 aD, .int .i64 az, .string aA, .int .i64 ax, .int .i64 aE, .string aC, .int .i64 ap, .string an, .int .i64 aj, .int .i64 am, .int .i64 ak, .int .i64 ah, .int .i64 ai, .int .i64 al, .int .i64 ao, .string ac, .string af, .slice aT ae.length aN, .int .i64 aq, .string ar, .slice aJ ag.length aK]) (t := 25) ?hr ?_; (case hd => rfl); (case hg => rfl); (case hr => first | (go_simp; done) | (go_simp; rfl)); intro aa hg nl hbox hb; have aG := Aside0.mk (below_step Z3 hb); have aH := Aside0.mk (hbox); have aI := Aside0.mk ((by rw [hg]; exact (below_size Z3) : w.heap.size ≤ aa)); have aZ := Aside0.mk ((by rw [hg]; exact (below_size Z3) : w.heap.size ≤ aa)); replace HB := aG; have ab := aH; have cl := aI; have bs := aZ; clear aG aH aI aZ; clear hb hbox hg; have kr := cells_25 ab.out) | ((with_reducible refine gate_callee (f := 21) rfl ?_); refine goesL_ (some 7) rfl rfl Try.func21 Z6 rfl #[.agg #[.int .i64 av, .int .i64 au, .int .i64 aw, .string ay, .int .i64 aD, .int .i64 az, .string aA, .int .i64 ax, .int .i64 aE, .string aC, .int .i64 ap, .string an, .int .i64 aj, .int .i64 am, .int .i64 ak, .int .i64 ah, .int .i64 ai, .int .i64 al, .int .i64 ao, .string ac, .string af, .slice aT ae.length aN, .int .i64 aq, .string ar, .slice aJ ag.length aK]] rfl Z5 ?_; (with_reducible refine (roadbookref14_Right.calls k av au aw ay aD az aA ax aE aC ap an aj am ak ah ai al ao ac af _ _ ae aq ar _ _ ag false _ ?side1 ?side2 ?side3 ?side4 A2.out).mono ?_); (case side1 => exact Z8); (case side2 => exact bl.out); (case side3 => exact Z7); (case side4 => exact bg.out); rintro e gM ⟨rfl, hb⟩; refine ⟨_, rfl, ?_⟩; have aG := Aside0.mk (blk_below (g := aa) Z1 hb); have aH := Aside0.mk (below_step Z0 hb); replace ab := aG; replace HB := aH; clear aG aH; (try clear hb); (try clear hb2); (try clear hk); (try clear hi)))
  go_ret2
  exact ⟨Z9, Z0⟩

end Go.Proofs.Ytccjakjjaemmkaa.PR
