-- Written by mp.py, a program of this work (wip/tools), out of the translation; Lean checks it.
import Derived.Test.YtccjakjjaemmkaaPRxZ
import Derived.Test.YtccjakjjaemmkaaPRxroadbookref02
import Derived.Test.YtccjakjjaemmkaaPRxroadbookref13
import Derived.Test.YtccjakjjaemmkaaPRxroadbookref15
import Derived.Test.YtccjakjjaemmkaaLoad
namespace Go.Proofs.Ytccjakjjaemmkaa.PR
open Go.RowKit Go.Proofs.YtccjakjjaemmkaaW.PrintWords Go.Proofs.YtccjakjjaemmkaaW.PrintLast Go.Proofs.YtccjakjjaemmkaaW.PrintMore
attribute [local go_sem] max2_int min2_int max_two min_two max_three min_three max_four min_four   -- for this text's walks alone
set_option linter.unusedVariables false
set_option linter.unusedSimpArgs false

/-! ### roadbookref15_Put: function 35 -/
def roadbookref15_Put.f (k : Nat) (av : Int) (au : Int) (aw : Int) (ay : ByteArray) (aD : Int) (az : Int) (aA : ByteArray) (ax : Int) (aE : Int) (aC : ByteArray) (ap : Int) (an : ByteArray) (aj : Int) (am : Int) (ak : Int) (ah : Int) (ai : Int) (al : Int) (ao : Int) (ac : ByteArray) (af : ByteArray) (ae : List (S46)) (aq : Int) (ar : ByteArray) (ag : List (S48)) : Option (ByteArray × Bool) := (roadbookref15_Right.f k av au aw ay aD az aA ax aE aC ap an aj am ak ah ai al ao ac af ae aq ar ag).bind fun ba => (if ba = true then ((roadbookref13_Put.f k ag).bind fun bW => (if av = 6 then (if 2 + bW.1.size ≤ 9223372036854775807 then (some ((⟨#[4, 0]⟩ : ByteArray) ++ bW.1, true)) else (none)) else ((some (([(wrap64 (64 * ah)) % 256, (ax) % 256, (ai) % 256] : List Int) : List Int)).bind fun bb => (if 1 + (strOfNums bb).size ≤ 9223372036854775807 then (if ((⟨#[2]⟩ : ByteArray) ++ (strOfNums bb)).size + ac.size ≤ 9223372036854775807 then ((roadbookref02_Of.f k aj 4).bind fun aQ => (if (((⟨#[2]⟩ : ByteArray) ++ (strOfNums bb)) ++ ac).size + aQ.size ≤ 9223372036854775807 then (if ((((⟨#[2]⟩ : ByteArray) ++ (strOfNums bb)) ++ ac) ++ aQ).size + af.size ≤ 9223372036854775807 then ((roadbookref02_Of.f k ak 4).bind fun aV => (if (((((⟨#[2]⟩ : ByteArray) ++ (strOfNums bb)) ++ ac) ++ aQ) ++ af).size + aV.size ≤ 9223372036854775807 then (if ((((((⟨#[2]⟩ : ByteArray) ++ (strOfNums bb)) ++ ac) ++ aQ) ++ af) ++ aV).size + bW.1.size ≤ 9223372036854775807 then (some (((((((⟨#[2]⟩ : ByteArray) ++ (strOfNums bb)) ++ ac) ++ aQ) ++ af) ++ aV) ++ bW.1, true)) else (none)) else (none))) else (none)) else (none))) else (none)) else (none))))) else (some ((⟨#[]⟩ : ByteArray), false)))
theorem roadbookref15_Put.mono : ∀ a0 a1 a2 a3 a4 a5 a6 a7 a8 a9 fJ fK fL fM fN fO fP fQ fR fS fT fU fV fW fX k, LeO (roadbookref15_Put.f k a0 a1 a2 a3 a4 a5 a6 a7 a8 a9 fJ fK fL fM fN fO fP fQ fR fS fT fU fV fW fX) (roadbookref15_Put.f (k + 1) a0 a1 a2 a3 a4 a5 a6 a7 a8 a9 fJ fK fL fM fN fO fP fQ fR fS fT fU fV fW fX) := by
 intro a0 a1 a2 a3 a4 a5 a6 a7 a8 a9 fJ fK fL fM fN fO fP fQ fR fS fT fU fV fW fX k
 unfold roadbookref15_Put.f
 repeat' first
   | (with_reducible exact roadbookref02_Of.mono _ _ _)
   | (with_reducible exact roadbookref13_Put.mono _ _)
   | (with_reducible exact roadbookref15_Right.mono _ _ _ _ _ _ _ _ _ _ _ _ _ _ _ _ _ _ _ _ _ _ _ _ _ _)
   | (with_reducible exact LeO.refl _)
   | (with_reducible exact LeO.none _)
   | (with_reducible refine LeO.ite ?_ ?_)
   | (with_reducible refine LeO.bind ?_ (fun _ => ?_))
   | exact roadbookref02_Of.mono _ _ _
   | exact roadbookref13_Put.mono _ _
   | exact roadbookref15_Right.mono _ _ _ _ _ _ _ _ _ _ _ _ _ _ _ _ _ _ _ _ _ _ _ _ _ _
   | exact LeO.none _
   | refine LeO.ite ?_ ?_
   | refine LeO.bind ?_ (fun _ => ?_)
def roadbookref15_Put.T6 : Bool × List (List Nat × List Nat) := (true, [([], []), ([0], [0]), ([1], [1]), ([2], [2]), ([], []), ([4], [4]), ([5], [5]), ([], []), ([7], [7]), ([8], [8]), ([3, 6, 9], [3, 6, 9]), ([10], [10]), ([11], [11]), ([], []), ([13], [13]), ([12, 14], [12, 14]), ([], []), ([16], [16]), ([17], [17]), ([15, 18], [15, 18]), ([], []), ([20], [20]), ([19, 21], [19, 21]), ([], []), ([23], [23]), ([24, 18], [24]), ([22, 25], [22, 25]), ([], []), ([26, 27], [26, 27]), ([28, 25, 0, 1, 2, 3, 4, 5, 6, 7, 8, 9, 10, 11, 12, 13, 14, 15, 16, 17, 18, 19, 20, 21, 22, 23, 24, 25, 26, 27, 28], [28]), ([29, 0, 1, 2, 3, 4, 5, 6, 7, 8, 9, 10, 11, 12, 13, 14, 15, 16, 17, 18, 19, 20, 21, 22, 23, 24, 25, 26, 27, 28, 29], [])])
def roadbookref15_Put.B6 : List Nat := [0, 1, 3, 7, 0, 16, 48, 0, 128, 384, 1023, 2047, 4095, 0, 8192, 32767, 0, 65536, 196608, 524287, 0, 1048576, 4194303, 0, 8388608, 25624576, 67108863, 0, 268435455, 536870911, 1073741823]
theorem roadbookref15_Put.tab6 : rtab .any (opsOf Try.f35 6) = roadbookref15_Put.T6 := by kernel_rfl
theorem roadbookref15_Put.bits6 : waitsOk roadbookref15_Put.T6.2 roadbookref15_Put.B6 = true := by kernel_rfl

set_option maxHeartbeats 8000000 in
set_option maxRecDepth 100000 in
theorem roadbookref15_Put.calls (k : Nat) (av : Int) (au : Int) (aw : Int) (ay : ByteArray) (aD : Int) (az : Int) (aA : ByteArray) (ax : Int) (aE : Int) (aC : ByteArray) (ap : Int) (an : ByteArray) (aj : Int) (am : Int) (ak : Int) (ah : Int) (ai : Int) (al : Int) (ao : Int) (ac : ByteArray) (af : ByteArray) (aT : Option Addr) (aN : Nat) (ae : List (S46)) (aq : Int) (ar : ByteArray) (aJ : Option Addr) (aK : Nat) (ag : List (S48)) (r1 : ByteArray) (r2 : Bool) (w : World) (bY : Kd.C k46 w aT ae.length ae) (bZ : ae.length ≤ aN) (ca : Kd.C k48 w aJ ag.length ag) (cb : ag.length ≤ aK) (h : roadbookref15_Put.f k av au aw ay aD az aA ax aE aC ap an aj am ak ah ai al ao ac af ae aq ar ag = some (r1, r2)) :
  Calls Try.prog 35 #[.agg #[.int .i64 av, .int .i64 au, .int .i64 aw, .string ay, .int .i64 aD, .int .i64 az, .string aA, .int .i64 ax, .int .i64 aE, .string aC, .int .i64 ap, .string an, .int .i64 aj, .int .i64 am, .int .i64 ak, .int .i64 ah, .int .i64 ai, .int .i64 al, .int .i64 ao, .string ac, .string af, .slice aT ae.length aN, .int .i64 aq, .string ar, .slice aJ ag.length aK]] w fun e w' => e = .returned (.tuple #[.string r1, .bool r2]) ∧ Below w.heap.size w w' := by
 have gB := Try.underlying25
 have cT := Aside0.mk bY
 have bl := Aside0.mk bZ
 clear bY bZ
 have cP := Aside0.mk ca
 have bg := Aside0.mk cb
 clear ca cb
 have HB := Aside0.mk (Below.refl w.heap.size w)
 have H : ((roadbookref15_Right.f k av au aw ay aD az aA ax aE aC ap an aj am ak ah ai al ao ac af ae aq ar ag).bind fun ba => (if ba = true then ((roadbookref13_Put.f k ag).bind fun bW => (if av = 6 then (if 2 + bW.1.size ≤ 9223372036854775807 then (some ((⟨#[4, 0]⟩ : ByteArray) ++ bW.1, true)) else (none)) else ((some (([(wrap64 (64 * ah)) % 256, (ax) % 256, (ai) % 256] : List Int) : List Int)).bind fun bb => (if 1 + (strOfNums bb).size ≤ 9223372036854775807 then (if ((⟨#[2]⟩ : ByteArray) ++ (strOfNums bb)).size + ac.size ≤ 9223372036854775807 then ((roadbookref02_Of.f k aj 4).bind fun aQ => (if (((⟨#[2]⟩ : ByteArray) ++ (strOfNums bb)) ++ ac).size + aQ.size ≤ 9223372036854775807 then (if ((((⟨#[2]⟩ : ByteArray) ++ (strOfNums bb)) ++ ac) ++ aQ).size + af.size ≤ 9223372036854775807 then ((roadbookref02_Of.f k ak 4).bind fun aV => (if (((((⟨#[2]⟩ : ByteArray) ++ (strOfNums bb)) ++ ac) ++ aQ) ++ af).size + aV.size ≤ 9223372036854775807 then (if ((((((⟨#[2]⟩ : ByteArray) ++ (strOfNums bb)) ++ ac) ++ aQ) ++ af) ++ aV).size + bW.1.size ≤ 9223372036854775807 then (some (((((((⟨#[2]⟩ : ByteArray) ++ (strOfNums bb)) ++ ac) ++ aQ) ++ af) ++ aV) ++ bW.1, true)) else (none)) else (none))) else (none)) else (none))) else (none)) else (none))))) else (some ((⟨#[]⟩ : ByteArray), false)))) = some (r1, r2) := h
 clear h
 replace H := Option.bind_eq_some_iff.mp H
 obtain ⟨ba, gN, H⟩ := H
 replace H : (if ba = true then ((roadbookref13_Put.f k ag).bind fun bW => (if av = 6 then (if 2 + bW.1.size ≤ 9223372036854775807 then (some ((⟨#[4, 0]⟩ : ByteArray) ++ bW.1, true)) else (none)) else ((some (([(wrap64 (64 * ah)) % 256, (ax) % 256, (ai) % 256] : List Int) : List Int)).bind fun bb => (if 1 + (strOfNums bb).size ≤ 9223372036854775807 then (if ((⟨#[2]⟩ : ByteArray) ++ (strOfNums bb)).size + ac.size ≤ 9223372036854775807 then ((roadbookref02_Of.f k aj 4).bind fun aQ => (if (((⟨#[2]⟩ : ByteArray) ++ (strOfNums bb)) ++ ac).size + aQ.size ≤ 9223372036854775807 then (if ((((⟨#[2]⟩ : ByteArray) ++ (strOfNums bb)) ++ ac) ++ aQ).size + af.size ≤ 9223372036854775807 then ((roadbookref02_Of.f k ak 4).bind fun aV => (if (((((⟨#[2]⟩ : ByteArray) ++ (strOfNums bb)) ++ ac) ++ aQ) ++ af).size + aV.size ≤ 9223372036854775807 then (if ((((((⟨#[2]⟩ : ByteArray) ++ (strOfNums bb)) ++ ac) ++ aQ) ++ af) ++ aV).size + bW.1.size ≤ 9223372036854775807 then (some (((((((⟨#[2]⟩ : ByteArray) ++ (strOfNums bb)) ++ ac) ++ aQ) ++ af) ++ aV) ++ bW.1, true)) else (none)) else (none))) else (none)) else (none))) else (none)) else (none))))) else (some ((⟨#[]⟩ : ByteArray), false))) = some (r1, r2) := H
 have A2 := Aside0.mk gN
 clear gN
 by_cases c3 : ba = true
 ·subst c3
  have H1 : ((roadbookref13_Put.f k ag).bind fun bW => (if av = 6 then (if 2 + bW.1.size ≤ 9223372036854775807 then (some ((⟨#[4, 0]⟩ : ByteArray) ++ bW.1, true)) else (none)) else ((some (([(wrap64 (64 * ah)) % 256, (ax) % 256, (ai) % 256] : List Int) : List Int)).bind fun bb => (if 1 + (strOfNums bb).size ≤ 9223372036854775807 then (if ((⟨#[2]⟩ : ByteArray) ++ (strOfNums bb)).size + ac.size ≤ 9223372036854775807 then ((roadbookref02_Of.f k aj 4).bind fun aQ => (if (((⟨#[2]⟩ : ByteArray) ++ (strOfNums bb)) ++ ac).size + aQ.size ≤ 9223372036854775807 then (if ((((⟨#[2]⟩ : ByteArray) ++ (strOfNums bb)) ++ ac) ++ aQ).size + af.size ≤ 9223372036854775807 then ((roadbookref02_Of.f k ak 4).bind fun aV => (if (((((⟨#[2]⟩ : ByteArray) ++ (strOfNums bb)) ++ ac) ++ aQ) ++ af).size + aV.size ≤ 9223372036854775807 then (if ((((((⟨#[2]⟩ : ByteArray) ++ (strOfNums bb)) ++ ac) ++ aQ) ++ af) ++ aV).size + bW.1.size ≤ 9223372036854775807 then (some (((((((⟨#[2]⟩ : ByteArray) ++ (strOfNums bb)) ++ ac) ++ aQ) ++ af) ++ aV) ++ bW.1, true)) else (none)) else (none))) else (none)) else (none))) else (none)) else (none))))) = some (r1, r2) := by rw [if_pos rfl] at H; exact H
  clear H
  have H := H1
  clear H1
  replace H := Option.bind_eq_some_iff.mp H
  obtain ⟨⟨bf, bc⟩, jA, H⟩ := H
  replace H : (if av = 6 then (if 2 + bf.size ≤ 9223372036854775807 then (some ((⟨#[4, 0]⟩ : ByteArray) ++ bf, true)) else (none)) else ((some (([(wrap64 (64 * ah)) % 256, (ax) % 256, (ai) % 256] : List Int) : List Int)).bind fun bb => (if 1 + (strOfNums bb).size ≤ 9223372036854775807 then (if ((⟨#[2]⟩ : ByteArray) ++ (strOfNums bb)).size + ac.size ≤ 9223372036854775807 then ((roadbookref02_Of.f k aj 4).bind fun aQ => (if (((⟨#[2]⟩ : ByteArray) ++ (strOfNums bb)) ++ ac).size + aQ.size ≤ 9223372036854775807 then (if ((((⟨#[2]⟩ : ByteArray) ++ (strOfNums bb)) ++ ac) ++ aQ).size + af.size ≤ 9223372036854775807 then ((roadbookref02_Of.f k ak 4).bind fun aV => (if (((((⟨#[2]⟩ : ByteArray) ++ (strOfNums bb)) ++ ac) ++ aQ) ++ af).size + aV.size ≤ 9223372036854775807 then (if ((((((⟨#[2]⟩ : ByteArray) ++ (strOfNums bb)) ++ ac) ++ aQ) ++ af) ++ aV).size + bf.size ≤ 9223372036854775807 then (some (((((((⟨#[2]⟩ : ByteArray) ++ (strOfNums bb)) ++ ac) ++ aQ) ++ af) ++ aV) ++ bf, true)) else (none)) else (none))) else (none)) else (none))) else (none)) else (none)))) = some (r1, r2) := H
  have A4 := Aside0.mk jA
  clear jA
  by_cases c5 : av = 6
  ·rw [if_pos c5] at H
   have hm : (av == 6) = true := beq_iff_eq.mpr c5
   have jC : (av != 6) = false := bne_eq_false_iff_eq.mpr c5
   clear c5
   by_cases c6 : 2 + bf.size ≤ 9223372036854775807
   ·rw [if_pos c6] at H
    have gZ := eq_true c6
    have ii : decide (2 + bf.size ≤ 9223372036854775807) = true := decide_eq_true c6
    try have lM : (9223372036854775807 < 2 + bf.size) = False := eq_false (Nat.not_lt.2 c6)
    try (have lN := lM; simp only [ByteArray.size_append] at lN)
    simp only [Option.some.injEq, Prod.mk.injEq] at H
    obtain ⟨rfl, rfl⟩ := H
    go_enter Try.func35, Try.ntmps35
    go_wp2_with (first | ((with_reducible refine Pre.gate_load 25 rfl ?_); (try (refine gate_guard Z13 ?_; dsimp only)); refine Pre.load_event rfl rfl rfl Z13 Z2 Try.underlying25 rfl Z6 ?_) | ((with_reducible refine gate_dst (N := 1) rfl ?_); refine box_event ?hg (N := 1) ?hd (cs := #[.int .i64 av, .int .i64 au, .int .i64 aw, .string ay, .int .i64 aD, .int .i64 az, .string aA, .int .i64 ax, .int .i64 aE, .string aC, .int .i64 ap, .string an, .int .i64 aj, .int .i64 am, .int .i64 ak, .int .i64 ah, .int .i64 ai, .int .i64 al, .int .i64 ao, .string ac, .string af, .slice aT ae.length aN, .int .i64 aq, .string ar, .slice aJ ag.length aK]) (t := 25) ?hr ?_; (case hd => rfl); (case hg => rfl); (case hr => first | (go_simp; done) | (go_simp; rfl)); intro aa hg w7 hbox hb; have aG := Aside0.mk (below_step Z3 hb); have aH := Aside0.mk (hbox); have aI := Aside0.mk ((by rw [hg]; exact (below_size Z3) : w.heap.size ≤ aa)); have aZ := Aside0.mk ((by rw [hg]; exact (below_size Z3) : w.heap.size ≤ aa)); replace HB := aG; have ab := aH; have cl := aI; have bs := aZ; clear aG aH aI aZ; clear hb hbox hg; have nC := cells_25 ab.out) | ((with_reducible refine gate_callee (f := 37) rfl ?_); refine goesL_ (some 7) rfl rfl Try.func37 Z6 rfl #[.agg #[.int .i64 av, .int .i64 au, .int .i64 aw, .string ay, .int .i64 aD, .int .i64 az, .string aA, .int .i64 ax, .int .i64 aE, .string aC, .int .i64 ap, .string an, .int .i64 aj, .int .i64 am, .int .i64 ak, .int .i64 ah, .int .i64 ai, .int .i64 al, .int .i64 ao, .string ac, .string af, .slice aT ae.length aN, .int .i64 aq, .string ar, .slice aJ ag.length aK]] rfl Z5 ?_; (with_reducible refine (roadbookref15_Right.calls k av au aw ay aD az aA ax aE aC ap an aj am ak ah ai al ao ac af _ _ ae aq ar _ _ ag true _ ?side1 ?side2 ?side3 ?side4 A2.out).mono ?_); (case side1 => exact Z8); (case side2 => exact bl.out); (case side3 => exact Z7); (case side4 => exact bg.out); rintro e w9 ⟨rfl, hb⟩; refine ⟨_, rfl, ?_⟩; have aG := Aside0.mk (blk_below (g := aa) Z1 hb); have aH := Aside0.mk (below_step Z0 hb); replace ab := aG; replace HB := aH; clear aG aH; (try clear hb); (try clear hb2); (try clear hk); (try clear hi); have jH := cells_25 ab.out) | ((with_reducible refine gate_callee (f := 51) rfl ?_); refine goesL_ (some 12) rfl rfl Try.func51 Z6 rfl #[.slice aJ ag.length aK] rfl Z5 ?_; (with_reducible refine (roadbookref13_Put.calls k _ _ ag bf bc _ ?side1 ?side2 A4.out).mono ?_); (case side1 => exact Z7); (case side2 => exact bg.out); rintro e pA ⟨rfl, hb⟩; refine ⟨_, rfl, ?_⟩; have aG := Aside0.mk (blk_below (g := aa) Z1 hb); have aH := Aside0.mk (below_step Z0 hb); replace ab := aG; replace HB := aH; clear aG aH; (try clear hb); (try clear hb2); (try clear hk); (try clear hi); have md := cells_25 ab.out))
    go_ret2
    exact ⟨Z9, Z0⟩
   ·rw [if_neg c6] at H
    exact absurd H Z73
  ·rw [if_neg c5] at H
   have hm : (av == 6) = false := beq_eq_false_iff_ne.mpr c5
   have jC : (av != 6) = true := bne_iff_ne.mpr c5
   obtain ⟨bb, hy105⟩ : ∃ y_ : List Int, y_ = (([(wrap64 (64 * ah)) % 256, (ax) % 256, (ai) % 256] : List Int)) := ⟨_, rfl⟩
   replace H : (if 1 + (strOfNums bb).size ≤ 9223372036854775807 then (if ((⟨#[2]⟩ : ByteArray) ++ (strOfNums bb)).size + ac.size ≤ 9223372036854775807 then ((roadbookref02_Of.f k aj 4).bind fun aQ => (if (((⟨#[2]⟩ : ByteArray) ++ (strOfNums bb)) ++ ac).size + aQ.size ≤ 9223372036854775807 then (if ((((⟨#[2]⟩ : ByteArray) ++ (strOfNums bb)) ++ ac) ++ aQ).size + af.size ≤ 9223372036854775807 then ((roadbookref02_Of.f k ak 4).bind fun aV => (if (((((⟨#[2]⟩ : ByteArray) ++ (strOfNums bb)) ++ ac) ++ aQ) ++ af).size + aV.size ≤ 9223372036854775807 then (if ((((((⟨#[2]⟩ : ByteArray) ++ (strOfNums bb)) ++ ac) ++ aQ) ++ af) ++ aV).size + bf.size ≤ 9223372036854775807 then (some (((((((⟨#[2]⟩ : ByteArray) ++ (strOfNums bb)) ++ ac) ++ aQ) ++ af) ++ aV) ++ bf, true)) else (none)) else (none))) else (none)) else (none))) else (none)) else (none)) = some (r1, r2) := by first | (rw [hy105]; with_reducible exact H) | (have H2_ := (Option.bind_some _ _).symm.trans H; rw [hy105]; with_reducible exact H2_) | (have H2_ := (Option.bind_some _ _).symm.trans H; with_reducible exact H2_) | with_reducible exact H | (rw [hy105]; exact H) | exact H
   have Ny105 := Aside0.mk hy105
   clear hy105
   by_cases dB : 1 + (strOfNums bb).size ≤ 9223372036854775807
   ·rw [if_pos dB] at H
    have gF := eq_true dB
    have ie : decide (1 + (strOfNums bb).size ≤ 9223372036854775807) = true := decide_eq_true dB
    try have mt : (9223372036854775807 < 1 + (strOfNums bb).size) = False := eq_false (Nat.not_lt.2 dB)
    try (have mu := mt; simp only [ByteArray.size_append] at mu)
    by_cases gW : ((⟨#[2]⟩ : ByteArray) ++ (strOfNums bb)).size + ac.size ≤ 9223372036854775807
    ·rw [if_pos gW] at H
     have ko := eq_true gW
     have kp : decide (((⟨#[2]⟩ : ByteArray) ++ (strOfNums bb)).size + ac.size ≤ 9223372036854775807) = true := decide_eq_true gW
     try have mv : (9223372036854775807 < ((⟨#[2]⟩ : ByteArray) ++ (strOfNums bb)).size + ac.size) = False := eq_false (Nat.not_lt.2 gW)
     try (have mw := mv; simp only [ByteArray.size_append, show (⟨#[2]⟩ : ByteArray).size = 1 from rfl] at mw)
     replace H := Option.bind_eq_some_iff.mp H
     obtain ⟨aQ, pq, H⟩ := H
     replace H : (if (((⟨#[2]⟩ : ByteArray) ++ (strOfNums bb)) ++ ac).size + aQ.size ≤ 9223372036854775807 then (if ((((⟨#[2]⟩ : ByteArray) ++ (strOfNums bb)) ++ ac) ++ aQ).size + af.size ≤ 9223372036854775807 then ((roadbookref02_Of.f k ak 4).bind fun aV => (if (((((⟨#[2]⟩ : ByteArray) ++ (strOfNums bb)) ++ ac) ++ aQ) ++ af).size + aV.size ≤ 9223372036854775807 then (if ((((((⟨#[2]⟩ : ByteArray) ++ (strOfNums bb)) ++ ac) ++ aQ) ++ af) ++ aV).size + bf.size ≤ 9223372036854775807 then (some (((((((⟨#[2]⟩ : ByteArray) ++ (strOfNums bb)) ++ ac) ++ aQ) ++ af) ++ aV) ++ bf, true)) else (none)) else (none))) else (none)) else (none)) = some (r1, r2) := H
     have ut := Aside0.mk pq
     clear pq
     by_cases ej : (((⟨#[2]⟩ : ByteArray) ++ (strOfNums bb)) ++ ac).size + aQ.size ≤ 9223372036854775807
     ·rw [if_pos ej] at H
      have gL := eq_true ej
      have hM : decide ((((⟨#[2]⟩ : ByteArray) ++ (strOfNums bb)) ++ ac).size + aQ.size ≤ 9223372036854775807) = true := decide_eq_true ej
      try have ly : (9223372036854775807 < (((⟨#[2]⟩ : ByteArray) ++ (strOfNums bb)) ++ ac).size + aQ.size) = False := eq_false (Nat.not_lt.2 ej)
      try (have mh := ly; simp only [ByteArray.size_append, show (⟨#[2]⟩ : ByteArray).size = 1 from rfl] at mh)
      by_cases hY : ((((⟨#[2]⟩ : ByteArray) ++ (strOfNums bb)) ++ ac) ++ aQ).size + af.size ≤ 9223372036854775807
      ·rw [if_pos hY] at H
       have jI := eq_true hY
       have mW : decide (((((⟨#[2]⟩ : ByteArray) ++ (strOfNums bb)) ++ ac) ++ aQ).size + af.size ≤ 9223372036854775807) = true := decide_eq_true hY
       try have oC : (9223372036854775807 < ((((⟨#[2]⟩ : ByteArray) ++ (strOfNums bb)) ++ ac) ++ aQ).size + af.size) = False := eq_false (Nat.not_lt.2 hY)
       try (have oD := oC; simp only [ByteArray.size_append, show (⟨#[2]⟩ : ByteArray).size = 1 from rfl] at oD)
       replace H := Option.bind_eq_some_iff.mp H
       obtain ⟨aV, jP, H⟩ := H
       replace H : (if (((((⟨#[2]⟩ : ByteArray) ++ (strOfNums bb)) ++ ac) ++ aQ) ++ af).size + aV.size ≤ 9223372036854775807 then (if ((((((⟨#[2]⟩ : ByteArray) ++ (strOfNums bb)) ++ ac) ++ aQ) ++ af) ++ aV).size + bf.size ≤ 9223372036854775807 then (some (((((((⟨#[2]⟩ : ByteArray) ++ (strOfNums bb)) ++ ac) ++ aQ) ++ af) ++ aV) ++ bf, true)) else (none)) else (none)) = some (r1, r2) := H
       have ma := Aside0.mk jP
       clear jP
       by_cases fe : (((((⟨#[2]⟩ : ByteArray) ++ (strOfNums bb)) ++ ac) ++ aQ) ++ af).size + aV.size ≤ 9223372036854775807
       ·rw [if_pos fe] at H
        have eV := eq_true fe
        have ic : decide ((((((⟨#[2]⟩ : ByteArray) ++ (strOfNums bb)) ++ ac) ++ aQ) ++ af).size + aV.size ≤ 9223372036854775807) = true := decide_eq_true fe
        try have ja : (9223372036854775807 < (((((⟨#[2]⟩ : ByteArray) ++ (strOfNums bb)) ++ ac) ++ aQ) ++ af).size + aV.size) = False := eq_false (Nat.not_lt.2 fe)
        try (have lz := ja; simp only [ByteArray.size_append, show (⟨#[2]⟩ : ByteArray).size = 1 from rfl] at lz)
        by_cases lg : ((((((⟨#[2]⟩ : ByteArray) ++ (strOfNums bb)) ++ ac) ++ aQ) ++ af) ++ aV).size + bf.size ≤ 9223372036854775807
        ·rw [if_pos lg] at H
         have ob := eq_true lg
         have sx : decide (((((((⟨#[2]⟩ : ByteArray) ++ (strOfNums bb)) ++ ac) ++ aQ) ++ af) ++ aV).size + bf.size ≤ 9223372036854775807) = true := decide_eq_true lg
         try have uu : (9223372036854775807 < ((((((⟨#[2]⟩ : ByteArray) ++ (strOfNums bb)) ++ ac) ++ aQ) ++ af) ++ aV).size + bf.size) = False := eq_false (Nat.not_lt.2 lg)
         try (have uv := uu; simp only [ByteArray.size_append, show (⟨#[2]⟩ : ByteArray).size = 1 from rfl] at uv)
         simp only [Option.some.injEq, Prod.mk.injEq] at H
         obtain ⟨rfl, rfl⟩ := H
         go_enter Try.func35, Try.ntmps35
         try go_wp2_with (first | ((with_reducible refine Pre.gate_load 25 rfl ?_); (try (refine gate_guard Z13 ?_; dsimp only)); refine Pre.load_event rfl rfl rfl Z13 Z2 Try.underlying25 rfl Z6 ?_) | ((with_reducible refine gate_dst (N := 1) rfl ?_); refine box_event ?hg (N := 1) ?hd (cs := #[.int .i64 av, .int .i64 au, .int .i64 aw, .string ay, .int .i64 aD, .int .i64 az, .string aA, .int .i64 ax, .int .i64 aE, .string aC, .int .i64 ap, .string an, .int .i64 aj, .int .i64 am, .int .i64 ak, .int .i64 ah, .int .i64 ai, .int .i64 al, .int .i64 ao, .string ac, .string af, .slice aT ae.length aN, .int .i64 aq, .string ar, .slice aJ ag.length aK]) (t := 25) ?hr ?_; (case hd => rfl); (case hg => rfl); (case hr => first | (go_simp; done) | (go_simp; rfl)); intro aa hg mi hbox hb; have aG := Aside0.mk (below_step Z3 hb); have aH := Aside0.mk (hbox); have aI := Aside0.mk ((by rw [hg]; exact (below_size Z3) : w.heap.size ≤ aa)); have aZ := Aside0.mk ((by rw [hg]; exact (below_size Z3) : w.heap.size ≤ aa)); replace HB := aG; have ab := aH; have cl := aI; have bs := aZ; clear aG aH aI aZ; clear hb hbox hg; have jl := cells_25 ab.out) | ((with_reducible refine gate_callee (f := 37) rfl ?_); refine goesL_ (some 7) rfl rfl Try.func37 Z6 rfl #[.agg #[.int .i64 av, .int .i64 au, .int .i64 aw, .string ay, .int .i64 aD, .int .i64 az, .string aA, .int .i64 ax, .int .i64 aE, .string aC, .int .i64 ap, .string an, .int .i64 aj, .int .i64 am, .int .i64 ak, .int .i64 ah, .int .i64 ai, .int .i64 al, .int .i64 ao, .string ac, .string af, .slice aT ae.length aN, .int .i64 aq, .string ar, .slice aJ ag.length aK]] rfl Z5 ?_; (with_reducible refine (roadbookref15_Right.calls k av au aw ay aD az aA ax aE aC ap an aj am ak ah ai al ao ac af _ _ ae aq ar _ _ ag true _ ?side1 ?side2 ?side3 ?side4 A2.out).mono ?_); (case side1 => exact Z8); (case side2 => exact bl.out); (case side3 => exact Z7); (case side4 => exact bg.out); rintro e gn ⟨rfl, hb⟩; refine ⟨_, rfl, ?_⟩; have aG := Aside0.mk (blk_below (g := aa) Z1 hb); have aH := Aside0.mk (below_step Z0 hb); replace ab := aG; replace HB := aH; clear aG aH; (try clear hb); (try clear hb2); (try clear hk); (try clear hi); have me := cells_25 ab.out) | ((with_reducible refine gate_callee (f := 51) rfl ?_); refine goesL_ (some 12) rfl rfl Try.func51 Z6 rfl #[.slice aJ ag.length aK] rfl Z5 ?_; (with_reducible refine (roadbookref13_Put.calls k _ _ ag bf bc _ ?side1 ?side2 A4.out).mono ?_); (case side1 => exact Z7); (case side2 => exact bg.out); rintro e gO ⟨rfl, hb⟩; refine ⟨_, rfl, ?_⟩; have aG := Aside0.mk (blk_below (g := aa) Z1 hb); have aH := Aside0.mk (below_step Z0 hb); replace ab := aG; replace HB := aH; clear aG aH; (try clear hb); (try clear hb2); (try clear hk); (try clear hi); have iO := cells_25 ab.out))
         have aG := Aside0.mk (blk_drew ab.out)
         have aH := Aside0.mk (below_drew1 HB.out)
         clear ab
         clear HB
         have ab := aG
         have HB := aH
         clear aG aH
         refine start_ (n := 31) (S := fun w' => w'.cell? ⟨aa, 0, none⟩ = some (.int .i64 av) ∧ w'.cell? ⟨aa, 1, none⟩ = some (.int .i64 au) ∧ w'.cell? ⟨aa, 2, none⟩ = some (.int .i64 aw) ∧ w'.cell? ⟨aa, 3, none⟩ = some (.string ay) ∧ w'.cell? ⟨aa, 4, none⟩ = some (.int .i64 aD) ∧ w'.cell? ⟨aa, 5, none⟩ = some (.int .i64 az) ∧ w'.cell? ⟨aa, 6, none⟩ = some (.string aA) ∧ w'.cell? ⟨aa, 7, none⟩ = some (.int .i64 ax) ∧ w'.cell? ⟨aa, 8, none⟩ = some (.int .i64 aE) ∧ w'.cell? ⟨aa, 9, none⟩ = some (.string aC) ∧ w'.cell? ⟨aa, 10, none⟩ = some (.int .i64 ap) ∧ w'.cell? ⟨aa, 11, none⟩ = some (.string an) ∧ w'.cell? ⟨aa, 12, none⟩ = some (.int .i64 aj) ∧ w'.cell? ⟨aa, 13, none⟩ = some (.int .i64 am) ∧ w'.cell? ⟨aa, 14, none⟩ = some (.int .i64 ak) ∧ w'.cell? ⟨aa, 15, none⟩ = some (.int .i64 ah) ∧ w'.cell? ⟨aa, 16, none⟩ = some (.int .i64 ai) ∧ w'.cell? ⟨aa, 17, none⟩ = some (.int .i64 al) ∧ w'.cell? ⟨aa, 18, none⟩ = some (.int .i64 ao) ∧ w'.cell? ⟨aa, 19, none⟩ = some (.string ac) ∧ w'.cell? ⟨aa, 20, none⟩ = some (.string af) ∧ w'.cell? ⟨aa, 21, none⟩ = some (.slice aT ae.length aN) ∧ w'.cell? ⟨aa, 22, none⟩ = some (.int .i64 aq) ∧ w'.cell? ⟨aa, 23, none⟩ = some (.string ar) ∧ w'.cell? ⟨aa, 24, none⟩ = some (.slice aJ ag.length aK)) (ds := []) #[false, false, false, false, false, false, false, false, false, false, false, false, false, false, false, false, false, false, false, false, false, false, false, false, false, false, false, false, false, false, false] Z6 rfl rfl ⟨(blk_cell ab.out 0).trans rfl, (blk_cell ab.out 1).trans rfl, (blk_cell ab.out 2).trans rfl, (blk_cell ab.out 3).trans rfl, (blk_cell ab.out 4).trans rfl, (blk_cell ab.out 5).trans rfl, (blk_cell ab.out 6).trans rfl, (blk_cell ab.out 7).trans rfl, (blk_cell ab.out 8).trans rfl, (blk_cell ab.out 9).trans rfl, (blk_cell ab.out 10).trans rfl, (blk_cell ab.out 11).trans rfl, (blk_cell ab.out 12).trans rfl, (blk_cell ab.out 13).trans rfl, (blk_cell ab.out 14).trans rfl, (blk_cell ab.out 15).trans rfl, (blk_cell ab.out 16).trans rfl, (blk_cell ab.out 17).trans rfl, (blk_cell ab.out 18).trans rfl, (blk_cell ab.out 19).trans rfl, (blk_cell ab.out 20).trans rfl, (blk_cell ab.out 21).trans rfl, (blk_cell ab.out 22).trans rfl, (blk_cell ab.out 23).trans rfl, (blk_cell ab.out 24).trans rfl⟩ (fun hHeld => ?_); refine with_tabW roadbookref15_Put.tab6 roadbookref15_Put.bits6 (fun HT_ HW_ => ?_)
         generalize gO.drew = iy at ab HB hHeld ⊢
         refine pure_ (i := 0) (N := some 20) (v := ?_) (a' := ?_) #[true, false, false, false, false, false, false, false, false, false, false, false, false, false, false, false, false, false, false, false, false, false, false, false, false, false, false, false, false, false, false] rfl rfl (any_of HT_.out Z6) (fun _ _ _ h => h) (Or.inl ⟨Z13, ?_⟩) ?_ ?_
         rotate_left
         ·intro w'
          go_simp
          with_reducible rfl
         rotate_left
         ·simp only [Act.put, List.setIfInBounds_toArray, List.set_cons_zero, List.set_cons_succ, i64_w, i32_w]
          rfl
         refine pure_ (i := 4) (N := some 24) (v := ?_) (a' := ?_) #[true, false, false, false, true, false, false, false, false, false, false, false, false, false, false, false, false, false, false, false, false, false, false, false, false, false, false, false, false, false, false] rfl rfl (any_of HT_.out Z6) (fun _ _ _ h => h) (Or.inl ⟨Z13, ?_⟩) ?_ ?_
         rotate_left
         ·intro w'
          go_simp
          with_reducible rfl
         rotate_left
         ·simp only [Act.put, List.setIfInBounds_toArray, List.set_cons_zero, List.set_cons_succ, i64_w, i32_w]
          rfl
         refine pure_ (i := 7) (N := some 27) (v := ?_) (a' := ?_) #[true, false, false, false, true, false, false, true, false, false, false, false, false, false, false, false, false, false, false, false, false, false, false, false, false, false, false, false, false, false, false] rfl rfl (any_of HT_.out Z6) (fun _ _ _ h => h) (Or.inl ⟨Z13, ?_⟩) ?_ ?_
         rotate_left
         ·intro w'
          go_simp
          with_reducible rfl
         rotate_left
         ·simp only [Act.put, List.setIfInBounds_toArray, List.set_cons_zero, List.set_cons_succ, i64_w, i32_w]
          rfl
         refine pure_ (i := 13) (N := some 33) (v := ?_) (a' := ?_) #[true, false, false, false, true, false, false, true, false, false, false, false, false, true, false, false, false, false, false, false, false, false, false, false, false, false, false, false, false, false, false] rfl rfl (any_of HT_.out Z6) (fun _ _ _ h => h) (Or.inl ⟨Z13, ?_⟩) ?_ ?_
         rotate_left
         ·intro w'
          go_simp
          with_reducible rfl
         rotate_left
         ·simp only [Act.put, List.setIfInBounds_toArray, List.set_cons_zero, List.set_cons_succ, i64_w, i32_w]
          rfl
         refine pure_ (i := 16) (N := some 36) (v := ?_) (a' := ?_) #[true, false, false, false, true, false, false, true, false, false, false, false, false, true, false, false, true, false, false, false, false, false, false, false, false, false, false, false, false, false, false] rfl rfl (any_of HT_.out Z6) (fun _ _ _ h => h) (Or.inl ⟨Z13, ?_⟩) ?_ ?_
         rotate_left
         ·intro w'
          go_simp
          with_reducible rfl
         rotate_left
         ·simp only [Act.put, List.setIfInBounds_toArray, List.set_cons_zero, List.set_cons_succ, i64_w, i32_w]
          rfl
         refine pure_ (i := 20) (N := some 40) (v := ?_) (a' := ?_) #[true, false, false, false, true, false, false, true, false, false, false, false, false, true, false, false, true, false, false, false, true, false, false, false, false, false, false, false, false, false, false] rfl rfl (any_of HT_.out Z6) (fun _ _ _ h => h) (Or.inl ⟨Z13, ?_⟩) ?_ ?_
         rotate_left
         ·intro w'
          go_simp
          with_reducible rfl
         rotate_left
         ·simp only [Act.put, List.setIfInBounds_toArray, List.set_cons_zero, List.set_cons_succ, i64_w, i32_w]
          rfl
         refine pure_ (i := 23) (N := some 43) (v := ?_) (a' := ?_) #[true, false, false, false, true, false, false, true, false, false, false, false, false, true, false, false, true, false, false, false, true, false, false, true, false, false, false, false, false, false, false] rfl rfl (any_of HT_.out Z6) (fun _ _ _ h => h) (Or.inl ⟨Z13, ?_⟩) ?_ ?_
         rotate_left
         ·intro w'
          go_simp
          with_reducible rfl
         rotate_left
         ·simp only [Act.put, List.setIfInBounds_toArray, List.set_cons_zero, List.set_cons_succ, i64_w, i32_w]
          rfl
         refine pure_ (i := 27) (N := some 47) (v := ?_) (a' := ?_) #[true, false, false, false, true, false, false, true, false, false, false, false, false, true, false, false, true, false, false, false, true, false, false, true, false, false, false, true, false, false, false] rfl rfl (any_of HT_.out Z6) (fun _ _ _ h => h) (Or.inl ⟨Z13, ?_⟩) ?_ ?_
         rotate_left
         ·intro w'
          go_simp
          with_reducible rfl
         rotate_left
         ·simp only [Act.put, List.setIfInBounds_toArray, List.set_cons_zero, List.set_cons_succ, i64_w, i32_w]
          rfl
         refine take_ (i := 1) (N := some 21) (v := ?_) (a' := ?_) #[true, true, false, false, true, false, false, true, false, false, false, false, false, true, false, false, true, false, false, false, true, false, false, true, false, false, false, true, false, false, false] rfl rfl (take_ofW HT_.out HW_.out Z6) (fun _ _ _ h => h) (Or.inl ⟨Z13, ?_⟩) hHeld ?_ ?_
         rotate_left
         ·rintro w' ⟨s0, s1, s2, s3, s4, s5, s6, s7, s8, s9, s10, s11, s12, s13, s14, s15, s16, s17, s18, s19, s20, s21, s22, s23, s24⟩
          first | (refine Eq.trans (Pre.load_run (ty := 25) rfl Z13 s0 Try.underlying25 rfl Z6) ?_; with_reducible rfl) | (refine Eq.trans (Pre.load_run (ty := 25) rfl Z13 s1 Try.underlying25 rfl Z6) ?_; with_reducible rfl) | (refine Eq.trans (Pre.load_run (ty := 25) rfl Z13 s2 Try.underlying25 rfl Z6) ?_; with_reducible rfl) | (refine Eq.trans (Pre.load_run (ty := 25) rfl Z13 s3 Try.underlying25 rfl Z6) ?_; with_reducible rfl) | (refine Eq.trans (Pre.load_run (ty := 25) rfl Z13 s4 Try.underlying25 rfl Z6) ?_; with_reducible rfl) | (refine Eq.trans (Pre.load_run (ty := 25) rfl Z13 s5 Try.underlying25 rfl Z6) ?_; with_reducible rfl) | (refine Eq.trans (Pre.load_run (ty := 25) rfl Z13 s6 Try.underlying25 rfl Z6) ?_; with_reducible rfl) | (refine Eq.trans (Pre.load_run (ty := 25) rfl Z13 s7 Try.underlying25 rfl Z6) ?_; with_reducible rfl) | (refine Eq.trans (Pre.load_run (ty := 25) rfl Z13 s8 Try.underlying25 rfl Z6) ?_; with_reducible rfl) | (refine Eq.trans (Pre.load_run (ty := 25) rfl Z13 s9 Try.underlying25 rfl Z6) ?_; with_reducible rfl) | (refine Eq.trans (Pre.load_run (ty := 25) rfl Z13 s10 Try.underlying25 rfl Z6) ?_; with_reducible rfl) | (refine Eq.trans (Pre.load_run (ty := 25) rfl Z13 s11 Try.underlying25 rfl Z6) ?_; with_reducible rfl) | (refine Eq.trans (Pre.load_run (ty := 25) rfl Z13 s12 Try.underlying25 rfl Z6) ?_; with_reducible rfl) | (refine Eq.trans (Pre.load_run (ty := 25) rfl Z13 s13 Try.underlying25 rfl Z6) ?_; with_reducible rfl) | (refine Eq.trans (Pre.load_run (ty := 25) rfl Z13 s14 Try.underlying25 rfl Z6) ?_; with_reducible rfl) | (refine Eq.trans (Pre.load_run (ty := 25) rfl Z13 s15 Try.underlying25 rfl Z6) ?_; with_reducible rfl) | (refine Eq.trans (Pre.load_run (ty := 25) rfl Z13 s16 Try.underlying25 rfl Z6) ?_; with_reducible rfl) | (refine Eq.trans (Pre.load_run (ty := 25) rfl Z13 s17 Try.underlying25 rfl Z6) ?_; with_reducible rfl) | (refine Eq.trans (Pre.load_run (ty := 25) rfl Z13 s18 Try.underlying25 rfl Z6) ?_; with_reducible rfl) | (refine Eq.trans (Pre.load_run (ty := 25) rfl Z13 s19 Try.underlying25 rfl Z6) ?_; with_reducible rfl) | (refine Eq.trans (Pre.load_run (ty := 25) rfl Z13 s20 Try.underlying25 rfl Z6) ?_; with_reducible rfl) | (refine Eq.trans (Pre.load_run (ty := 25) rfl Z13 s21 Try.underlying25 rfl Z6) ?_; with_reducible rfl) | (refine Eq.trans (Pre.load_run (ty := 25) rfl Z13 s22 Try.underlying25 rfl Z6) ?_; with_reducible rfl) | (refine Eq.trans (Pre.load_run (ty := 25) rfl Z13 s23 Try.underlying25 rfl Z6) ?_; with_reducible rfl) | (refine Eq.trans (Pre.load_run (ty := 25) rfl Z13 s24 Try.underlying25 rfl Z6) ?_; with_reducible rfl) | (go_simp; with_reducible rfl)
         rotate_left
         ·simp only [Act.put, List.setIfInBounds_toArray, List.set_cons_zero, List.set_cons_succ, i64_w, i32_w]
          rfl
         refine pure_ (i := 2) (N := some 22) (v := ?_) (a' := ?_) #[true, true, true, false, true, false, false, true, false, false, false, false, false, true, false, false, true, false, false, false, true, false, false, true, false, false, false, true, false, false, false] rfl rfl (any_of HT_.out Z6) (fun _ _ _ h => h) (Or.inl ⟨Z13, ?_⟩) ?_ ?_
         rotate_left
         ·intro w'
          go_simp
          with_reducible rfl
         rotate_left
         ·simp only [Act.put, List.setIfInBounds_toArray, List.set_cons_zero, List.set_cons_succ, i64_w, i32_w]
          rfl
         refine pure_ (i := 3) (N := some 23) (v := ?_) (a' := ?_) #[true, true, true, true, true, false, false, true, false, false, false, false, false, true, false, false, true, false, false, false, true, false, false, true, false, false, false, true, false, false, false] rfl rfl (any_of HT_.out Z6) (fun _ _ _ h => h) (Or.inl ⟨Z13, ?_⟩) ?_ ?_
         rotate_left
         ·intro w'
          go_simp
          with_reducible rfl
         rotate_left
         ·simp only [Act.put, List.setIfInBounds_toArray, List.set_cons_zero, List.set_cons_succ, i64_w, i32_w]
          rfl
         refine take_ (i := 5) (N := some 25) (v := ?_) (a' := ?_) #[true, true, true, true, true, true, false, true, false, false, false, false, false, true, false, false, true, false, false, false, true, false, false, true, false, false, false, true, false, false, false] rfl rfl (take_ofW HT_.out HW_.out Z6) (fun _ _ _ h => h) (Or.inl ⟨Z13, ?_⟩) hHeld ?_ ?_
         rotate_left
         ·rintro w' ⟨s0, s1, s2, s3, s4, s5, s6, s7, s8, s9, s10, s11, s12, s13, s14, s15, s16, s17, s18, s19, s20, s21, s22, s23, s24⟩
          first | (refine Eq.trans (Pre.load_run (ty := 25) rfl Z13 s0 Try.underlying25 rfl Z6) ?_; with_reducible rfl) | (refine Eq.trans (Pre.load_run (ty := 25) rfl Z13 s1 Try.underlying25 rfl Z6) ?_; with_reducible rfl) | (refine Eq.trans (Pre.load_run (ty := 25) rfl Z13 s2 Try.underlying25 rfl Z6) ?_; with_reducible rfl) | (refine Eq.trans (Pre.load_run (ty := 25) rfl Z13 s3 Try.underlying25 rfl Z6) ?_; with_reducible rfl) | (refine Eq.trans (Pre.load_run (ty := 25) rfl Z13 s4 Try.underlying25 rfl Z6) ?_; with_reducible rfl) | (refine Eq.trans (Pre.load_run (ty := 25) rfl Z13 s5 Try.underlying25 rfl Z6) ?_; with_reducible rfl) | (refine Eq.trans (Pre.load_run (ty := 25) rfl Z13 s6 Try.underlying25 rfl Z6) ?_; with_reducible rfl) | (refine Eq.trans (Pre.load_run (ty := 25) rfl Z13 s7 Try.underlying25 rfl Z6) ?_; with_reducible rfl) | (refine Eq.trans (Pre.load_run (ty := 25) rfl Z13 s8 Try.underlying25 rfl Z6) ?_; with_reducible rfl) | (refine Eq.trans (Pre.load_run (ty := 25) rfl Z13 s9 Try.underlying25 rfl Z6) ?_; with_reducible rfl) | (refine Eq.trans (Pre.load_run (ty := 25) rfl Z13 s10 Try.underlying25 rfl Z6) ?_; with_reducible rfl) | (refine Eq.trans (Pre.load_run (ty := 25) rfl Z13 s11 Try.underlying25 rfl Z6) ?_; with_reducible rfl) | (refine Eq.trans (Pre.load_run (ty := 25) rfl Z13 s12 Try.underlying25 rfl Z6) ?_; with_reducible rfl) | (refine Eq.trans (Pre.load_run (ty := 25) rfl Z13 s13 Try.underlying25 rfl Z6) ?_; with_reducible rfl) | (refine Eq.trans (Pre.load_run (ty := 25) rfl Z13 s14 Try.underlying25 rfl Z6) ?_; with_reducible rfl) | (refine Eq.trans (Pre.load_run (ty := 25) rfl Z13 s15 Try.underlying25 rfl Z6) ?_; with_reducible rfl) | (refine Eq.trans (Pre.load_run (ty := 25) rfl Z13 s16 Try.underlying25 rfl Z6) ?_; with_reducible rfl) | (refine Eq.trans (Pre.load_run (ty := 25) rfl Z13 s17 Try.underlying25 rfl Z6) ?_; with_reducible rfl) | (refine Eq.trans (Pre.load_run (ty := 25) rfl Z13 s18 Try.underlying25 rfl Z6) ?_; with_reducible rfl) | (refine Eq.trans (Pre.load_run (ty := 25) rfl Z13 s19 Try.underlying25 rfl Z6) ?_; with_reducible rfl) | (refine Eq.trans (Pre.load_run (ty := 25) rfl Z13 s20 Try.underlying25 rfl Z6) ?_; with_reducible rfl) | (refine Eq.trans (Pre.load_run (ty := 25) rfl Z13 s21 Try.underlying25 rfl Z6) ?_; with_reducible rfl) | (refine Eq.trans (Pre.load_run (ty := 25) rfl Z13 s22 Try.underlying25 rfl Z6) ?_; with_reducible rfl) | (refine Eq.trans (Pre.load_run (ty := 25) rfl Z13 s23 Try.underlying25 rfl Z6) ?_; with_reducible rfl) | (refine Eq.trans (Pre.load_run (ty := 25) rfl Z13 s24 Try.underlying25 rfl Z6) ?_; with_reducible rfl) | (go_simp; with_reducible rfl)
         rotate_left
         ·simp only [Act.put, List.setIfInBounds_toArray, List.set_cons_zero, List.set_cons_succ, i64_w, i32_w]
          rfl
         refine pure_ (i := 6) (N := some 26) (v := ?_) (a' := ?_) #[true, true, true, true, true, true, true, true, false, false, false, false, false, true, false, false, true, false, false, false, true, false, false, true, false, false, false, true, false, false, false] rfl rfl (any_of HT_.out Z6) (fun _ _ _ h => h) (Or.inl ⟨Z13, ?_⟩) ?_ ?_
         rotate_left
         ·intro w'
          go_simp
          with_reducible rfl
         rotate_left
         ·simp only [Act.put, List.setIfInBounds_toArray, List.set_cons_zero, List.set_cons_succ, i64_w, i32_w]
          rfl
         refine take_ (i := 8) (N := some 28) (v := ?_) (a' := ?_) #[true, true, true, true, true, true, true, true, true, false, false, false, false, true, false, false, true, false, false, false, true, false, false, true, false, false, false, true, false, false, false] rfl rfl (take_ofW HT_.out HW_.out Z6) (fun _ _ _ h => h) (Or.inl ⟨Z13, ?_⟩) hHeld ?_ ?_
         rotate_left
         ·rintro w' ⟨s0, s1, s2, s3, s4, s5, s6, s7, s8, s9, s10, s11, s12, s13, s14, s15, s16, s17, s18, s19, s20, s21, s22, s23, s24⟩
          first | (refine Eq.trans (Pre.load_run (ty := 25) rfl Z13 s0 Try.underlying25 rfl Z6) ?_; with_reducible rfl) | (refine Eq.trans (Pre.load_run (ty := 25) rfl Z13 s1 Try.underlying25 rfl Z6) ?_; with_reducible rfl) | (refine Eq.trans (Pre.load_run (ty := 25) rfl Z13 s2 Try.underlying25 rfl Z6) ?_; with_reducible rfl) | (refine Eq.trans (Pre.load_run (ty := 25) rfl Z13 s3 Try.underlying25 rfl Z6) ?_; with_reducible rfl) | (refine Eq.trans (Pre.load_run (ty := 25) rfl Z13 s4 Try.underlying25 rfl Z6) ?_; with_reducible rfl) | (refine Eq.trans (Pre.load_run (ty := 25) rfl Z13 s5 Try.underlying25 rfl Z6) ?_; with_reducible rfl) | (refine Eq.trans (Pre.load_run (ty := 25) rfl Z13 s6 Try.underlying25 rfl Z6) ?_; with_reducible rfl) | (refine Eq.trans (Pre.load_run (ty := 25) rfl Z13 s7 Try.underlying25 rfl Z6) ?_; with_reducible rfl) | (refine Eq.trans (Pre.load_run (ty := 25) rfl Z13 s8 Try.underlying25 rfl Z6) ?_; with_reducible rfl) | (refine Eq.trans (Pre.load_run (ty := 25) rfl Z13 s9 Try.underlying25 rfl Z6) ?_; with_reducible rfl) | (refine Eq.trans (Pre.load_run (ty := 25) rfl Z13 s10 Try.underlying25 rfl Z6) ?_; with_reducible rfl) | (refine Eq.trans (Pre.load_run (ty := 25) rfl Z13 s11 Try.underlying25 rfl Z6) ?_; with_reducible rfl) | (refine Eq.trans (Pre.load_run (ty := 25) rfl Z13 s12 Try.underlying25 rfl Z6) ?_; with_reducible rfl) | (refine Eq.trans (Pre.load_run (ty := 25) rfl Z13 s13 Try.underlying25 rfl Z6) ?_; with_reducible rfl) | (refine Eq.trans (Pre.load_run (ty := 25) rfl Z13 s14 Try.underlying25 rfl Z6) ?_; with_reducible rfl) | (refine Eq.trans (Pre.load_run (ty := 25) rfl Z13 s15 Try.underlying25 rfl Z6) ?_; with_reducible rfl) | (refine Eq.trans (Pre.load_run (ty := 25) rfl Z13 s16 Try.underlying25 rfl Z6) ?_; with_reducible rfl) | (refine Eq.trans (Pre.load_run (ty := 25) rfl Z13 s17 Try.underlying25 rfl Z6) ?_; with_reducible rfl) | (refine Eq.trans (Pre.load_run (ty := 25) rfl Z13 s18 Try.underlying25 rfl Z6) ?_; with_reducible rfl) | (refine Eq.trans (Pre.load_run (ty := 25) rfl Z13 s19 Try.underlying25 rfl Z6) ?_; with_reducible rfl) | (refine Eq.trans (Pre.load_run (ty := 25) rfl Z13 s20 Try.underlying25 rfl Z6) ?_; with_reducible rfl) | (refine Eq.trans (Pre.load_run (ty := 25) rfl Z13 s21 Try.underlying25 rfl Z6) ?_; with_reducible rfl) | (refine Eq.trans (Pre.load_run (ty := 25) rfl Z13 s22 Try.underlying25 rfl Z6) ?_; with_reducible rfl) | (refine Eq.trans (Pre.load_run (ty := 25) rfl Z13 s23 Try.underlying25 rfl Z6) ?_; with_reducible rfl) | (refine Eq.trans (Pre.load_run (ty := 25) rfl Z13 s24 Try.underlying25 rfl Z6) ?_; with_reducible rfl) | (go_simp; with_reducible rfl)
         rotate_left
         ·simp only [Act.put, List.setIfInBounds_toArray, List.set_cons_zero, List.set_cons_succ, i64_w, i32_w]
          rfl
         refine pure_ (i := 9) (N := some 29) (v := ?_) (a' := ?_) #[true, true, true, true, true, true, true, true, true, true, false, false, false, true, false, false, true, false, false, false, true, false, false, true, false, false, false, true, false, false, false] rfl rfl (any_of HT_.out Z6) (fun _ _ _ h => h) (Or.inl ⟨Z13, ?_⟩) ?_ ?_
         rotate_left
         ·intro w'
          go_simp
          with_reducible rfl
         rotate_left
         ·simp only [Act.put, List.setIfInBounds_toArray, List.set_cons_zero, List.set_cons_succ, i64_w, i32_w]
          rfl
         refine take_ (i := 14) (N := some 34) (v := ?_) (a' := ?_) #[true, true, true, true, true, true, true, true, true, true, false, false, false, true, true, false, true, false, false, false, true, false, false, true, false, false, false, true, false, false, false] rfl rfl (take_ofW HT_.out HW_.out Z6) (fun _ _ _ h => h) (Or.inl ⟨Z13, ?_⟩) hHeld ?_ ?_
         rotate_left
         ·rintro w' ⟨s0, s1, s2, s3, s4, s5, s6, s7, s8, s9, s10, s11, s12, s13, s14, s15, s16, s17, s18, s19, s20, s21, s22, s23, s24⟩
          first | (refine Eq.trans (Pre.load_run (ty := 25) rfl Z13 s0 Try.underlying25 rfl Z6) ?_; with_reducible rfl) | (refine Eq.trans (Pre.load_run (ty := 25) rfl Z13 s1 Try.underlying25 rfl Z6) ?_; with_reducible rfl) | (refine Eq.trans (Pre.load_run (ty := 25) rfl Z13 s2 Try.underlying25 rfl Z6) ?_; with_reducible rfl) | (refine Eq.trans (Pre.load_run (ty := 25) rfl Z13 s3 Try.underlying25 rfl Z6) ?_; with_reducible rfl) | (refine Eq.trans (Pre.load_run (ty := 25) rfl Z13 s4 Try.underlying25 rfl Z6) ?_; with_reducible rfl) | (refine Eq.trans (Pre.load_run (ty := 25) rfl Z13 s5 Try.underlying25 rfl Z6) ?_; with_reducible rfl) | (refine Eq.trans (Pre.load_run (ty := 25) rfl Z13 s6 Try.underlying25 rfl Z6) ?_; with_reducible rfl) | (refine Eq.trans (Pre.load_run (ty := 25) rfl Z13 s7 Try.underlying25 rfl Z6) ?_; with_reducible rfl) | (refine Eq.trans (Pre.load_run (ty := 25) rfl Z13 s8 Try.underlying25 rfl Z6) ?_; with_reducible rfl) | (refine Eq.trans (Pre.load_run (ty := 25) rfl Z13 s9 Try.underlying25 rfl Z6) ?_; with_reducible rfl) | (refine Eq.trans (Pre.load_run (ty := 25) rfl Z13 s10 Try.underlying25 rfl Z6) ?_; with_reducible rfl) | (refine Eq.trans (Pre.load_run (ty := 25) rfl Z13 s11 Try.underlying25 rfl Z6) ?_; with_reducible rfl) | (refine Eq.trans (Pre.load_run (ty := 25) rfl Z13 s12 Try.underlying25 rfl Z6) ?_; with_reducible rfl) | (refine Eq.trans (Pre.load_run (ty := 25) rfl Z13 s13 Try.underlying25 rfl Z6) ?_; with_reducible rfl) | (refine Eq.trans (Pre.load_run (ty := 25) rfl Z13 s14 Try.underlying25 rfl Z6) ?_; with_reducible rfl) | (refine Eq.trans (Pre.load_run (ty := 25) rfl Z13 s15 Try.underlying25 rfl Z6) ?_; with_reducible rfl) | (refine Eq.trans (Pre.load_run (ty := 25) rfl Z13 s16 Try.underlying25 rfl Z6) ?_; with_reducible rfl) | (refine Eq.trans (Pre.load_run (ty := 25) rfl Z13 s17 Try.underlying25 rfl Z6) ?_; with_reducible rfl) | (refine Eq.trans (Pre.load_run (ty := 25) rfl Z13 s18 Try.underlying25 rfl Z6) ?_; with_reducible rfl) | (refine Eq.trans (Pre.load_run (ty := 25) rfl Z13 s19 Try.underlying25 rfl Z6) ?_; with_reducible rfl) | (refine Eq.trans (Pre.load_run (ty := 25) rfl Z13 s20 Try.underlying25 rfl Z6) ?_; with_reducible rfl) | (refine Eq.trans (Pre.load_run (ty := 25) rfl Z13 s21 Try.underlying25 rfl Z6) ?_; with_reducible rfl) | (refine Eq.trans (Pre.load_run (ty := 25) rfl Z13 s22 Try.underlying25 rfl Z6) ?_; with_reducible rfl) | (refine Eq.trans (Pre.load_run (ty := 25) rfl Z13 s23 Try.underlying25 rfl Z6) ?_; with_reducible rfl) | (refine Eq.trans (Pre.load_run (ty := 25) rfl Z13 s24 Try.underlying25 rfl Z6) ?_; with_reducible rfl) | (go_simp; with_reducible rfl)
         rotate_left
         ·simp only [Act.put, List.setIfInBounds_toArray, List.set_cons_zero, List.set_cons_succ, i64_w, i32_w]
          rfl
         refine take_ (i := 17) (N := some 37) (v := ?_) (a' := ?_) #[true, true, true, true, true, true, true, true, true, true, false, false, false, true, true, false, true, true, false, false, true, false, false, true, false, false, false, true, false, false, false] rfl rfl (take_ofW HT_.out HW_.out Z6) (fun _ _ _ h => h) (Or.inl ⟨Z13, ?_⟩) hHeld ?_ ?_
         rotate_left
         ·rintro w' ⟨s0, s1, s2, s3, s4, s5, s6, s7, s8, s9, s10, s11, s12, s13, s14, s15, s16, s17, s18, s19, s20, s21, s22, s23, s24⟩
          first | (refine Eq.trans (Pre.load_run (ty := 25) rfl Z13 s0 Try.underlying25 rfl Z6) ?_; with_reducible rfl) | (refine Eq.trans (Pre.load_run (ty := 25) rfl Z13 s1 Try.underlying25 rfl Z6) ?_; with_reducible rfl) | (refine Eq.trans (Pre.load_run (ty := 25) rfl Z13 s2 Try.underlying25 rfl Z6) ?_; with_reducible rfl) | (refine Eq.trans (Pre.load_run (ty := 25) rfl Z13 s3 Try.underlying25 rfl Z6) ?_; with_reducible rfl) | (refine Eq.trans (Pre.load_run (ty := 25) rfl Z13 s4 Try.underlying25 rfl Z6) ?_; with_reducible rfl) | (refine Eq.trans (Pre.load_run (ty := 25) rfl Z13 s5 Try.underlying25 rfl Z6) ?_; with_reducible rfl) | (refine Eq.trans (Pre.load_run (ty := 25) rfl Z13 s6 Try.underlying25 rfl Z6) ?_; with_reducible rfl) | (refine Eq.trans (Pre.load_run (ty := 25) rfl Z13 s7 Try.underlying25 rfl Z6) ?_; with_reducible rfl) | (refine Eq.trans (Pre.load_run (ty := 25) rfl Z13 s8 Try.underlying25 rfl Z6) ?_; with_reducible rfl) | (refine Eq.trans (Pre.load_run (ty := 25) rfl Z13 s9 Try.underlying25 rfl Z6) ?_; with_reducible rfl) | (refine Eq.trans (Pre.load_run (ty := 25) rfl Z13 s10 Try.underlying25 rfl Z6) ?_; with_reducible rfl) | (refine Eq.trans (Pre.load_run (ty := 25) rfl Z13 s11 Try.underlying25 rfl Z6) ?_; with_reducible rfl) | (refine Eq.trans (Pre.load_run (ty := 25) rfl Z13 s12 Try.underlying25 rfl Z6) ?_; with_reducible rfl) | (refine Eq.trans (Pre.load_run (ty := 25) rfl Z13 s13 Try.underlying25 rfl Z6) ?_; with_reducible rfl) | (refine Eq.trans (Pre.load_run (ty := 25) rfl Z13 s14 Try.underlying25 rfl Z6) ?_; with_reducible rfl) | (refine Eq.trans (Pre.load_run (ty := 25) rfl Z13 s15 Try.underlying25 rfl Z6) ?_; with_reducible rfl) | (refine Eq.trans (Pre.load_run (ty := 25) rfl Z13 s16 Try.underlying25 rfl Z6) ?_; with_reducible rfl) | (refine Eq.trans (Pre.load_run (ty := 25) rfl Z13 s17 Try.underlying25 rfl Z6) ?_; with_reducible rfl) | (refine Eq.trans (Pre.load_run (ty := 25) rfl Z13 s18 Try.underlying25 rfl Z6) ?_; with_reducible rfl) | (refine Eq.trans (Pre.load_run (ty := 25) rfl Z13 s19 Try.underlying25 rfl Z6) ?_; with_reducible rfl) | (refine Eq.trans (Pre.load_run (ty := 25) rfl Z13 s20 Try.underlying25 rfl Z6) ?_; with_reducible rfl) | (refine Eq.trans (Pre.load_run (ty := 25) rfl Z13 s21 Try.underlying25 rfl Z6) ?_; with_reducible rfl) | (refine Eq.trans (Pre.load_run (ty := 25) rfl Z13 s22 Try.underlying25 rfl Z6) ?_; with_reducible rfl) | (refine Eq.trans (Pre.load_run (ty := 25) rfl Z13 s23 Try.underlying25 rfl Z6) ?_; with_reducible rfl) | (refine Eq.trans (Pre.load_run (ty := 25) rfl Z13 s24 Try.underlying25 rfl Z6) ?_; with_reducible rfl) | (go_simp; with_reducible rfl)
         rotate_left
         ·simp only [Act.put, List.setIfInBounds_toArray, List.set_cons_zero, List.set_cons_succ, i64_w, i32_w]
          rfl
         refine take_ (i := 21) (N := some 41) (v := ?_) (a' := ?_) #[true, true, true, true, true, true, true, true, true, true, false, false, false, true, true, false, true, true, false, false, true, true, false, true, false, false, false, true, false, false, false] rfl rfl (take_ofW HT_.out HW_.out Z6) (fun _ _ _ h => h) (Or.inl ⟨Z13, ?_⟩) hHeld ?_ ?_
         rotate_left
         ·rintro w' ⟨s0, s1, s2, s3, s4, s5, s6, s7, s8, s9, s10, s11, s12, s13, s14, s15, s16, s17, s18, s19, s20, s21, s22, s23, s24⟩
          first | (refine Eq.trans (Pre.load_run (ty := 25) rfl Z13 s0 Try.underlying25 rfl Z6) ?_; with_reducible rfl) | (refine Eq.trans (Pre.load_run (ty := 25) rfl Z13 s1 Try.underlying25 rfl Z6) ?_; with_reducible rfl) | (refine Eq.trans (Pre.load_run (ty := 25) rfl Z13 s2 Try.underlying25 rfl Z6) ?_; with_reducible rfl) | (refine Eq.trans (Pre.load_run (ty := 25) rfl Z13 s3 Try.underlying25 rfl Z6) ?_; with_reducible rfl) | (refine Eq.trans (Pre.load_run (ty := 25) rfl Z13 s4 Try.underlying25 rfl Z6) ?_; with_reducible rfl) | (refine Eq.trans (Pre.load_run (ty := 25) rfl Z13 s5 Try.underlying25 rfl Z6) ?_; with_reducible rfl) | (refine Eq.trans (Pre.load_run (ty := 25) rfl Z13 s6 Try.underlying25 rfl Z6) ?_; with_reducible rfl) | (refine Eq.trans (Pre.load_run (ty := 25) rfl Z13 s7 Try.underlying25 rfl Z6) ?_; with_reducible rfl) | (refine Eq.trans (Pre.load_run (ty := 25) rfl Z13 s8 Try.underlying25 rfl Z6) ?_; with_reducible rfl) | (refine Eq.trans (Pre.load_run (ty := 25) rfl Z13 s9 Try.underlying25 rfl Z6) ?_; with_reducible rfl) | (refine Eq.trans (Pre.load_run (ty := 25) rfl Z13 s10 Try.underlying25 rfl Z6) ?_; with_reducible rfl) | (refine Eq.trans (Pre.load_run (ty := 25) rfl Z13 s11 Try.underlying25 rfl Z6) ?_; with_reducible rfl) | (refine Eq.trans (Pre.load_run (ty := 25) rfl Z13 s12 Try.underlying25 rfl Z6) ?_; with_reducible rfl) | (refine Eq.trans (Pre.load_run (ty := 25) rfl Z13 s13 Try.underlying25 rfl Z6) ?_; with_reducible rfl) | (refine Eq.trans (Pre.load_run (ty := 25) rfl Z13 s14 Try.underlying25 rfl Z6) ?_; with_reducible rfl) | (refine Eq.trans (Pre.load_run (ty := 25) rfl Z13 s15 Try.underlying25 rfl Z6) ?_; with_reducible rfl) | (refine Eq.trans (Pre.load_run (ty := 25) rfl Z13 s16 Try.underlying25 rfl Z6) ?_; with_reducible rfl) | (refine Eq.trans (Pre.load_run (ty := 25) rfl Z13 s17 Try.underlying25 rfl Z6) ?_; with_reducible rfl) | (refine Eq.trans (Pre.load_run (ty := 25) rfl Z13 s18 Try.underlying25 rfl Z6) ?_; with_reducible rfl) | (refine Eq.trans (Pre.load_run (ty := 25) rfl Z13 s19 Try.underlying25 rfl Z6) ?_; with_reducible rfl) | (refine Eq.trans (Pre.load_run (ty := 25) rfl Z13 s20 Try.underlying25 rfl Z6) ?_; with_reducible rfl) | (refine Eq.trans (Pre.load_run (ty := 25) rfl Z13 s21 Try.underlying25 rfl Z6) ?_; with_reducible rfl) | (refine Eq.trans (Pre.load_run (ty := 25) rfl Z13 s22 Try.underlying25 rfl Z6) ?_; with_reducible rfl) | (refine Eq.trans (Pre.load_run (ty := 25) rfl Z13 s23 Try.underlying25 rfl Z6) ?_; with_reducible rfl) | (refine Eq.trans (Pre.load_run (ty := 25) rfl Z13 s24 Try.underlying25 rfl Z6) ?_; with_reducible rfl) | (go_simp; with_reducible rfl)
         rotate_left
         ·simp only [Act.put, List.setIfInBounds_toArray, List.set_cons_zero, List.set_cons_succ, i64_w, i32_w]
          rfl
         refine take_ (i := 24) (N := some 44) (v := ?_) (a' := ?_) #[true, true, true, true, true, true, true, true, true, true, false, false, false, true, true, false, true, true, false, false, true, true, false, true, true, false, false, true, false, false, false] rfl rfl (take_ofW HT_.out HW_.out Z6) (fun _ _ _ h => h) (Or.inl ⟨Z13, ?_⟩) hHeld ?_ ?_
         rotate_left
         ·rintro w' ⟨s0, s1, s2, s3, s4, s5, s6, s7, s8, s9, s10, s11, s12, s13, s14, s15, s16, s17, s18, s19, s20, s21, s22, s23, s24⟩
          first | (refine Eq.trans (Pre.load_run (ty := 25) rfl Z13 s0 Try.underlying25 rfl Z6) ?_; with_reducible rfl) | (refine Eq.trans (Pre.load_run (ty := 25) rfl Z13 s1 Try.underlying25 rfl Z6) ?_; with_reducible rfl) | (refine Eq.trans (Pre.load_run (ty := 25) rfl Z13 s2 Try.underlying25 rfl Z6) ?_; with_reducible rfl) | (refine Eq.trans (Pre.load_run (ty := 25) rfl Z13 s3 Try.underlying25 rfl Z6) ?_; with_reducible rfl) | (refine Eq.trans (Pre.load_run (ty := 25) rfl Z13 s4 Try.underlying25 rfl Z6) ?_; with_reducible rfl) | (refine Eq.trans (Pre.load_run (ty := 25) rfl Z13 s5 Try.underlying25 rfl Z6) ?_; with_reducible rfl) | (refine Eq.trans (Pre.load_run (ty := 25) rfl Z13 s6 Try.underlying25 rfl Z6) ?_; with_reducible rfl) | (refine Eq.trans (Pre.load_run (ty := 25) rfl Z13 s7 Try.underlying25 rfl Z6) ?_; with_reducible rfl) | (refine Eq.trans (Pre.load_run (ty := 25) rfl Z13 s8 Try.underlying25 rfl Z6) ?_; with_reducible rfl) | (refine Eq.trans (Pre.load_run (ty := 25) rfl Z13 s9 Try.underlying25 rfl Z6) ?_; with_reducible rfl) | (refine Eq.trans (Pre.load_run (ty := 25) rfl Z13 s10 Try.underlying25 rfl Z6) ?_; with_reducible rfl) | (refine Eq.trans (Pre.load_run (ty := 25) rfl Z13 s11 Try.underlying25 rfl Z6) ?_; with_reducible rfl) | (refine Eq.trans (Pre.load_run (ty := 25) rfl Z13 s12 Try.underlying25 rfl Z6) ?_; with_reducible rfl) | (refine Eq.trans (Pre.load_run (ty := 25) rfl Z13 s13 Try.underlying25 rfl Z6) ?_; with_reducible rfl) | (refine Eq.trans (Pre.load_run (ty := 25) rfl Z13 s14 Try.underlying25 rfl Z6) ?_; with_reducible rfl) | (refine Eq.trans (Pre.load_run (ty := 25) rfl Z13 s15 Try.underlying25 rfl Z6) ?_; with_reducible rfl) | (refine Eq.trans (Pre.load_run (ty := 25) rfl Z13 s16 Try.underlying25 rfl Z6) ?_; with_reducible rfl) | (refine Eq.trans (Pre.load_run (ty := 25) rfl Z13 s17 Try.underlying25 rfl Z6) ?_; with_reducible rfl) | (refine Eq.trans (Pre.load_run (ty := 25) rfl Z13 s18 Try.underlying25 rfl Z6) ?_; with_reducible rfl) | (refine Eq.trans (Pre.load_run (ty := 25) rfl Z13 s19 Try.underlying25 rfl Z6) ?_; with_reducible rfl) | (refine Eq.trans (Pre.load_run (ty := 25) rfl Z13 s20 Try.underlying25 rfl Z6) ?_; with_reducible rfl) | (refine Eq.trans (Pre.load_run (ty := 25) rfl Z13 s21 Try.underlying25 rfl Z6) ?_; with_reducible rfl) | (refine Eq.trans (Pre.load_run (ty := 25) rfl Z13 s22 Try.underlying25 rfl Z6) ?_; with_reducible rfl) | (refine Eq.trans (Pre.load_run (ty := 25) rfl Z13 s23 Try.underlying25 rfl Z6) ?_; with_reducible rfl) | (refine Eq.trans (Pre.load_run (ty := 25) rfl Z13 s24 Try.underlying25 rfl Z6) ?_; with_reducible rfl) | (go_simp; with_reducible rfl)
         rotate_left
         ·simp only [Act.put, List.setIfInBounds_toArray, List.set_cons_zero, List.set_cons_succ, i64_w, i32_w]
          rfl
         refine join_ (σ := Value) 4 #[true, true, true, true, true, true, true, true, true, true, true, true, true, true, true, true, true, true, true, true, true, true, true, true, true, true, false, true, false, false, false] (fun s_ => [(30, s_), (31, .string (strOfNums bb)), (38, .string aQ), (45, .string aV), (32, .string ((⟨#[2]⟩ : ByteArray) ++ (strOfNums bb))), (35, .string (((⟨#[2]⟩ : ByteArray) ++ (strOfNums bb)) ++ ac)), (39, .string ((((⟨#[2]⟩ : ByteArray) ++ (strOfNums bb)) ++ ac) ++ aQ)), (42, .string (((((⟨#[2]⟩ : ByteArray) ++ (strOfNums bb)) ++ ac) ++ aQ) ++ af))]) (fun s_ w' => (w'.cell? ⟨aa, 0, none⟩ = some (.int .i64 av) ∧ w'.cell? ⟨aa, 1, none⟩ = some (.int .i64 au) ∧ w'.cell? ⟨aa, 2, none⟩ = some (.int .i64 aw) ∧ w'.cell? ⟨aa, 3, none⟩ = some (.string ay) ∧ w'.cell? ⟨aa, 4, none⟩ = some (.int .i64 aD) ∧ w'.cell? ⟨aa, 5, none⟩ = some (.int .i64 az) ∧ w'.cell? ⟨aa, 6, none⟩ = some (.string aA) ∧ w'.cell? ⟨aa, 7, none⟩ = some (.int .i64 ax) ∧ w'.cell? ⟨aa, 8, none⟩ = some (.int .i64 aE) ∧ w'.cell? ⟨aa, 9, none⟩ = some (.string aC) ∧ w'.cell? ⟨aa, 10, none⟩ = some (.int .i64 ap) ∧ w'.cell? ⟨aa, 11, none⟩ = some (.string an) ∧ w'.cell? ⟨aa, 12, none⟩ = some (.int .i64 aj) ∧ w'.cell? ⟨aa, 13, none⟩ = some (.int .i64 am) ∧ w'.cell? ⟨aa, 14, none⟩ = some (.int .i64 ak) ∧ w'.cell? ⟨aa, 15, none⟩ = some (.int .i64 ah) ∧ w'.cell? ⟨aa, 16, none⟩ = some (.int .i64 ai) ∧ w'.cell? ⟨aa, 17, none⟩ = some (.int .i64 al) ∧ w'.cell? ⟨aa, 18, none⟩ = some (.int .i64 ao) ∧ w'.cell? ⟨aa, 19, none⟩ = some (.string ac) ∧ w'.cell? ⟨aa, 20, none⟩ = some (.string af) ∧ w'.cell? ⟨aa, 21, none⟩ = some (.slice aT ae.length aN) ∧ w'.cell? ⟨aa, 22, none⟩ = some (.int .i64 aq) ∧ w'.cell? ⟨aa, 23, none⟩ = some (.string ar) ∧ w'.cell? ⟨aa, 24, none⟩ = some (.slice aJ ag.length aK)) ∧ (Kd.R (Kd.int .u8) 5 w' w.heap.size (fun _ => True) s_ bb) ∧ (w'.heap[aa]? = some (.cells #[.int .i64 av, .int .i64 au, .int .i64 aw, .string ay, .int .i64 aD, .int .i64 az, .string aA, .int .i64 ax, .int .i64 aE, .string aC, .int .i64 ap, .string an, .int .i64 aj, .int .i64 am, .int .i64 ak, .int .i64 ah, .int .i64 ai, .int .i64 al, .int .i64 ao, .string ac, .string af, .slice aT ae.length aN, .int .i64 aq, .string ar, .slice aJ ag.length aK] 25 (0, 0))) ∧ (Below w.heap.size w w')) ?_ ?_
         rotate_left
         ·intro hJ10_11_18_25
          refine join_ (σ := Value) 5 #[true, true, true, true, true, true, true, true, true, true, true, true, true, true, true, true, true, true, true, true, true, true, true, true, true, false, false, true, false, false, false] (fun s_ => [(30, s_), (31, .string (strOfNums bb)), (38, .string aQ), (32, .string ((⟨#[2]⟩ : ByteArray) ++ (strOfNums bb))), (35, .string (((⟨#[2]⟩ : ByteArray) ++ (strOfNums bb)) ++ ac)), (39, .string ((((⟨#[2]⟩ : ByteArray) ++ (strOfNums bb)) ++ ac) ++ aQ)), (42, .string (((((⟨#[2]⟩ : ByteArray) ++ (strOfNums bb)) ++ ac) ++ aQ) ++ af))]) (fun s_ w' => (w'.cell? ⟨aa, 0, none⟩ = some (.int .i64 av) ∧ w'.cell? ⟨aa, 1, none⟩ = some (.int .i64 au) ∧ w'.cell? ⟨aa, 2, none⟩ = some (.int .i64 aw) ∧ w'.cell? ⟨aa, 3, none⟩ = some (.string ay) ∧ w'.cell? ⟨aa, 4, none⟩ = some (.int .i64 aD) ∧ w'.cell? ⟨aa, 5, none⟩ = some (.int .i64 az) ∧ w'.cell? ⟨aa, 6, none⟩ = some (.string aA) ∧ w'.cell? ⟨aa, 7, none⟩ = some (.int .i64 ax) ∧ w'.cell? ⟨aa, 8, none⟩ = some (.int .i64 aE) ∧ w'.cell? ⟨aa, 9, none⟩ = some (.string aC) ∧ w'.cell? ⟨aa, 10, none⟩ = some (.int .i64 ap) ∧ w'.cell? ⟨aa, 11, none⟩ = some (.string an) ∧ w'.cell? ⟨aa, 12, none⟩ = some (.int .i64 aj) ∧ w'.cell? ⟨aa, 13, none⟩ = some (.int .i64 am) ∧ w'.cell? ⟨aa, 14, none⟩ = some (.int .i64 ak) ∧ w'.cell? ⟨aa, 15, none⟩ = some (.int .i64 ah) ∧ w'.cell? ⟨aa, 16, none⟩ = some (.int .i64 ai) ∧ w'.cell? ⟨aa, 17, none⟩ = some (.int .i64 al) ∧ w'.cell? ⟨aa, 18, none⟩ = some (.int .i64 ao) ∧ w'.cell? ⟨aa, 19, none⟩ = some (.string ac) ∧ w'.cell? ⟨aa, 20, none⟩ = some (.string af) ∧ w'.cell? ⟨aa, 21, none⟩ = some (.slice aT ae.length aN) ∧ w'.cell? ⟨aa, 22, none⟩ = some (.int .i64 aq) ∧ w'.cell? ⟨aa, 23, none⟩ = some (.string ar) ∧ w'.cell? ⟨aa, 24, none⟩ = some (.slice aJ ag.length aK)) ∧ (Kd.R (Kd.int .u8) 5 w' w.heap.size (fun _ => True) s_ bb) ∧ (w'.heap[aa]? = some (.cells #[.int .i64 av, .int .i64 au, .int .i64 aw, .string ay, .int .i64 aD, .int .i64 az, .string aA, .int .i64 ax, .int .i64 aE, .string aC, .int .i64 ap, .string an, .int .i64 aj, .int .i64 am, .int .i64 ak, .int .i64 ah, .int .i64 ai, .int .i64 al, .int .i64 ao, .string ac, .string af, .slice aT ae.length aN, .int .i64 aq, .string ar, .slice aJ ag.length aK] 25 (0, 0))) ∧ (Below w.heap.size w w')) ?_ ?_
          rotate_left
          ·intro hJ10_11_18
           refine join_ (σ := Value) 9 #[true, true, true, true, true, true, true, true, true, true, true, false, false, true, true, false, true, true, true, false, true, true, false, true, true, true, false, true, false, false, false] (fun s_ => [(30, s_), (38, .string aQ), (45, .string aV)]) (fun s_ w' => (w'.cell? ⟨aa, 0, none⟩ = some (.int .i64 av) ∧ w'.cell? ⟨aa, 1, none⟩ = some (.int .i64 au) ∧ w'.cell? ⟨aa, 2, none⟩ = some (.int .i64 aw) ∧ w'.cell? ⟨aa, 3, none⟩ = some (.string ay) ∧ w'.cell? ⟨aa, 4, none⟩ = some (.int .i64 aD) ∧ w'.cell? ⟨aa, 5, none⟩ = some (.int .i64 az) ∧ w'.cell? ⟨aa, 6, none⟩ = some (.string aA) ∧ w'.cell? ⟨aa, 7, none⟩ = some (.int .i64 ax) ∧ w'.cell? ⟨aa, 8, none⟩ = some (.int .i64 aE) ∧ w'.cell? ⟨aa, 9, none⟩ = some (.string aC) ∧ w'.cell? ⟨aa, 10, none⟩ = some (.int .i64 ap) ∧ w'.cell? ⟨aa, 11, none⟩ = some (.string an) ∧ w'.cell? ⟨aa, 12, none⟩ = some (.int .i64 aj) ∧ w'.cell? ⟨aa, 13, none⟩ = some (.int .i64 am) ∧ w'.cell? ⟨aa, 14, none⟩ = some (.int .i64 ak) ∧ w'.cell? ⟨aa, 15, none⟩ = some (.int .i64 ah) ∧ w'.cell? ⟨aa, 16, none⟩ = some (.int .i64 ai) ∧ w'.cell? ⟨aa, 17, none⟩ = some (.int .i64 al) ∧ w'.cell? ⟨aa, 18, none⟩ = some (.int .i64 ao) ∧ w'.cell? ⟨aa, 19, none⟩ = some (.string ac) ∧ w'.cell? ⟨aa, 20, none⟩ = some (.string af) ∧ w'.cell? ⟨aa, 21, none⟩ = some (.slice aT ae.length aN) ∧ w'.cell? ⟨aa, 22, none⟩ = some (.int .i64 aq) ∧ w'.cell? ⟨aa, 23, none⟩ = some (.string ar) ∧ w'.cell? ⟨aa, 24, none⟩ = some (.slice aJ ag.length aK)) ∧ (Kd.R (Kd.int .u8) 5 w' w.heap.size (fun _ => True) s_ bb) ∧ (w'.heap[aa]? = some (.cells #[.int .i64 av, .int .i64 au, .int .i64 aw, .string ay, .int .i64 aD, .int .i64 az, .string aA, .int .i64 ax, .int .i64 aE, .string aC, .int .i64 ap, .string an, .int .i64 aj, .int .i64 am, .int .i64 ak, .int .i64 ah, .int .i64 ai, .int .i64 al, .int .i64 ao, .string ac, .string af, .slice aT ae.length aN, .int .i64 aq, .string ar, .slice aJ ag.length aK] 25 (0, 0))) ∧ (Below w.heap.size w w')) ?_ ?_
           rotate_left
           ·intro hJ10_18_25
            refine join_ (σ := Value) 8 #[true, true, true, true, true, true, true, true, true, true, true, true, true, true, true, true, true, true, false, false, true, true, false, true, true, false, false, true, false, false, false] (fun s_ => [(30, s_), (31, .string (strOfNums bb)), (32, .string ((⟨#[2]⟩ : ByteArray) ++ (strOfNums bb))), (35, .string (((⟨#[2]⟩ : ByteArray) ++ (strOfNums bb)) ++ ac))]) (fun s_ w' => (w'.cell? ⟨aa, 0, none⟩ = some (.int .i64 av) ∧ w'.cell? ⟨aa, 1, none⟩ = some (.int .i64 au) ∧ w'.cell? ⟨aa, 2, none⟩ = some (.int .i64 aw) ∧ w'.cell? ⟨aa, 3, none⟩ = some (.string ay) ∧ w'.cell? ⟨aa, 4, none⟩ = some (.int .i64 aD) ∧ w'.cell? ⟨aa, 5, none⟩ = some (.int .i64 az) ∧ w'.cell? ⟨aa, 6, none⟩ = some (.string aA) ∧ w'.cell? ⟨aa, 7, none⟩ = some (.int .i64 ax) ∧ w'.cell? ⟨aa, 8, none⟩ = some (.int .i64 aE) ∧ w'.cell? ⟨aa, 9, none⟩ = some (.string aC) ∧ w'.cell? ⟨aa, 10, none⟩ = some (.int .i64 ap) ∧ w'.cell? ⟨aa, 11, none⟩ = some (.string an) ∧ w'.cell? ⟨aa, 12, none⟩ = some (.int .i64 aj) ∧ w'.cell? ⟨aa, 13, none⟩ = some (.int .i64 am) ∧ w'.cell? ⟨aa, 14, none⟩ = some (.int .i64 ak) ∧ w'.cell? ⟨aa, 15, none⟩ = some (.int .i64 ah) ∧ w'.cell? ⟨aa, 16, none⟩ = some (.int .i64 ai) ∧ w'.cell? ⟨aa, 17, none⟩ = some (.int .i64 al) ∧ w'.cell? ⟨aa, 18, none⟩ = some (.int .i64 ao) ∧ w'.cell? ⟨aa, 19, none⟩ = some (.string ac) ∧ w'.cell? ⟨aa, 20, none⟩ = some (.string af) ∧ w'.cell? ⟨aa, 21, none⟩ = some (.slice aT ae.length aN) ∧ w'.cell? ⟨aa, 22, none⟩ = some (.int .i64 aq) ∧ w'.cell? ⟨aa, 23, none⟩ = some (.string ar) ∧ w'.cell? ⟨aa, 24, none⟩ = some (.slice aJ ag.length aK)) ∧ (Kd.R (Kd.int .u8) 5 w' w.heap.size (fun _ => True) s_ bb) ∧ (w'.heap[aa]? = some (.cells #[.int .i64 av, .int .i64 au, .int .i64 aw, .string ay, .int .i64 aD, .int .i64 az, .string aA, .int .i64 ax, .int .i64 aE, .string aC, .int .i64 ap, .string an, .int .i64 aj, .int .i64 am, .int .i64 ak, .int .i64 ah, .int .i64 ai, .int .i64 al, .int .i64 ao, .string ac, .string af, .slice aT ae.length aN, .int .i64 aq, .string ar, .slice aJ ag.length aK] 25 (0, 0))) ∧ (Below w.heap.size w w')) ?_ ?_
            rotate_left
            ·intro hJ10_11
             refine join_ (σ := Value) 10 #[true, true, true, true, true, true, true, true, true, true, true, false, false, true, true, false, true, true, true, false, true, true, false, true, true, false, false, true, false, false, false] (fun s_ => [(30, s_), (38, .string aQ)]) (fun s_ w' => (w'.cell? ⟨aa, 0, none⟩ = some (.int .i64 av) ∧ w'.cell? ⟨aa, 1, none⟩ = some (.int .i64 au) ∧ w'.cell? ⟨aa, 2, none⟩ = some (.int .i64 aw) ∧ w'.cell? ⟨aa, 3, none⟩ = some (.string ay) ∧ w'.cell? ⟨aa, 4, none⟩ = some (.int .i64 aD) ∧ w'.cell? ⟨aa, 5, none⟩ = some (.int .i64 az) ∧ w'.cell? ⟨aa, 6, none⟩ = some (.string aA) ∧ w'.cell? ⟨aa, 7, none⟩ = some (.int .i64 ax) ∧ w'.cell? ⟨aa, 8, none⟩ = some (.int .i64 aE) ∧ w'.cell? ⟨aa, 9, none⟩ = some (.string aC) ∧ w'.cell? ⟨aa, 10, none⟩ = some (.int .i64 ap) ∧ w'.cell? ⟨aa, 11, none⟩ = some (.string an) ∧ w'.cell? ⟨aa, 12, none⟩ = some (.int .i64 aj) ∧ w'.cell? ⟨aa, 13, none⟩ = some (.int .i64 am) ∧ w'.cell? ⟨aa, 14, none⟩ = some (.int .i64 ak) ∧ w'.cell? ⟨aa, 15, none⟩ = some (.int .i64 ah) ∧ w'.cell? ⟨aa, 16, none⟩ = some (.int .i64 ai) ∧ w'.cell? ⟨aa, 17, none⟩ = some (.int .i64 al) ∧ w'.cell? ⟨aa, 18, none⟩ = some (.int .i64 ao) ∧ w'.cell? ⟨aa, 19, none⟩ = some (.string ac) ∧ w'.cell? ⟨aa, 20, none⟩ = some (.string af) ∧ w'.cell? ⟨aa, 21, none⟩ = some (.slice aT ae.length aN) ∧ w'.cell? ⟨aa, 22, none⟩ = some (.int .i64 aq) ∧ w'.cell? ⟨aa, 23, none⟩ = some (.string ar) ∧ w'.cell? ⟨aa, 24, none⟩ = some (.slice aJ ag.length aK)) ∧ (Kd.R (Kd.int .u8) 5 w' w.heap.size (fun _ => True) s_ bb) ∧ (w'.heap[aa]? = some (.cells #[.int .i64 av, .int .i64 au, .int .i64 aw, .string ay, .int .i64 aD, .int .i64 az, .string aA, .int .i64 ax, .int .i64 aE, .string aC, .int .i64 ap, .string an, .int .i64 aj, .int .i64 am, .int .i64 ak, .int .i64 ah, .int .i64 ai, .int .i64 al, .int .i64 ao, .string ac, .string af, .slice aT ae.length aN, .int .i64 aq, .string ar, .slice aJ ag.length aK] 25 (0, 0))) ∧ (Below w.heap.size w w')) ?_ ?_
             rotate_left
             ·intro hJ10_18
              refine join_ (σ := Unit) 10 #[true, true, true, true, true, true, true, true, true, true, false, false, false, true, true, false, true, true, true, false, true, true, false, true, true, true, false, true, false, false, false] (fun s_ => [(38, .string aQ), (45, .string aV)]) (fun s_ w' => (w'.cell? ⟨aa, 0, none⟩ = some (.int .i64 av) ∧ w'.cell? ⟨aa, 1, none⟩ = some (.int .i64 au) ∧ w'.cell? ⟨aa, 2, none⟩ = some (.int .i64 aw) ∧ w'.cell? ⟨aa, 3, none⟩ = some (.string ay) ∧ w'.cell? ⟨aa, 4, none⟩ = some (.int .i64 aD) ∧ w'.cell? ⟨aa, 5, none⟩ = some (.int .i64 az) ∧ w'.cell? ⟨aa, 6, none⟩ = some (.string aA) ∧ w'.cell? ⟨aa, 7, none⟩ = some (.int .i64 ax) ∧ w'.cell? ⟨aa, 8, none⟩ = some (.int .i64 aE) ∧ w'.cell? ⟨aa, 9, none⟩ = some (.string aC) ∧ w'.cell? ⟨aa, 10, none⟩ = some (.int .i64 ap) ∧ w'.cell? ⟨aa, 11, none⟩ = some (.string an) ∧ w'.cell? ⟨aa, 12, none⟩ = some (.int .i64 aj) ∧ w'.cell? ⟨aa, 13, none⟩ = some (.int .i64 am) ∧ w'.cell? ⟨aa, 14, none⟩ = some (.int .i64 ak) ∧ w'.cell? ⟨aa, 15, none⟩ = some (.int .i64 ah) ∧ w'.cell? ⟨aa, 16, none⟩ = some (.int .i64 ai) ∧ w'.cell? ⟨aa, 17, none⟩ = some (.int .i64 al) ∧ w'.cell? ⟨aa, 18, none⟩ = some (.int .i64 ao) ∧ w'.cell? ⟨aa, 19, none⟩ = some (.string ac) ∧ w'.cell? ⟨aa, 20, none⟩ = some (.string af) ∧ w'.cell? ⟨aa, 21, none⟩ = some (.slice aT ae.length aN) ∧ w'.cell? ⟨aa, 22, none⟩ = some (.int .i64 aq) ∧ w'.cell? ⟨aa, 23, none⟩ = some (.string ar) ∧ w'.cell? ⟨aa, 24, none⟩ = some (.slice aJ ag.length aK)) ∧ (w'.heap[aa]? = some (.cells #[.int .i64 av, .int .i64 au, .int .i64 aw, .string ay, .int .i64 aD, .int .i64 az, .string aA, .int .i64 ax, .int .i64 aE, .string aC, .int .i64 ap, .string an, .int .i64 aj, .int .i64 am, .int .i64 ak, .int .i64 ah, .int .i64 ai, .int .i64 al, .int .i64 ao, .string ac, .string af, .slice aT ae.length aN, .int .i64 aq, .string ar, .slice aJ ag.length aK] 25 (0, 0))) ∧ (Below w.heap.size w w')) ?_ ?_
              rotate_left
              ·intro hJ18_25
               refine join_ (σ := Value) 11 #[true, true, true, true, true, true, true, true, true, true, true, false, false, true, true, false, true, true, false, false, true, true, false, true, true, false, false, true, false, false, false] (fun s_ => [(30, s_)]) (fun s_ w' => (w'.cell? ⟨aa, 0, none⟩ = some (.int .i64 av) ∧ w'.cell? ⟨aa, 1, none⟩ = some (.int .i64 au) ∧ w'.cell? ⟨aa, 2, none⟩ = some (.int .i64 aw) ∧ w'.cell? ⟨aa, 3, none⟩ = some (.string ay) ∧ w'.cell? ⟨aa, 4, none⟩ = some (.int .i64 aD) ∧ w'.cell? ⟨aa, 5, none⟩ = some (.int .i64 az) ∧ w'.cell? ⟨aa, 6, none⟩ = some (.string aA) ∧ w'.cell? ⟨aa, 7, none⟩ = some (.int .i64 ax) ∧ w'.cell? ⟨aa, 8, none⟩ = some (.int .i64 aE) ∧ w'.cell? ⟨aa, 9, none⟩ = some (.string aC) ∧ w'.cell? ⟨aa, 10, none⟩ = some (.int .i64 ap) ∧ w'.cell? ⟨aa, 11, none⟩ = some (.string an) ∧ w'.cell? ⟨aa, 12, none⟩ = some (.int .i64 aj) ∧ w'.cell? ⟨aa, 13, none⟩ = some (.int .i64 am) ∧ w'.cell? ⟨aa, 14, none⟩ = some (.int .i64 ak) ∧ w'.cell? ⟨aa, 15, none⟩ = some (.int .i64 ah) ∧ w'.cell? ⟨aa, 16, none⟩ = some (.int .i64 ai) ∧ w'.cell? ⟨aa, 17, none⟩ = some (.int .i64 al) ∧ w'.cell? ⟨aa, 18, none⟩ = some (.int .i64 ao) ∧ w'.cell? ⟨aa, 19, none⟩ = some (.string ac) ∧ w'.cell? ⟨aa, 20, none⟩ = some (.string af) ∧ w'.cell? ⟨aa, 21, none⟩ = some (.slice aT ae.length aN) ∧ w'.cell? ⟨aa, 22, none⟩ = some (.int .i64 aq) ∧ w'.cell? ⟨aa, 23, none⟩ = some (.string ar) ∧ w'.cell? ⟨aa, 24, none⟩ = some (.slice aJ ag.length aK)) ∧ (Kd.R (Kd.int .u8) 5 w' w.heap.size (fun _ => True) s_ bb) ∧ (w'.heap[aa]? = some (.cells #[.int .i64 av, .int .i64 au, .int .i64 aw, .string ay, .int .i64 aD, .int .i64 az, .string aA, .int .i64 ax, .int .i64 aE, .string aC, .int .i64 ap, .string an, .int .i64 aj, .int .i64 am, .int .i64 ak, .int .i64 ah, .int .i64 ai, .int .i64 al, .int .i64 ao, .string ac, .string af, .slice aT ae.length aN, .int .i64 aq, .string ar, .slice aJ ag.length aK] 25 (0, 0))) ∧ (Below w.heap.size w w')) ?_ ?_
               rotate_left
               ·intro hJ10
                refine join_ (σ := Unit) 11 #[true, true, true, true, true, true, true, true, true, true, false, false, false, true, true, false, true, true, true, false, true, true, false, true, true, false, false, true, false, false, false] (fun s_ => [(38, .string aQ)]) (fun s_ w' => (w'.cell? ⟨aa, 0, none⟩ = some (.int .i64 av) ∧ w'.cell? ⟨aa, 1, none⟩ = some (.int .i64 au) ∧ w'.cell? ⟨aa, 2, none⟩ = some (.int .i64 aw) ∧ w'.cell? ⟨aa, 3, none⟩ = some (.string ay) ∧ w'.cell? ⟨aa, 4, none⟩ = some (.int .i64 aD) ∧ w'.cell? ⟨aa, 5, none⟩ = some (.int .i64 az) ∧ w'.cell? ⟨aa, 6, none⟩ = some (.string aA) ∧ w'.cell? ⟨aa, 7, none⟩ = some (.int .i64 ax) ∧ w'.cell? ⟨aa, 8, none⟩ = some (.int .i64 aE) ∧ w'.cell? ⟨aa, 9, none⟩ = some (.string aC) ∧ w'.cell? ⟨aa, 10, none⟩ = some (.int .i64 ap) ∧ w'.cell? ⟨aa, 11, none⟩ = some (.string an) ∧ w'.cell? ⟨aa, 12, none⟩ = some (.int .i64 aj) ∧ w'.cell? ⟨aa, 13, none⟩ = some (.int .i64 am) ∧ w'.cell? ⟨aa, 14, none⟩ = some (.int .i64 ak) ∧ w'.cell? ⟨aa, 15, none⟩ = some (.int .i64 ah) ∧ w'.cell? ⟨aa, 16, none⟩ = some (.int .i64 ai) ∧ w'.cell? ⟨aa, 17, none⟩ = some (.int .i64 al) ∧ w'.cell? ⟨aa, 18, none⟩ = some (.int .i64 ao) ∧ w'.cell? ⟨aa, 19, none⟩ = some (.string ac) ∧ w'.cell? ⟨aa, 20, none⟩ = some (.string af) ∧ w'.cell? ⟨aa, 21, none⟩ = some (.slice aT ae.length aN) ∧ w'.cell? ⟨aa, 22, none⟩ = some (.int .i64 aq) ∧ w'.cell? ⟨aa, 23, none⟩ = some (.string ar) ∧ w'.cell? ⟨aa, 24, none⟩ = some (.slice aJ ag.length aK)) ∧ (w'.heap[aa]? = some (.cells #[.int .i64 av, .int .i64 au, .int .i64 aw, .string ay, .int .i64 aD, .int .i64 az, .string aA, .int .i64 ax, .int .i64 aE, .string aC, .int .i64 ap, .string an, .int .i64 aj, .int .i64 am, .int .i64 ak, .int .i64 ah, .int .i64 ai, .int .i64 al, .int .i64 ao, .string ac, .string af, .slice aT ae.length aN, .int .i64 aq, .string ar, .slice aJ ag.length aK] 25 (0, 0))) ∧ (Below w.heap.size w w')) ?_ ?_
                rotate_left
                ·intro hJ18
                 refine two_ (i := 10) (j := 18) (Ni := some 30) (Nj := some 38) #[true, true, true, true, true, true, true, true, true, true, true, false, false, true, true, false, true, true, false, false, true, true, false, true, true, false, false, true, false, false, false] #[true, true, true, true, true, true, true, true, true, true, false, false, false, true, true, false, true, true, true, false, true, true, false, true, true, false, false, true, false, false, false] rfl rfl rfl rfl (two_of HT_.out Z6) Z32 Z32 (fun K hK => ?_) (fun K hK => ?_)
                 ·skip
                  refine Kd.R_lit_step (Kd.int .u8) _ 5 ?hg (N := 30) ?hd (xs := ([(wrap64 (64 * ah)) % 256, (ax) % 256, (ai) % 256] : List Int)) (inner := [.int .u8 ((wrap64 (64 * ah)) % 256), .int .u8 ((ax) % 256), .int .u8 ((ai) % 256)]) (ok := fun _ => True) (okp := fun _ => True) ?hr ?hp (fun _ hk => hk) trivial (Below.refl _ _) (Nat.le_refl _) Z73 ?_; (case hd => rfl); (case hg => rfl); (case hr => first | (go_simp; done) | (go_simp; rfl)); (case hp => exact (Reps.one (show Kd.M (Kd.int .u8) _ _ _ ((wrap64 (64 * ah)) % 256) [.int .u8 ((wrap64 (64 * ah)) % 256)] from rfl) (Reps.one (show Kd.M (Kd.int .u8) _ _ _ ((ax) % 256) [.int .u8 ((ax) % 256)] from rfl) (Reps.one (show Kd.M (Kd.int .u8) _ _ _ ((ai) % 256) [.int .u8 ((ai) % 256)] from rfl) (Reps.none _ _)))))
                  intro dJ nl ho29 hb hg_ hnew_
                  clear hg_ hnew_
                  (first | rw [← Ny105.out] at ho29 | (simp only [Int.reduceToNat] at ho29; rw [← Ny105.out] at ho29))
                  have aG := Aside0.mk (Kd.R_lower ho29 (below_size Z0))
                  have aH := Aside0.mk (blk_below (g := aa) Z1 hb)
                  have aI := Aside0.mk (below_step Z0 hb)
                  clear ab
                  clear HB
                  have cC := aG
                  have ab := aH
                  have HB := aI
                  clear aG aH aI
                  clear hb ho29
                  refine hK.out _ _ ⟨(blk_cell ab.out 0).trans rfl, (blk_cell ab.out 1).trans rfl, (blk_cell ab.out 2).trans rfl, (blk_cell ab.out 3).trans rfl, (blk_cell ab.out 4).trans rfl, (blk_cell ab.out 5).trans rfl, (blk_cell ab.out 6).trans rfl, (blk_cell ab.out 7).trans rfl, (blk_cell ab.out 8).trans rfl, (blk_cell ab.out 9).trans rfl, (blk_cell ab.out 10).trans rfl, (blk_cell ab.out 11).trans rfl, (blk_cell ab.out 12).trans rfl, (blk_cell ab.out 13).trans rfl, (blk_cell ab.out 14).trans rfl, (blk_cell ab.out 15).trans rfl, (blk_cell ab.out 16).trans rfl, (blk_cell ab.out 17).trans rfl, (blk_cell ab.out 18).trans rfl, (blk_cell ab.out 19).trans rfl, (blk_cell ab.out 20).trans rfl, (blk_cell ab.out 21).trans rfl, (blk_cell ab.out 22).trans rfl, (blk_cell ab.out 23).trans rfl, (blk_cell ab.out 24).trans rfl⟩ (fun hHeld => ?_)
                  clear hK K
                  refine norm_ (a' := ?_) ?_ ?_
                  rotate_left
                  ·show Act.put _ (some 30) _ = _
                   simp only [Act.put, List.setIfInBounds_toArray, List.set_cons_zero, List.set_cons_succ, i64_w, i32_w]
                   rfl
                  exact norm_ Z20 (hJ10 (dJ) _ ⟨hHeld, Z24, Z1, Z0⟩)
                 ·skip
                  refine goes_ Try.func52 Z6 rfl #[.int .i64 aj, .int .i64 4] Z13 rfl rfl Z5 ?_
                  with_reducible refine (roadbookref02_Of.calls k aj 4 aQ _ ut.out).mono ?_
                  rintro e nl ⟨rfl, hb⟩
                  refine ⟨_, rfl, ?_⟩
                  have aG := Aside0.mk (blk_below (g := aa) Z1 hb)
                  have aH := Aside0.mk (below_step Z0 hb)
                  clear ab
                  clear HB
                  have ab := aG
                  have HB := aH
                  clear aG aH
                  (try clear hb)
                  (try clear hb2)
                  (try clear hk)
                  (try clear hi)
                  refine hK.out _ _ ⟨(blk_cell ab.out 0).trans rfl, (blk_cell ab.out 1).trans rfl, (blk_cell ab.out 2).trans rfl, (blk_cell ab.out 3).trans rfl, (blk_cell ab.out 4).trans rfl, (blk_cell ab.out 5).trans rfl, (blk_cell ab.out 6).trans rfl, (blk_cell ab.out 7).trans rfl, (blk_cell ab.out 8).trans rfl, (blk_cell ab.out 9).trans rfl, (blk_cell ab.out 10).trans rfl, (blk_cell ab.out 11).trans rfl, (blk_cell ab.out 12).trans rfl, (blk_cell ab.out 13).trans rfl, (blk_cell ab.out 14).trans rfl, (blk_cell ab.out 15).trans rfl, (blk_cell ab.out 16).trans rfl, (blk_cell ab.out 17).trans rfl, (blk_cell ab.out 18).trans rfl, (blk_cell ab.out 19).trans rfl, (blk_cell ab.out 20).trans rfl, (blk_cell ab.out 21).trans rfl, (blk_cell ab.out 22).trans rfl, (blk_cell ab.out 23).trans rfl, (blk_cell ab.out 24).trans rfl⟩ (fun hHeld => ?_)
                  clear hK K
                  refine norm_ (a' := ?_) ?_ ?_
                  rotate_left
                  ·show Act.put _ (some 38) _ = _
                   simp only [Act.put, List.setIfInBounds_toArray, List.set_cons_zero, List.set_cons_succ, i64_w, i32_w]
                   rfl
                  exact norm_ Z20 (hJ18 () _ ⟨hHeld, Z1, Z0⟩)
                ·skip
                 rintro _ hX ⟨hS_, h0_, h1_⟩
                 have aG : Aside0 (hX.heap[aa]? = some (.cells #[.int .i64 av, .int .i64 au, .int .i64 aw, .string ay, .int .i64 aD, .int .i64 az, .string aA, .int .i64 ax, .int .i64 aE, .string aC, .int .i64 ap, .string an, .int .i64 aj, .int .i64 am, .int .i64 ak, .int .i64 ah, .int .i64 ai, .int .i64 al, .int .i64 ao, .string ac, .string af, .slice aT ae.length aN, .int .i64 aq, .string ar, .slice aJ ag.length aK] 25 (0, 0))) := ⟨h0_⟩
                 have aH : Aside0 (Below w.heap.size w hX) := ⟨h1_⟩
                 clear ab
                 clear HB
                 clear h0_ h1_
                 have ab := aG
                 have HB := aH
                 clear aG aH
                 have hHeld : hX.cell? ⟨aa, 0, none⟩ = some (.int .i64 av) ∧ hX.cell? ⟨aa, 1, none⟩ = some (.int .i64 au) ∧ hX.cell? ⟨aa, 2, none⟩ = some (.int .i64 aw) ∧ hX.cell? ⟨aa, 3, none⟩ = some (.string ay) ∧ hX.cell? ⟨aa, 4, none⟩ = some (.int .i64 aD) ∧ hX.cell? ⟨aa, 5, none⟩ = some (.int .i64 az) ∧ hX.cell? ⟨aa, 6, none⟩ = some (.string aA) ∧ hX.cell? ⟨aa, 7, none⟩ = some (.int .i64 ax) ∧ hX.cell? ⟨aa, 8, none⟩ = some (.int .i64 aE) ∧ hX.cell? ⟨aa, 9, none⟩ = some (.string aC) ∧ hX.cell? ⟨aa, 10, none⟩ = some (.int .i64 ap) ∧ hX.cell? ⟨aa, 11, none⟩ = some (.string an) ∧ hX.cell? ⟨aa, 12, none⟩ = some (.int .i64 aj) ∧ hX.cell? ⟨aa, 13, none⟩ = some (.int .i64 am) ∧ hX.cell? ⟨aa, 14, none⟩ = some (.int .i64 ak) ∧ hX.cell? ⟨aa, 15, none⟩ = some (.int .i64 ah) ∧ hX.cell? ⟨aa, 16, none⟩ = some (.int .i64 ai) ∧ hX.cell? ⟨aa, 17, none⟩ = some (.int .i64 al) ∧ hX.cell? ⟨aa, 18, none⟩ = some (.int .i64 ao) ∧ hX.cell? ⟨aa, 19, none⟩ = some (.string ac) ∧ hX.cell? ⟨aa, 20, none⟩ = some (.string af) ∧ hX.cell? ⟨aa, 21, none⟩ = some (.slice aT ae.length aN) ∧ hX.cell? ⟨aa, 22, none⟩ = some (.int .i64 aq) ∧ hX.cell? ⟨aa, 23, none⟩ = some (.string ar) ∧ hX.cell? ⟨aa, 24, none⟩ = some (.slice aJ ag.length aK) := hS_
                 refine norm_ (a' := ?_) ?_ ?_
                 rotate_left
                 ·simp only [putAll, Act.put, List.setIfInBounds_toArray, List.set_cons_zero, List.set_cons_succ]
                  rfl
                 refine two_ (i := 10) (j := 25) (Ni := some 30) (Nj := some 45) #[true, true, true, true, true, true, true, true, true, true, true, false, false, true, true, false, true, true, true, false, true, true, false, true, true, false, false, true, false, false, false] #[true, true, true, true, true, true, true, true, true, true, false, false, false, true, true, false, true, true, true, false, true, true, false, true, true, true, false, true, false, false, false] rfl rfl rfl rfl (two_of HT_.out Z6) Z32 Z32 (fun K hK => ?_) (fun K hK => ?_)
                 ·skip
                  refine Kd.R_lit_step (Kd.int .u8) _ 5 ?hg (N := 30) ?hd (xs := ([(wrap64 (64 * ah)) % 256, (ax) % 256, (ai) % 256] : List Int)) (inner := [.int .u8 ((wrap64 (64 * ah)) % 256), .int .u8 ((ax) % 256), .int .u8 ((ai) % 256)]) (ok := fun _ => True) (okp := fun _ => True) ?hr ?hp (fun _ hk => hk) trivial (Below.refl _ _) (Nat.le_refl _) Z73 ?_; (case hd => rfl); (case hg => rfl); (case hr => first | (go_simp; done) | (go_simp; rfl)); (case hp => exact (Reps.one (show Kd.M (Kd.int .u8) _ _ _ ((wrap64 (64 * ah)) % 256) [.int .u8 ((wrap64 (64 * ah)) % 256)] from rfl) (Reps.one (show Kd.M (Kd.int .u8) _ _ _ ((ax) % 256) [.int .u8 ((ax) % 256)] from rfl) (Reps.one (show Kd.M (Kd.int .u8) _ _ _ ((ai) % 256) [.int .u8 ((ai) % 256)] from rfl) (Reps.none _ _)))))
                  intro dJ gM ho31 hb hg_ hnew_
                  clear hg_ hnew_
                  (first | rw [← Ny105.out] at ho31 | (simp only [Int.reduceToNat] at ho31; rw [← Ny105.out] at ho31))
                  have aG := Aside0.mk (Kd.R_lower ho31 (below_size Z0))
                  have aH := Aside0.mk (blk_below (g := aa) Z1 hb)
                  have aI := Aside0.mk (below_step Z0 hb)
                  clear ab
                  clear HB
                  have cC := aG
                  have ab := aH
                  have HB := aI
                  clear aG aH aI
                  clear hb ho31
                  refine hK.out _ _ ⟨(blk_cell ab.out 0).trans rfl, (blk_cell ab.out 1).trans rfl, (blk_cell ab.out 2).trans rfl, (blk_cell ab.out 3).trans rfl, (blk_cell ab.out 4).trans rfl, (blk_cell ab.out 5).trans rfl, (blk_cell ab.out 6).trans rfl, (blk_cell ab.out 7).trans rfl, (blk_cell ab.out 8).trans rfl, (blk_cell ab.out 9).trans rfl, (blk_cell ab.out 10).trans rfl, (blk_cell ab.out 11).trans rfl, (blk_cell ab.out 12).trans rfl, (blk_cell ab.out 13).trans rfl, (blk_cell ab.out 14).trans rfl, (blk_cell ab.out 15).trans rfl, (blk_cell ab.out 16).trans rfl, (blk_cell ab.out 17).trans rfl, (blk_cell ab.out 18).trans rfl, (blk_cell ab.out 19).trans rfl, (blk_cell ab.out 20).trans rfl, (blk_cell ab.out 21).trans rfl, (blk_cell ab.out 22).trans rfl, (blk_cell ab.out 23).trans rfl, (blk_cell ab.out 24).trans rfl⟩ (fun hHeld => ?_)
                  clear hK K
                  refine norm_ (a' := ?_) ?_ ?_
                  rotate_left
                  ·show Act.put _ (some 30) _ = _
                   simp only [Act.put, List.setIfInBounds_toArray, List.set_cons_zero, List.set_cons_succ, i64_w, i32_w]
                   rfl
                  exact norm_ Z20 (hJ10_18 (dJ) _ ⟨hHeld, Z24, Z1, Z0⟩)
                 ·skip
                  refine goes_ Try.func52 Z6 rfl #[.int .i64 ak, .int .i64 4] Z13 rfl rfl Z5 ?_
                  with_reducible refine (roadbookref02_Of.calls k ak 4 aV _ ma.out).mono ?_
                  rintro e gM ⟨rfl, hb⟩
                  refine ⟨_, rfl, ?_⟩
                  have aG := Aside0.mk (blk_below (g := aa) Z1 hb)
                  have aH := Aside0.mk (below_step Z0 hb)
                  clear ab
                  clear HB
                  have ab := aG
                  have HB := aH
                  clear aG aH
                  (try clear hb)
                  (try clear hb2)
                  (try clear hk)
                  (try clear hi)
                  refine hK.out _ _ ⟨(blk_cell ab.out 0).trans rfl, (blk_cell ab.out 1).trans rfl, (blk_cell ab.out 2).trans rfl, (blk_cell ab.out 3).trans rfl, (blk_cell ab.out 4).trans rfl, (blk_cell ab.out 5).trans rfl, (blk_cell ab.out 6).trans rfl, (blk_cell ab.out 7).trans rfl, (blk_cell ab.out 8).trans rfl, (blk_cell ab.out 9).trans rfl, (blk_cell ab.out 10).trans rfl, (blk_cell ab.out 11).trans rfl, (blk_cell ab.out 12).trans rfl, (blk_cell ab.out 13).trans rfl, (blk_cell ab.out 14).trans rfl, (blk_cell ab.out 15).trans rfl, (blk_cell ab.out 16).trans rfl, (blk_cell ab.out 17).trans rfl, (blk_cell ab.out 18).trans rfl, (blk_cell ab.out 19).trans rfl, (blk_cell ab.out 20).trans rfl, (blk_cell ab.out 21).trans rfl, (blk_cell ab.out 22).trans rfl, (blk_cell ab.out 23).trans rfl, (blk_cell ab.out 24).trans rfl⟩ (fun hHeld => ?_)
                  clear hK K
                  refine norm_ (a' := ?_) ?_ ?_
                  rotate_left
                  ·show Act.put _ (some 45) _ = _
                   simp only [Act.put, List.setIfInBounds_toArray, List.set_cons_zero, List.set_cons_succ, i64_w, i32_w]
                   rfl
                  exact norm_ Z20 (hJ18_25 () _ ⟨hHeld, Z1, Z0⟩)
               ·skip
                rintro dJ gM ⟨hS_, h0_, h1_, h2_⟩
                have aG : Aside0 (Kd.R (Kd.int .u8) 5 gM w.heap.size (fun _ => True) dJ bb) := ⟨h0_⟩
                have aH : Aside0 (gM.heap[aa]? = some (.cells #[.int .i64 av, .int .i64 au, .int .i64 aw, .string ay, .int .i64 aD, .int .i64 az, .string aA, .int .i64 ax, .int .i64 aE, .string aC, .int .i64 ap, .string an, .int .i64 aj, .int .i64 am, .int .i64 ak, .int .i64 ah, .int .i64 ai, .int .i64 al, .int .i64 ao, .string ac, .string af, .slice aT ae.length aN, .int .i64 aq, .string ar, .slice aJ ag.length aK] 25 (0, 0))) := ⟨h1_⟩
                have aI : Aside0 (Below w.heap.size w gM) := ⟨h2_⟩
                clear ab
                clear HB
                clear h0_ h1_ h2_
                have cC := aG
                have ab := aH
                have HB := aI
                clear aG aH aI
                have hHeld : gM.cell? ⟨aa, 0, none⟩ = some (.int .i64 av) ∧ gM.cell? ⟨aa, 1, none⟩ = some (.int .i64 au) ∧ gM.cell? ⟨aa, 2, none⟩ = some (.int .i64 aw) ∧ gM.cell? ⟨aa, 3, none⟩ = some (.string ay) ∧ gM.cell? ⟨aa, 4, none⟩ = some (.int .i64 aD) ∧ gM.cell? ⟨aa, 5, none⟩ = some (.int .i64 az) ∧ gM.cell? ⟨aa, 6, none⟩ = some (.string aA) ∧ gM.cell? ⟨aa, 7, none⟩ = some (.int .i64 ax) ∧ gM.cell? ⟨aa, 8, none⟩ = some (.int .i64 aE) ∧ gM.cell? ⟨aa, 9, none⟩ = some (.string aC) ∧ gM.cell? ⟨aa, 10, none⟩ = some (.int .i64 ap) ∧ gM.cell? ⟨aa, 11, none⟩ = some (.string an) ∧ gM.cell? ⟨aa, 12, none⟩ = some (.int .i64 aj) ∧ gM.cell? ⟨aa, 13, none⟩ = some (.int .i64 am) ∧ gM.cell? ⟨aa, 14, none⟩ = some (.int .i64 ak) ∧ gM.cell? ⟨aa, 15, none⟩ = some (.int .i64 ah) ∧ gM.cell? ⟨aa, 16, none⟩ = some (.int .i64 ai) ∧ gM.cell? ⟨aa, 17, none⟩ = some (.int .i64 al) ∧ gM.cell? ⟨aa, 18, none⟩ = some (.int .i64 ao) ∧ gM.cell? ⟨aa, 19, none⟩ = some (.string ac) ∧ gM.cell? ⟨aa, 20, none⟩ = some (.string af) ∧ gM.cell? ⟨aa, 21, none⟩ = some (.slice aT ae.length aN) ∧ gM.cell? ⟨aa, 22, none⟩ = some (.int .i64 aq) ∧ gM.cell? ⟨aa, 23, none⟩ = some (.string ar) ∧ gM.cell? ⟨aa, 24, none⟩ = some (.slice aJ ag.length aK) := hS_
                refine norm_ (a' := ?_) ?_ ?_
                rotate_left
                ·simp only [putAll, Act.put, List.setIfInBounds_toArray, List.set_cons_zero, List.set_cons_succ]
                 rfl
                refine two_ (i := 11) (j := 18) (Ni := some 31) (Nj := some 38) #[true, true, true, true, true, true, true, true, true, true, true, true, false, true, true, false, true, true, false, false, true, true, false, true, true, false, false, true, false, false, false] #[true, true, true, true, true, true, true, true, true, true, true, false, false, true, true, false, true, true, true, false, true, true, false, true, true, false, false, true, false, false, false] rfl rfl rfl rfl (two_of HT_.out Z6) Z32 Z32 (fun K hK => ?_) (fun K hK => ?_)
                ·skip
                 have hcv31 := own_string (P := Try.prog) Try.underlying51 Try.underlying5 Try.underlying9 (Kd.own_of_R cC.out)
                 refine value_ (w1 := ?_) (v := ?_) Z13 rfl ?_ ?_
                 rotate_left 2
                 ·go_simp
                  constructor
                  ·rfl
                  ·rfl
                 clear hcv31
                 refine hK.out _ _ ⟨(blk_cell ab.out 0).trans rfl, (blk_cell ab.out 1).trans rfl, (blk_cell ab.out 2).trans rfl, (blk_cell ab.out 3).trans rfl, (blk_cell ab.out 4).trans rfl, (blk_cell ab.out 5).trans rfl, (blk_cell ab.out 6).trans rfl, (blk_cell ab.out 7).trans rfl, (blk_cell ab.out 8).trans rfl, (blk_cell ab.out 9).trans rfl, (blk_cell ab.out 10).trans rfl, (blk_cell ab.out 11).trans rfl, (blk_cell ab.out 12).trans rfl, (blk_cell ab.out 13).trans rfl, (blk_cell ab.out 14).trans rfl, (blk_cell ab.out 15).trans rfl, (blk_cell ab.out 16).trans rfl, (blk_cell ab.out 17).trans rfl, (blk_cell ab.out 18).trans rfl, (blk_cell ab.out 19).trans rfl, (blk_cell ab.out 20).trans rfl, (blk_cell ab.out 21).trans rfl, (blk_cell ab.out 22).trans rfl, (blk_cell ab.out 23).trans rfl, (blk_cell ab.out 24).trans rfl⟩ (fun hHeld => ?_)
                 clear hK K
                 refine norm_ (a' := ?_) ?_ ?_
                 rotate_left
                 ·show Act.put _ (some 31) _ = _
                  simp only [Act.put, List.setIfInBounds_toArray, List.set_cons_zero, List.set_cons_succ, i64_w, i32_w]
                  rfl
                 refine pure_ (i := 12) (N := some 32) (v := ?_) (a' := ?_) #[true, true, true, true, true, true, true, true, true, true, true, true, true, true, true, false, true, true, false, false, true, true, false, true, true, false, false, true, false, false, false] rfl rfl (any_of HT_.out Z6) (fun _ _ _ h => h) (Or.inl ⟨Z13, ?_⟩) ?_ ?_
                 rotate_left
                 ·intro w'
                  go_simp
                  with_reducible rfl
                 rotate_left
                 ·simp only [Act.put, List.setIfInBounds_toArray, List.set_cons_zero, List.set_cons_succ, i64_w, i32_w]
                  rfl
                 refine pure_ (i := 15) (N := some 35) (v := ?_) (a' := ?_) #[true, true, true, true, true, true, true, true, true, true, true, true, true, true, true, true, true, true, false, false, true, true, false, true, true, false, false, true, false, false, false] rfl rfl (any_of HT_.out Z6) (fun _ _ _ h => h) (Or.inl ⟨Z13, ?_⟩) ?_ ?_
                 rotate_left
                 ·intro w'
                  go_simp
                  with_reducible rfl
                 rotate_left
                 ·simp only [Act.put, List.setIfInBounds_toArray, List.set_cons_zero, List.set_cons_succ, i64_w, i32_w]
                  rfl
                 exact norm_ Z20 (hJ10_11 (dJ) _ ⟨hHeld, Z24, Z1, Z0⟩)
                ·skip
                 refine goes_ Try.func52 Z6 rfl #[.int .i64 aj, .int .i64 4] Z13 rfl rfl Z5 ?_
                 with_reducible refine (roadbookref02_Of.calls k aj 4 aQ _ ut.out).mono ?_
                 rintro e gQ ⟨rfl, hb⟩
                 refine ⟨_, rfl, ?_⟩
                 have aG := Aside0.mk (Kd.R_below Z24 hb)
                 have aH := Aside0.mk (blk_below (g := aa) Z1 hb)
                 have aI := Aside0.mk (below_step Z0 hb)
                 clear cC
                 clear ab
                 clear HB
                 have cC := aG
                 have ab := aH
                 have HB := aI
                 clear aG aH aI
                 (try clear hb)
                 (try clear hb2)
                 (try clear hk)
                 (try clear hi)
                 refine hK.out _ _ ⟨(blk_cell ab.out 0).trans rfl, (blk_cell ab.out 1).trans rfl, (blk_cell ab.out 2).trans rfl, (blk_cell ab.out 3).trans rfl, (blk_cell ab.out 4).trans rfl, (blk_cell ab.out 5).trans rfl, (blk_cell ab.out 6).trans rfl, (blk_cell ab.out 7).trans rfl, (blk_cell ab.out 8).trans rfl, (blk_cell ab.out 9).trans rfl, (blk_cell ab.out 10).trans rfl, (blk_cell ab.out 11).trans rfl, (blk_cell ab.out 12).trans rfl, (blk_cell ab.out 13).trans rfl, (blk_cell ab.out 14).trans rfl, (blk_cell ab.out 15).trans rfl, (blk_cell ab.out 16).trans rfl, (blk_cell ab.out 17).trans rfl, (blk_cell ab.out 18).trans rfl, (blk_cell ab.out 19).trans rfl, (blk_cell ab.out 20).trans rfl, (blk_cell ab.out 21).trans rfl, (blk_cell ab.out 22).trans rfl, (blk_cell ab.out 23).trans rfl, (blk_cell ab.out 24).trans rfl⟩ (fun hHeld => ?_)
                 clear hK K
                 refine norm_ (a' := ?_) ?_ ?_
                 rotate_left
                 ·show Act.put _ (some 38) _ = _
                  simp only [Act.put, List.setIfInBounds_toArray, List.set_cons_zero, List.set_cons_succ, i64_w, i32_w]
                  rfl
                 exact norm_ Z20 (hJ10_18 (dJ) _ ⟨hHeld, Z24, Z1, Z0⟩)
              ·skip
               rintro _ gM ⟨hS_, h0_, h1_⟩
               have aG : Aside0 (gM.heap[aa]? = some (.cells #[.int .i64 av, .int .i64 au, .int .i64 aw, .string ay, .int .i64 aD, .int .i64 az, .string aA, .int .i64 ax, .int .i64 aE, .string aC, .int .i64 ap, .string an, .int .i64 aj, .int .i64 am, .int .i64 ak, .int .i64 ah, .int .i64 ai, .int .i64 al, .int .i64 ao, .string ac, .string af, .slice aT ae.length aN, .int .i64 aq, .string ar, .slice aJ ag.length aK] 25 (0, 0))) := ⟨h0_⟩
               have aH : Aside0 (Below w.heap.size w gM) := ⟨h1_⟩
               clear ab
               clear HB
               clear h0_ h1_
               have ab := aG
               have HB := aH
               clear aG aH
               have hHeld : gM.cell? ⟨aa, 0, none⟩ = some (.int .i64 av) ∧ gM.cell? ⟨aa, 1, none⟩ = some (.int .i64 au) ∧ gM.cell? ⟨aa, 2, none⟩ = some (.int .i64 aw) ∧ gM.cell? ⟨aa, 3, none⟩ = some (.string ay) ∧ gM.cell? ⟨aa, 4, none⟩ = some (.int .i64 aD) ∧ gM.cell? ⟨aa, 5, none⟩ = some (.int .i64 az) ∧ gM.cell? ⟨aa, 6, none⟩ = some (.string aA) ∧ gM.cell? ⟨aa, 7, none⟩ = some (.int .i64 ax) ∧ gM.cell? ⟨aa, 8, none⟩ = some (.int .i64 aE) ∧ gM.cell? ⟨aa, 9, none⟩ = some (.string aC) ∧ gM.cell? ⟨aa, 10, none⟩ = some (.int .i64 ap) ∧ gM.cell? ⟨aa, 11, none⟩ = some (.string an) ∧ gM.cell? ⟨aa, 12, none⟩ = some (.int .i64 aj) ∧ gM.cell? ⟨aa, 13, none⟩ = some (.int .i64 am) ∧ gM.cell? ⟨aa, 14, none⟩ = some (.int .i64 ak) ∧ gM.cell? ⟨aa, 15, none⟩ = some (.int .i64 ah) ∧ gM.cell? ⟨aa, 16, none⟩ = some (.int .i64 ai) ∧ gM.cell? ⟨aa, 17, none⟩ = some (.int .i64 al) ∧ gM.cell? ⟨aa, 18, none⟩ = some (.int .i64 ao) ∧ gM.cell? ⟨aa, 19, none⟩ = some (.string ac) ∧ gM.cell? ⟨aa, 20, none⟩ = some (.string af) ∧ gM.cell? ⟨aa, 21, none⟩ = some (.slice aT ae.length aN) ∧ gM.cell? ⟨aa, 22, none⟩ = some (.int .i64 aq) ∧ gM.cell? ⟨aa, 23, none⟩ = some (.string ar) ∧ gM.cell? ⟨aa, 24, none⟩ = some (.slice aJ ag.length aK) := hS_
               refine norm_ (a' := ?_) ?_ ?_
               rotate_left
               ·simp only [putAll, Act.put, List.setIfInBounds_toArray, List.set_cons_zero, List.set_cons_succ]
                rfl
               refine one_ (i := 10) (N := some 30) #[true, true, true, true, true, true, true, true, true, true, true, false, false, true, true, false, true, true, true, false, true, true, false, true, true, true, false, true, false, false, false] rfl rfl (one_of HT_.out Z6) Z32 (fun K hK => ?_)
               refine Kd.R_lit_step (Kd.int .u8) _ 5 ?hg (N := 30) ?hd (xs := ([(wrap64 (64 * ah)) % 256, (ax) % 256, (ai) % 256] : List Int)) (inner := [.int .u8 ((wrap64 (64 * ah)) % 256), .int .u8 ((ax) % 256), .int .u8 ((ai) % 256)]) (ok := fun _ => True) (okp := fun _ => True) ?hr ?hp (fun _ hk => hk) trivial (Below.refl _ _) (Nat.le_refl _) Z73 ?_; (case hd => rfl); (case hg => rfl); (case hr => first | (go_simp; done) | (go_simp; rfl)); (case hp => exact (Reps.one (show Kd.M (Kd.int .u8) _ _ _ ((wrap64 (64 * ah)) % 256) [.int .u8 ((wrap64 (64 * ah)) % 256)] from rfl) (Reps.one (show Kd.M (Kd.int .u8) _ _ _ ((ax) % 256) [.int .u8 ((ax) % 256)] from rfl) (Reps.one (show Kd.M (Kd.int .u8) _ _ _ ((ai) % 256) [.int .u8 ((ai) % 256)] from rfl) (Reps.none _ _)))))
               intro dJ gQ ho32 hb hg_ hnew_
               clear hg_ hnew_
               (first | rw [← Ny105.out] at ho32 | (simp only [Int.reduceToNat] at ho32; rw [← Ny105.out] at ho32))
               have aG := Aside0.mk (Kd.R_lower ho32 (below_size Z0))
               have aH := Aside0.mk (blk_below (g := aa) Z1 hb)
               have aI := Aside0.mk (below_step Z0 hb)
               clear ab
               clear HB
               have cC := aG
               have ab := aH
               have HB := aI
               clear aG aH aI
               clear hb ho32
               refine hK.out _ _ ⟨(blk_cell ab.out 0).trans rfl, (blk_cell ab.out 1).trans rfl, (blk_cell ab.out 2).trans rfl, (blk_cell ab.out 3).trans rfl, (blk_cell ab.out 4).trans rfl, (blk_cell ab.out 5).trans rfl, (blk_cell ab.out 6).trans rfl, (blk_cell ab.out 7).trans rfl, (blk_cell ab.out 8).trans rfl, (blk_cell ab.out 9).trans rfl, (blk_cell ab.out 10).trans rfl, (blk_cell ab.out 11).trans rfl, (blk_cell ab.out 12).trans rfl, (blk_cell ab.out 13).trans rfl, (blk_cell ab.out 14).trans rfl, (blk_cell ab.out 15).trans rfl, (blk_cell ab.out 16).trans rfl, (blk_cell ab.out 17).trans rfl, (blk_cell ab.out 18).trans rfl, (blk_cell ab.out 19).trans rfl, (blk_cell ab.out 20).trans rfl, (blk_cell ab.out 21).trans rfl, (blk_cell ab.out 22).trans rfl, (blk_cell ab.out 23).trans rfl, (blk_cell ab.out 24).trans rfl⟩ (fun hHeld => ?_)
               clear hK K
               refine norm_ (a' := ?_) ?_ ?_
               rotate_left
               ·show Act.put _ (some 30) _ = _
                simp only [Act.put, List.setIfInBounds_toArray, List.set_cons_zero, List.set_cons_succ, i64_w, i32_w]
                rfl
               exact norm_ Z20 (hJ10_18_25 (dJ) _ ⟨hHeld, Z24, Z1, Z0⟩)
             ·skip
              rintro dJ gQ ⟨hS_, h0_, h1_, h2_⟩
              have aG : Aside0 (Kd.R (Kd.int .u8) 5 gQ w.heap.size (fun _ => True) dJ bb) := ⟨h0_⟩
              have aH : Aside0 (gQ.heap[aa]? = some (.cells #[.int .i64 av, .int .i64 au, .int .i64 aw, .string ay, .int .i64 aD, .int .i64 az, .string aA, .int .i64 ax, .int .i64 aE, .string aC, .int .i64 ap, .string an, .int .i64 aj, .int .i64 am, .int .i64 ak, .int .i64 ah, .int .i64 ai, .int .i64 al, .int .i64 ao, .string ac, .string af, .slice aT ae.length aN, .int .i64 aq, .string ar, .slice aJ ag.length aK] 25 (0, 0))) := ⟨h1_⟩
              have aI : Aside0 (Below w.heap.size w gQ) := ⟨h2_⟩
              clear ab
              clear HB
              clear h0_ h1_ h2_
              have cC := aG
              have ab := aH
              have HB := aI
              clear aG aH aI
              have hHeld : gQ.cell? ⟨aa, 0, none⟩ = some (.int .i64 av) ∧ gQ.cell? ⟨aa, 1, none⟩ = some (.int .i64 au) ∧ gQ.cell? ⟨aa, 2, none⟩ = some (.int .i64 aw) ∧ gQ.cell? ⟨aa, 3, none⟩ = some (.string ay) ∧ gQ.cell? ⟨aa, 4, none⟩ = some (.int .i64 aD) ∧ gQ.cell? ⟨aa, 5, none⟩ = some (.int .i64 az) ∧ gQ.cell? ⟨aa, 6, none⟩ = some (.string aA) ∧ gQ.cell? ⟨aa, 7, none⟩ = some (.int .i64 ax) ∧ gQ.cell? ⟨aa, 8, none⟩ = some (.int .i64 aE) ∧ gQ.cell? ⟨aa, 9, none⟩ = some (.string aC) ∧ gQ.cell? ⟨aa, 10, none⟩ = some (.int .i64 ap) ∧ gQ.cell? ⟨aa, 11, none⟩ = some (.string an) ∧ gQ.cell? ⟨aa, 12, none⟩ = some (.int .i64 aj) ∧ gQ.cell? ⟨aa, 13, none⟩ = some (.int .i64 am) ∧ gQ.cell? ⟨aa, 14, none⟩ = some (.int .i64 ak) ∧ gQ.cell? ⟨aa, 15, none⟩ = some (.int .i64 ah) ∧ gQ.cell? ⟨aa, 16, none⟩ = some (.int .i64 ai) ∧ gQ.cell? ⟨aa, 17, none⟩ = some (.int .i64 al) ∧ gQ.cell? ⟨aa, 18, none⟩ = some (.int .i64 ao) ∧ gQ.cell? ⟨aa, 19, none⟩ = some (.string ac) ∧ gQ.cell? ⟨aa, 20, none⟩ = some (.string af) ∧ gQ.cell? ⟨aa, 21, none⟩ = some (.slice aT ae.length aN) ∧ gQ.cell? ⟨aa, 22, none⟩ = some (.int .i64 aq) ∧ gQ.cell? ⟨aa, 23, none⟩ = some (.string ar) ∧ gQ.cell? ⟨aa, 24, none⟩ = some (.slice aJ ag.length aK) := hS_
              refine norm_ (a' := ?_) ?_ ?_
              rotate_left
              ·simp only [putAll, Act.put, List.setIfInBounds_toArray, List.set_cons_zero, List.set_cons_succ]
               rfl
              refine two_ (i := 11) (j := 25) (Ni := some 31) (Nj := some 45) #[true, true, true, true, true, true, true, true, true, true, true, true, false, true, true, false, true, true, true, false, true, true, false, true, true, false, false, true, false, false, false] #[true, true, true, true, true, true, true, true, true, true, true, false, false, true, true, false, true, true, true, false, true, true, false, true, true, true, false, true, false, false, false] rfl rfl rfl rfl (two_of HT_.out Z6) Z32 Z32 (fun K hK => ?_) (fun K hK => ?_)
              ·skip
               have hcv32 := own_string (P := Try.prog) Try.underlying51 Try.underlying5 Try.underlying9 (Kd.own_of_R cC.out)
               refine value_ (w1 := ?_) (v := ?_) Z13 rfl ?_ ?_
               rotate_left 2
               ·go_simp
                constructor
                ·rfl
                ·rfl
               clear hcv32
               refine hK.out _ _ ⟨(blk_cell ab.out 0).trans rfl, (blk_cell ab.out 1).trans rfl, (blk_cell ab.out 2).trans rfl, (blk_cell ab.out 3).trans rfl, (blk_cell ab.out 4).trans rfl, (blk_cell ab.out 5).trans rfl, (blk_cell ab.out 6).trans rfl, (blk_cell ab.out 7).trans rfl, (blk_cell ab.out 8).trans rfl, (blk_cell ab.out 9).trans rfl, (blk_cell ab.out 10).trans rfl, (blk_cell ab.out 11).trans rfl, (blk_cell ab.out 12).trans rfl, (blk_cell ab.out 13).trans rfl, (blk_cell ab.out 14).trans rfl, (blk_cell ab.out 15).trans rfl, (blk_cell ab.out 16).trans rfl, (blk_cell ab.out 17).trans rfl, (blk_cell ab.out 18).trans rfl, (blk_cell ab.out 19).trans rfl, (blk_cell ab.out 20).trans rfl, (blk_cell ab.out 21).trans rfl, (blk_cell ab.out 22).trans rfl, (blk_cell ab.out 23).trans rfl, (blk_cell ab.out 24).trans rfl⟩ (fun hHeld => ?_)
               clear hK K
               refine norm_ (a' := ?_) ?_ ?_
               rotate_left
               ·show Act.put _ (some 31) _ = _
                simp only [Act.put, List.setIfInBounds_toArray, List.set_cons_zero, List.set_cons_succ, i64_w, i32_w]
                rfl
               refine pure_ (i := 12) (N := some 32) (v := ?_) (a' := ?_) #[true, true, true, true, true, true, true, true, true, true, true, true, true, true, true, false, true, true, true, false, true, true, false, true, true, false, false, true, false, false, false] rfl rfl (any_of HT_.out Z6) (fun _ _ _ h => h) (Or.inl ⟨Z13, ?_⟩) ?_ ?_
               rotate_left
               ·intro w'
                go_simp
                with_reducible rfl
               rotate_left
               ·simp only [Act.put, List.setIfInBounds_toArray, List.set_cons_zero, List.set_cons_succ, i64_w, i32_w]
                rfl
               refine pure_ (i := 15) (N := some 35) (v := ?_) (a' := ?_) #[true, true, true, true, true, true, true, true, true, true, true, true, true, true, true, true, true, true, true, false, true, true, false, true, true, false, false, true, false, false, false] rfl rfl (any_of HT_.out Z6) (fun _ _ _ h => h) (Or.inl ⟨Z13, ?_⟩) ?_ ?_
               rotate_left
               ·intro w'
                go_simp
                with_reducible rfl
               rotate_left
               ·simp only [Act.put, List.setIfInBounds_toArray, List.set_cons_zero, List.set_cons_succ, i64_w, i32_w]
                rfl
               refine pure_ (i := 19) (N := some 39) (v := ?_) (a' := ?_) #[true, true, true, true, true, true, true, true, true, true, true, true, true, true, true, true, true, true, true, true, true, true, false, true, true, false, false, true, false, false, false] rfl rfl (any_of HT_.out Z6) (fun _ _ _ h => h) (Or.inl ⟨Z13, ?_⟩) ?_ ?_
               rotate_left
               ·intro w'
                go_simp
                with_reducible rfl
               rotate_left
               ·simp only [Act.put, List.setIfInBounds_toArray, List.set_cons_zero, List.set_cons_succ, i64_w, i32_w]
                rfl
               refine pure_ (i := 22) (N := some 42) (v := ?_) (a' := ?_) #[true, true, true, true, true, true, true, true, true, true, true, true, true, true, true, true, true, true, true, true, true, true, true, true, true, false, false, true, false, false, false] rfl rfl (any_of HT_.out Z6) (fun _ _ _ h => h) (Or.inl ⟨Z13, ?_⟩) ?_ ?_
               rotate_left
               ·intro w'
                go_simp
                with_reducible rfl
               rotate_left
               ·simp only [Act.put, List.setIfInBounds_toArray, List.set_cons_zero, List.set_cons_succ, i64_w, i32_w]
                rfl
               exact norm_ Z20 (hJ10_11_18 (dJ) _ ⟨hHeld, Z24, Z1, Z0⟩)
              ·skip
               refine goes_ Try.func52 Z6 rfl #[.int .i64 ak, .int .i64 4] Z13 rfl rfl Z5 ?_
               with_reducible refine (roadbookref02_Of.calls k ak 4 aV _ ma.out).mono ?_
               rintro e gX ⟨rfl, hb⟩
               refine ⟨_, rfl, ?_⟩
               have aG := Aside0.mk (Kd.R_below Z24 hb)
               have aH := Aside0.mk (blk_below (g := aa) Z1 hb)
               have aI := Aside0.mk (below_step Z0 hb)
               clear cC
               clear ab
               clear HB
               have cC := aG
               have ab := aH
               have HB := aI
               clear aG aH aI
               (try clear hb)
               (try clear hb2)
               (try clear hk)
               (try clear hi)
               refine hK.out _ _ ⟨(blk_cell ab.out 0).trans rfl, (blk_cell ab.out 1).trans rfl, (blk_cell ab.out 2).trans rfl, (blk_cell ab.out 3).trans rfl, (blk_cell ab.out 4).trans rfl, (blk_cell ab.out 5).trans rfl, (blk_cell ab.out 6).trans rfl, (blk_cell ab.out 7).trans rfl, (blk_cell ab.out 8).trans rfl, (blk_cell ab.out 9).trans rfl, (blk_cell ab.out 10).trans rfl, (blk_cell ab.out 11).trans rfl, (blk_cell ab.out 12).trans rfl, (blk_cell ab.out 13).trans rfl, (blk_cell ab.out 14).trans rfl, (blk_cell ab.out 15).trans rfl, (blk_cell ab.out 16).trans rfl, (blk_cell ab.out 17).trans rfl, (blk_cell ab.out 18).trans rfl, (blk_cell ab.out 19).trans rfl, (blk_cell ab.out 20).trans rfl, (blk_cell ab.out 21).trans rfl, (blk_cell ab.out 22).trans rfl, (blk_cell ab.out 23).trans rfl, (blk_cell ab.out 24).trans rfl⟩ (fun hHeld => ?_)
               clear hK K
               refine norm_ (a' := ?_) ?_ ?_
               rotate_left
               ·show Act.put _ (some 45) _ = _
                simp only [Act.put, List.setIfInBounds_toArray, List.set_cons_zero, List.set_cons_succ, i64_w, i32_w]
                rfl
               exact norm_ Z20 (hJ10_18_25 (dJ) _ ⟨hHeld, Z24, Z1, Z0⟩)
            ·skip
             rintro dJ gQ ⟨hS_, h0_, h1_, h2_⟩
             have aG : Aside0 (Kd.R (Kd.int .u8) 5 gQ w.heap.size (fun _ => True) dJ bb) := ⟨h0_⟩
             have aH : Aside0 (gQ.heap[aa]? = some (.cells #[.int .i64 av, .int .i64 au, .int .i64 aw, .string ay, .int .i64 aD, .int .i64 az, .string aA, .int .i64 ax, .int .i64 aE, .string aC, .int .i64 ap, .string an, .int .i64 aj, .int .i64 am, .int .i64 ak, .int .i64 ah, .int .i64 ai, .int .i64 al, .int .i64 ao, .string ac, .string af, .slice aT ae.length aN, .int .i64 aq, .string ar, .slice aJ ag.length aK] 25 (0, 0))) := ⟨h1_⟩
             have aI : Aside0 (Below w.heap.size w gQ) := ⟨h2_⟩
             clear ab
             clear HB
             clear h0_ h1_ h2_
             have cC := aG
             have ab := aH
             have HB := aI
             clear aG aH aI
             have hHeld : gQ.cell? ⟨aa, 0, none⟩ = some (.int .i64 av) ∧ gQ.cell? ⟨aa, 1, none⟩ = some (.int .i64 au) ∧ gQ.cell? ⟨aa, 2, none⟩ = some (.int .i64 aw) ∧ gQ.cell? ⟨aa, 3, none⟩ = some (.string ay) ∧ gQ.cell? ⟨aa, 4, none⟩ = some (.int .i64 aD) ∧ gQ.cell? ⟨aa, 5, none⟩ = some (.int .i64 az) ∧ gQ.cell? ⟨aa, 6, none⟩ = some (.string aA) ∧ gQ.cell? ⟨aa, 7, none⟩ = some (.int .i64 ax) ∧ gQ.cell? ⟨aa, 8, none⟩ = some (.int .i64 aE) ∧ gQ.cell? ⟨aa, 9, none⟩ = some (.string aC) ∧ gQ.cell? ⟨aa, 10, none⟩ = some (.int .i64 ap) ∧ gQ.cell? ⟨aa, 11, none⟩ = some (.string an) ∧ gQ.cell? ⟨aa, 12, none⟩ = some (.int .i64 aj) ∧ gQ.cell? ⟨aa, 13, none⟩ = some (.int .i64 am) ∧ gQ.cell? ⟨aa, 14, none⟩ = some (.int .i64 ak) ∧ gQ.cell? ⟨aa, 15, none⟩ = some (.int .i64 ah) ∧ gQ.cell? ⟨aa, 16, none⟩ = some (.int .i64 ai) ∧ gQ.cell? ⟨aa, 17, none⟩ = some (.int .i64 al) ∧ gQ.cell? ⟨aa, 18, none⟩ = some (.int .i64 ao) ∧ gQ.cell? ⟨aa, 19, none⟩ = some (.string ac) ∧ gQ.cell? ⟨aa, 20, none⟩ = some (.string af) ∧ gQ.cell? ⟨aa, 21, none⟩ = some (.slice aT ae.length aN) ∧ gQ.cell? ⟨aa, 22, none⟩ = some (.int .i64 aq) ∧ gQ.cell? ⟨aa, 23, none⟩ = some (.string ar) ∧ gQ.cell? ⟨aa, 24, none⟩ = some (.slice aJ ag.length aK) := hS_
             refine norm_ (a' := ?_) ?_ ?_
             rotate_left
             ·simp only [putAll, Act.put, List.setIfInBounds_toArray, List.set_cons_zero, List.set_cons_succ]
              rfl
             refine one_ (i := 18) (N := some 38) #[true, true, true, true, true, true, true, true, true, true, true, true, true, true, true, true, true, true, true, false, true, true, false, true, true, false, false, true, false, false, false] rfl rfl (one_of HT_.out Z6) Z32 (fun K hK => ?_)
             refine goes_ Try.func52 Z6 rfl #[.int .i64 aj, .int .i64 4] Z13 rfl rfl Z5 ?_
             with_reducible refine (roadbookref02_Of.calls k aj 4 aQ _ ut.out).mono ?_
             rintro e gX ⟨rfl, hb⟩
             refine ⟨_, rfl, ?_⟩
             have aG := Aside0.mk (Kd.R_below Z24 hb)
             have aH := Aside0.mk (blk_below (g := aa) Z1 hb)
             have aI := Aside0.mk (below_step Z0 hb)
             clear cC
             clear ab
             clear HB
             have cC := aG
             have ab := aH
             have HB := aI
             clear aG aH aI
             (try clear hb)
             (try clear hb2)
             (try clear hk)
             (try clear hi)
             refine hK.out _ _ ⟨(blk_cell ab.out 0).trans rfl, (blk_cell ab.out 1).trans rfl, (blk_cell ab.out 2).trans rfl, (blk_cell ab.out 3).trans rfl, (blk_cell ab.out 4).trans rfl, (blk_cell ab.out 5).trans rfl, (blk_cell ab.out 6).trans rfl, (blk_cell ab.out 7).trans rfl, (blk_cell ab.out 8).trans rfl, (blk_cell ab.out 9).trans rfl, (blk_cell ab.out 10).trans rfl, (blk_cell ab.out 11).trans rfl, (blk_cell ab.out 12).trans rfl, (blk_cell ab.out 13).trans rfl, (blk_cell ab.out 14).trans rfl, (blk_cell ab.out 15).trans rfl, (blk_cell ab.out 16).trans rfl, (blk_cell ab.out 17).trans rfl, (blk_cell ab.out 18).trans rfl, (blk_cell ab.out 19).trans rfl, (blk_cell ab.out 20).trans rfl, (blk_cell ab.out 21).trans rfl, (blk_cell ab.out 22).trans rfl, (blk_cell ab.out 23).trans rfl, (blk_cell ab.out 24).trans rfl⟩ (fun hHeld => ?_)
             clear hK K
             refine norm_ (a' := ?_) ?_ ?_
             rotate_left
             ·show Act.put _ (some 38) _ = _
              simp only [Act.put, List.setIfInBounds_toArray, List.set_cons_zero, List.set_cons_succ, i64_w, i32_w]
              rfl
             refine pure_ (i := 19) (N := some 39) (v := ?_) (a' := ?_) #[true, true, true, true, true, true, true, true, true, true, true, true, true, true, true, true, true, true, true, true, true, true, false, true, true, false, false, true, false, false, false] rfl rfl (any_of HT_.out Z6) (fun _ _ _ h => h) (Or.inl ⟨Z13, ?_⟩) ?_ ?_
             rotate_left
             ·intro w'
              go_simp
              with_reducible rfl
             rotate_left
             ·simp only [Act.put, List.setIfInBounds_toArray, List.set_cons_zero, List.set_cons_succ, i64_w, i32_w]
              rfl
             refine pure_ (i := 22) (N := some 42) (v := ?_) (a' := ?_) #[true, true, true, true, true, true, true, true, true, true, true, true, true, true, true, true, true, true, true, true, true, true, true, true, true, false, false, true, false, false, false] rfl rfl (any_of HT_.out Z6) (fun _ _ _ h => h) (Or.inl ⟨Z13, ?_⟩) ?_ ?_
             rotate_left
             ·intro w'
              go_simp
              with_reducible rfl
             rotate_left
             ·simp only [Act.put, List.setIfInBounds_toArray, List.set_cons_zero, List.set_cons_succ, i64_w, i32_w]
              rfl
             exact norm_ Z20 (hJ10_11_18 (dJ) _ ⟨hHeld, Z24, Z1, Z0⟩)
           ·skip
            rintro dJ gX ⟨hS_, h0_, h1_, h2_⟩
            have aG : Aside0 (Kd.R (Kd.int .u8) 5 gX w.heap.size (fun _ => True) dJ bb) := ⟨h0_⟩
            have aH : Aside0 (gX.heap[aa]? = some (.cells #[.int .i64 av, .int .i64 au, .int .i64 aw, .string ay, .int .i64 aD, .int .i64 az, .string aA, .int .i64 ax, .int .i64 aE, .string aC, .int .i64 ap, .string an, .int .i64 aj, .int .i64 am, .int .i64 ak, .int .i64 ah, .int .i64 ai, .int .i64 al, .int .i64 ao, .string ac, .string af, .slice aT ae.length aN, .int .i64 aq, .string ar, .slice aJ ag.length aK] 25 (0, 0))) := ⟨h1_⟩
            have aI : Aside0 (Below w.heap.size w gX) := ⟨h2_⟩
            clear ab
            clear HB
            clear h0_ h1_ h2_
            have cC := aG
            have ab := aH
            have HB := aI
            clear aG aH aI
            have hHeld : gX.cell? ⟨aa, 0, none⟩ = some (.int .i64 av) ∧ gX.cell? ⟨aa, 1, none⟩ = some (.int .i64 au) ∧ gX.cell? ⟨aa, 2, none⟩ = some (.int .i64 aw) ∧ gX.cell? ⟨aa, 3, none⟩ = some (.string ay) ∧ gX.cell? ⟨aa, 4, none⟩ = some (.int .i64 aD) ∧ gX.cell? ⟨aa, 5, none⟩ = some (.int .i64 az) ∧ gX.cell? ⟨aa, 6, none⟩ = some (.string aA) ∧ gX.cell? ⟨aa, 7, none⟩ = some (.int .i64 ax) ∧ gX.cell? ⟨aa, 8, none⟩ = some (.int .i64 aE) ∧ gX.cell? ⟨aa, 9, none⟩ = some (.string aC) ∧ gX.cell? ⟨aa, 10, none⟩ = some (.int .i64 ap) ∧ gX.cell? ⟨aa, 11, none⟩ = some (.string an) ∧ gX.cell? ⟨aa, 12, none⟩ = some (.int .i64 aj) ∧ gX.cell? ⟨aa, 13, none⟩ = some (.int .i64 am) ∧ gX.cell? ⟨aa, 14, none⟩ = some (.int .i64 ak) ∧ gX.cell? ⟨aa, 15, none⟩ = some (.int .i64 ah) ∧ gX.cell? ⟨aa, 16, none⟩ = some (.int .i64 ai) ∧ gX.cell? ⟨aa, 17, none⟩ = some (.int .i64 al) ∧ gX.cell? ⟨aa, 18, none⟩ = some (.int .i64 ao) ∧ gX.cell? ⟨aa, 19, none⟩ = some (.string ac) ∧ gX.cell? ⟨aa, 20, none⟩ = some (.string af) ∧ gX.cell? ⟨aa, 21, none⟩ = some (.slice aT ae.length aN) ∧ gX.cell? ⟨aa, 22, none⟩ = some (.int .i64 aq) ∧ gX.cell? ⟨aa, 23, none⟩ = some (.string ar) ∧ gX.cell? ⟨aa, 24, none⟩ = some (.slice aJ ag.length aK) := hS_
            refine norm_ (a' := ?_) ?_ ?_
            rotate_left
            ·simp only [putAll, Act.put, List.setIfInBounds_toArray, List.set_cons_zero, List.set_cons_succ]
             rfl
            refine one_ (i := 11) (N := some 31) #[true, true, true, true, true, true, true, true, true, true, true, true, false, true, true, false, true, true, true, false, true, true, false, true, true, true, false, true, false, false, false] rfl rfl (one_of HT_.out Z6) Z32 (fun K hK => ?_)
            have hcv33 := own_string (P := Try.prog) Try.underlying51 Try.underlying5 Try.underlying9 (Kd.own_of_R cC.out)
            refine value_ (w1 := ?_) (v := ?_) Z13 rfl ?_ ?_
            rotate_left 2
            ·go_simp
             constructor
             ·rfl
             ·rfl
            clear hcv33
            refine hK.out _ _ ⟨(blk_cell ab.out 0).trans rfl, (blk_cell ab.out 1).trans rfl, (blk_cell ab.out 2).trans rfl, (blk_cell ab.out 3).trans rfl, (blk_cell ab.out 4).trans rfl, (blk_cell ab.out 5).trans rfl, (blk_cell ab.out 6).trans rfl, (blk_cell ab.out 7).trans rfl, (blk_cell ab.out 8).trans rfl, (blk_cell ab.out 9).trans rfl, (blk_cell ab.out 10).trans rfl, (blk_cell ab.out 11).trans rfl, (blk_cell ab.out 12).trans rfl, (blk_cell ab.out 13).trans rfl, (blk_cell ab.out 14).trans rfl, (blk_cell ab.out 15).trans rfl, (blk_cell ab.out 16).trans rfl, (blk_cell ab.out 17).trans rfl, (blk_cell ab.out 18).trans rfl, (blk_cell ab.out 19).trans rfl, (blk_cell ab.out 20).trans rfl, (blk_cell ab.out 21).trans rfl, (blk_cell ab.out 22).trans rfl, (blk_cell ab.out 23).trans rfl, (blk_cell ab.out 24).trans rfl⟩ (fun hHeld => ?_)
            clear hK K
            refine norm_ (a' := ?_) ?_ ?_
            rotate_left
            ·show Act.put _ (some 31) _ = _
             simp only [Act.put, List.setIfInBounds_toArray, List.set_cons_zero, List.set_cons_succ, i64_w, i32_w]
             rfl
            refine pure_ (i := 12) (N := some 32) (v := ?_) (a' := ?_) #[true, true, true, true, true, true, true, true, true, true, true, true, true, true, true, false, true, true, true, false, true, true, false, true, true, true, false, true, false, false, false] rfl rfl (any_of HT_.out Z6) (fun _ _ _ h => h) (Or.inl ⟨Z13, ?_⟩) ?_ ?_
            rotate_left
            ·intro w'
             go_simp
             with_reducible rfl
            rotate_left
            ·simp only [Act.put, List.setIfInBounds_toArray, List.set_cons_zero, List.set_cons_succ, i64_w, i32_w]
             rfl
            refine pure_ (i := 15) (N := some 35) (v := ?_) (a' := ?_) #[true, true, true, true, true, true, true, true, true, true, true, true, true, true, true, true, true, true, true, false, true, true, false, true, true, true, false, true, false, false, false] rfl rfl (any_of HT_.out Z6) (fun _ _ _ h => h) (Or.inl ⟨Z13, ?_⟩) ?_ ?_
            rotate_left
            ·intro w'
             go_simp
             with_reducible rfl
            rotate_left
            ·simp only [Act.put, List.setIfInBounds_toArray, List.set_cons_zero, List.set_cons_succ, i64_w, i32_w]
             rfl
            refine pure_ (i := 19) (N := some 39) (v := ?_) (a' := ?_) #[true, true, true, true, true, true, true, true, true, true, true, true, true, true, true, true, true, true, true, true, true, true, false, true, true, true, false, true, false, false, false] rfl rfl (any_of HT_.out Z6) (fun _ _ _ h => h) (Or.inl ⟨Z13, ?_⟩) ?_ ?_
            rotate_left
            ·intro w'
             go_simp
             with_reducible rfl
            rotate_left
            ·simp only [Act.put, List.setIfInBounds_toArray, List.set_cons_zero, List.set_cons_succ, i64_w, i32_w]
             rfl
            refine pure_ (i := 22) (N := some 42) (v := ?_) (a' := ?_) #[true, true, true, true, true, true, true, true, true, true, true, true, true, true, true, true, true, true, true, true, true, true, true, true, true, true, false, true, false, false, false] rfl rfl (any_of HT_.out Z6) (fun _ _ _ h => h) (Or.inl ⟨Z13, ?_⟩) ?_ ?_
            rotate_left
            ·intro w'
             go_simp
             with_reducible rfl
            rotate_left
            ·simp only [Act.put, List.setIfInBounds_toArray, List.set_cons_zero, List.set_cons_succ, i64_w, i32_w]
             rfl
            exact norm_ Z20 (hJ10_11_18_25 (dJ) _ ⟨hHeld, Z24, Z1, Z0⟩)
          ·skip
           rintro dJ gX ⟨hS_, h0_, h1_, h2_⟩
           have aG : Aside0 (Kd.R (Kd.int .u8) 5 gX w.heap.size (fun _ => True) dJ bb) := ⟨h0_⟩
           have aH : Aside0 (gX.heap[aa]? = some (.cells #[.int .i64 av, .int .i64 au, .int .i64 aw, .string ay, .int .i64 aD, .int .i64 az, .string aA, .int .i64 ax, .int .i64 aE, .string aC, .int .i64 ap, .string an, .int .i64 aj, .int .i64 am, .int .i64 ak, .int .i64 ah, .int .i64 ai, .int .i64 al, .int .i64 ao, .string ac, .string af, .slice aT ae.length aN, .int .i64 aq, .string ar, .slice aJ ag.length aK] 25 (0, 0))) := ⟨h1_⟩
           have aI : Aside0 (Below w.heap.size w gX) := ⟨h2_⟩
           clear ab
           clear HB
           clear h0_ h1_ h2_
           have cC := aG
           have ab := aH
           have HB := aI
           clear aG aH aI
           have hHeld : gX.cell? ⟨aa, 0, none⟩ = some (.int .i64 av) ∧ gX.cell? ⟨aa, 1, none⟩ = some (.int .i64 au) ∧ gX.cell? ⟨aa, 2, none⟩ = some (.int .i64 aw) ∧ gX.cell? ⟨aa, 3, none⟩ = some (.string ay) ∧ gX.cell? ⟨aa, 4, none⟩ = some (.int .i64 aD) ∧ gX.cell? ⟨aa, 5, none⟩ = some (.int .i64 az) ∧ gX.cell? ⟨aa, 6, none⟩ = some (.string aA) ∧ gX.cell? ⟨aa, 7, none⟩ = some (.int .i64 ax) ∧ gX.cell? ⟨aa, 8, none⟩ = some (.int .i64 aE) ∧ gX.cell? ⟨aa, 9, none⟩ = some (.string aC) ∧ gX.cell? ⟨aa, 10, none⟩ = some (.int .i64 ap) ∧ gX.cell? ⟨aa, 11, none⟩ = some (.string an) ∧ gX.cell? ⟨aa, 12, none⟩ = some (.int .i64 aj) ∧ gX.cell? ⟨aa, 13, none⟩ = some (.int .i64 am) ∧ gX.cell? ⟨aa, 14, none⟩ = some (.int .i64 ak) ∧ gX.cell? ⟨aa, 15, none⟩ = some (.int .i64 ah) ∧ gX.cell? ⟨aa, 16, none⟩ = some (.int .i64 ai) ∧ gX.cell? ⟨aa, 17, none⟩ = some (.int .i64 al) ∧ gX.cell? ⟨aa, 18, none⟩ = some (.int .i64 ao) ∧ gX.cell? ⟨aa, 19, none⟩ = some (.string ac) ∧ gX.cell? ⟨aa, 20, none⟩ = some (.string af) ∧ gX.cell? ⟨aa, 21, none⟩ = some (.slice aT ae.length aN) ∧ gX.cell? ⟨aa, 22, none⟩ = some (.int .i64 aq) ∧ gX.cell? ⟨aa, 23, none⟩ = some (.string ar) ∧ gX.cell? ⟨aa, 24, none⟩ = some (.slice aJ ag.length aK) := hS_
           refine norm_ (a' := ?_) ?_ ?_
           rotate_left
           ·simp only [putAll, Act.put, List.setIfInBounds_toArray, List.set_cons_zero, List.set_cons_succ]
            rfl
           refine one_ (i := 25) (N := some 45) #[true, true, true, true, true, true, true, true, true, true, true, true, true, true, true, true, true, true, true, true, true, true, true, true, true, true, false, true, false, false, false] rfl rfl (one_of HT_.out Z6) Z32 (fun K hK => ?_)
           refine goes_ Try.func52 Z6 rfl #[.int .i64 ak, .int .i64 4] Z13 rfl rfl Z5 ?_
           with_reducible refine (roadbookref02_Of.calls k ak 4 aV _ ma.out).mono ?_
           rintro e iH ⟨rfl, hb⟩
           refine ⟨_, rfl, ?_⟩
           have aG := Aside0.mk (Kd.R_below Z24 hb)
           have aH := Aside0.mk (blk_below (g := aa) Z1 hb)
           have aI := Aside0.mk (below_step Z0 hb)
           clear cC
           clear ab
           clear HB
           have cC := aG
           have ab := aH
           have HB := aI
           clear aG aH aI
           (try clear hb)
           (try clear hb2)
           (try clear hk)
           (try clear hi)
           refine hK.out _ _ ⟨(blk_cell ab.out 0).trans rfl, (blk_cell ab.out 1).trans rfl, (blk_cell ab.out 2).trans rfl, (blk_cell ab.out 3).trans rfl, (blk_cell ab.out 4).trans rfl, (blk_cell ab.out 5).trans rfl, (blk_cell ab.out 6).trans rfl, (blk_cell ab.out 7).trans rfl, (blk_cell ab.out 8).trans rfl, (blk_cell ab.out 9).trans rfl, (blk_cell ab.out 10).trans rfl, (blk_cell ab.out 11).trans rfl, (blk_cell ab.out 12).trans rfl, (blk_cell ab.out 13).trans rfl, (blk_cell ab.out 14).trans rfl, (blk_cell ab.out 15).trans rfl, (blk_cell ab.out 16).trans rfl, (blk_cell ab.out 17).trans rfl, (blk_cell ab.out 18).trans rfl, (blk_cell ab.out 19).trans rfl, (blk_cell ab.out 20).trans rfl, (blk_cell ab.out 21).trans rfl, (blk_cell ab.out 22).trans rfl, (blk_cell ab.out 23).trans rfl, (blk_cell ab.out 24).trans rfl⟩ (fun hHeld => ?_)
           clear hK K
           refine norm_ (a' := ?_) ?_ ?_
           rotate_left
           ·show Act.put _ (some 45) _ = _
            simp only [Act.put, List.setIfInBounds_toArray, List.set_cons_zero, List.set_cons_succ, i64_w, i32_w]
            rfl
           exact norm_ Z20 (hJ10_11_18_25 (dJ) _ ⟨hHeld, Z24, Z1, Z0⟩)
         rintro dJ iH ⟨hS_, h0_, h1_, h2_⟩
         have aG : Aside0 (Kd.R (Kd.int .u8) 5 iH w.heap.size (fun _ => True) dJ bb) := ⟨h0_⟩
         have aH : Aside0 (iH.heap[aa]? = some (.cells #[.int .i64 av, .int .i64 au, .int .i64 aw, .string ay, .int .i64 aD, .int .i64 az, .string aA, .int .i64 ax, .int .i64 aE, .string aC, .int .i64 ap, .string an, .int .i64 aj, .int .i64 am, .int .i64 ak, .int .i64 ah, .int .i64 ai, .int .i64 al, .int .i64 ao, .string ac, .string af, .slice aT ae.length aN, .int .i64 aq, .string ar, .slice aJ ag.length aK] 25 (0, 0))) := ⟨h1_⟩
         have aI : Aside0 (Below w.heap.size w iH) := ⟨h2_⟩
         clear ab
         clear HB
         clear h0_ h1_ h2_
         have cC := aG
         have ab := aH
         have HB := aI
         clear aG aH aI
         have hHeld : iH.cell? ⟨aa, 0, none⟩ = some (.int .i64 av) ∧ iH.cell? ⟨aa, 1, none⟩ = some (.int .i64 au) ∧ iH.cell? ⟨aa, 2, none⟩ = some (.int .i64 aw) ∧ iH.cell? ⟨aa, 3, none⟩ = some (.string ay) ∧ iH.cell? ⟨aa, 4, none⟩ = some (.int .i64 aD) ∧ iH.cell? ⟨aa, 5, none⟩ = some (.int .i64 az) ∧ iH.cell? ⟨aa, 6, none⟩ = some (.string aA) ∧ iH.cell? ⟨aa, 7, none⟩ = some (.int .i64 ax) ∧ iH.cell? ⟨aa, 8, none⟩ = some (.int .i64 aE) ∧ iH.cell? ⟨aa, 9, none⟩ = some (.string aC) ∧ iH.cell? ⟨aa, 10, none⟩ = some (.int .i64 ap) ∧ iH.cell? ⟨aa, 11, none⟩ = some (.string an) ∧ iH.cell? ⟨aa, 12, none⟩ = some (.int .i64 aj) ∧ iH.cell? ⟨aa, 13, none⟩ = some (.int .i64 am) ∧ iH.cell? ⟨aa, 14, none⟩ = some (.int .i64 ak) ∧ iH.cell? ⟨aa, 15, none⟩ = some (.int .i64 ah) ∧ iH.cell? ⟨aa, 16, none⟩ = some (.int .i64 ai) ∧ iH.cell? ⟨aa, 17, none⟩ = some (.int .i64 al) ∧ iH.cell? ⟨aa, 18, none⟩ = some (.int .i64 ao) ∧ iH.cell? ⟨aa, 19, none⟩ = some (.string ac) ∧ iH.cell? ⟨aa, 20, none⟩ = some (.string af) ∧ iH.cell? ⟨aa, 21, none⟩ = some (.slice aT ae.length aN) ∧ iH.cell? ⟨aa, 22, none⟩ = some (.int .i64 aq) ∧ iH.cell? ⟨aa, 23, none⟩ = some (.string ar) ∧ iH.cell? ⟨aa, 24, none⟩ = some (.slice aJ ag.length aK) := hS_
         refine norm_ (a' := ?_) ?_ ?_
         rotate_left
         ·simp only [putAll, Act.put, List.setIfInBounds_toArray, List.set_cons_zero, List.set_cons_succ]
          rfl
         refine pure_ (i := 26) (N := some 46) (v := ?_) (a' := ?_) #[true, true, true, true, true, true, true, true, true, true, true, true, true, true, true, true, true, true, true, true, true, true, true, true, true, true, true, true, false, false, false] rfl rfl (any_of HT_.out Z6) (fun _ _ _ h => h) (Or.inl ⟨Z13, ?_⟩) ?_ ?_
         rotate_left
         ·intro w'
          go_simp
          with_reducible rfl
         rotate_left
         ·simp only [Act.put, List.setIfInBounds_toArray, List.set_cons_zero, List.set_cons_succ, i64_w, i32_w]
          rfl
         refine pure_ (i := 28) (N := some 48) (v := ?_) (a' := ?_) #[true, true, true, true, true, true, true, true, true, true, true, true, true, true, true, true, true, true, true, true, true, true, true, true, true, true, true, true, true, false, false] rfl rfl (any_of HT_.out Z6) (fun _ _ _ h => h) (Or.inl ⟨Z13, ?_⟩) ?_ ?_
         rotate_left
         ·intro w'
          go_simp
          with_reducible rfl
         rotate_left
         ·simp only [Act.put, List.setIfInBounds_toArray, List.set_cons_zero, List.set_cons_succ, i64_w, i32_w]
          rfl
         refine pure_ (i := 29) (N := some 2) (v := ?_) (a' := ?_) #[true, true, true, true, true, true, true, true, true, true, true, true, true, true, true, true, true, true, true, true, true, true, true, true, true, true, true, true, true, true, false] rfl rfl (any_of HT_.out Z6) (fun _ _ _ h => h) (Or.inl ⟨Z13, ?_⟩) ?_ ?_
         rotate_left
         ·intro w'
          go_simp
          with_reducible rfl
         rotate_left
         ·simp only [Act.put, List.setIfInBounds_toArray, List.set_cons_zero, List.set_cons_succ, i64_w, i32_w]
          rfl
         refine pure_ (i := 30) (N := some 3) (v := ?_) (a' := ?_) #[true, true, true, true, true, true, true, true, true, true, true, true, true, true, true, true, true, true, true, true, true, true, true, true, true, true, true, true, true, true, true] rfl rfl (any_of HT_.out Z6) (fun _ _ _ h => h) (Or.inl ⟨Z13, ?_⟩) ?_ ?_
         rotate_left
         ·intro w'
          go_simp
          with_reducible rfl
         rotate_left
         ·simp only [Act.put, List.setIfInBounds_toArray, List.set_cons_zero, List.set_cons_succ, i64_w, i32_w]
          rfl
         refine done_ (done_of HT_.out Z6) ?_
         try go_wp2_with (first | ((with_reducible refine Pre.gate_load 25 rfl ?_); (try (refine gate_guard Z13 ?_; dsimp only)); refine Pre.load_event rfl rfl rfl Z13 Z2 Try.underlying25 rfl Z6 ?_))
         go_ret2
         exact ⟨Z9, Z0⟩
        ·rw [if_neg lg] at H
         exact absurd H Z73
       ·rw [if_neg fe] at H
        exact absurd H Z73
      ·rw [if_neg hY] at H
       exact absurd H Z73
     ·rw [if_neg ej] at H
      exact absurd H Z73
    ·rw [if_neg gW] at H
     exact absurd H Z73
   ·rw [if_neg dB] at H
    exact absurd H Z73
 ·replace c3 := Bool.eq_false_iff.mpr c3
  subst c3
  have H1 : (some ((⟨#[]⟩ : ByteArray), false)) = some (r1, r2) := by rw [if_neg (show ¬ (false = true) by decide)] at H; exact H
  clear H
  have H := H1
  clear H1
  simp only [Option.some.injEq, Prod.mk.injEq] at H
  obtain ⟨rfl, rfl⟩ := H
  go_enter Try.func35, Try.ntmps35
  go_wp2_with (first | ((with_reducible refine Pre.gate_load 25 rfl ?_); (try (refine gate_guard Z13 ?_; dsimp only)); refine Pre.load_event rfl rfl rfl Z13 Z2 Try.underlying25 rfl Z6 ?_) | ((with_reducible refine gate_dst (N := 1) rfl ?_); refine box_event ?hg (N := 1) ?hd (cs := #[.int .i64 av, .int .i64 au, .int .i64 aw, .string ay, .int .i64 aD, .int .i64 az, .string aA, .int .i64 ax, .int .i64 aE, .string aC, .int .i64 ap, .string an, .int .i64 aj, .int .i64 am, .int .i64 ak, .int .i64 ah, .int .i64 ai, .int .i64 al, .int .i64 ao, .string ac, .string af, .slice aT ae.length aN, .int .i64 aq, .string ar, .slice aJ ag.length aK]) (t := 25) ?hr ?_; (case hd => rfl); (case hg => rfl); (case hr => first | (go_simp; done) | (go_simp; rfl)); intro aa hg wy hbox hb; have aG := Aside0.mk (below_step Z3 hb); have aH := Aside0.mk (hbox); have aI := Aside0.mk ((by rw [hg]; exact (below_size Z3) : w.heap.size ≤ aa)); have aZ := Aside0.mk ((by rw [hg]; exact (below_size Z3) : w.heap.size ≤ aa)); replace HB := aG; have ab := aH; have cl := aI; have bs := aZ; clear aG aH aI aZ; clear hb hbox hg; have jj := cells_25 ab.out) | ((with_reducible refine gate_callee (f := 37) rfl ?_); refine goesL_ (some 7) rfl rfl Try.func37 Z6 rfl #[.agg #[.int .i64 av, .int .i64 au, .int .i64 aw, .string ay, .int .i64 aD, .int .i64 az, .string aA, .int .i64 ax, .int .i64 aE, .string aC, .int .i64 ap, .string an, .int .i64 aj, .int .i64 am, .int .i64 ak, .int .i64 ah, .int .i64 ai, .int .i64 al, .int .i64 ao, .string ac, .string af, .slice aT ae.length aN, .int .i64 aq, .string ar, .slice aJ ag.length aK]] rfl Z5 ?_; (with_reducible refine (roadbookref15_Right.calls k av au aw ay aD az aA ax aE aC ap an aj am ak ah ai al ao ac af _ _ ae aq ar _ _ ag false _ ?side1 ?side2 ?side3 ?side4 A2.out).mono ?_); (case side1 => exact Z8); (case side2 => exact bl.out); (case side3 => exact Z7); (case side4 => exact bg.out); rintro e qe ⟨rfl, hb⟩; refine ⟨_, rfl, ?_⟩; have aG := Aside0.mk (blk_below (g := aa) Z1 hb); have aH := Aside0.mk (below_step Z0 hb); replace ab := aG; replace HB := aH; clear aG aH; (try clear hb); (try clear hb2); (try clear hk); (try clear hi)))
  go_ret2
  exact ⟨Z9, Z0⟩

end Go.Proofs.Ytccjakjjaemmkaa.PR
