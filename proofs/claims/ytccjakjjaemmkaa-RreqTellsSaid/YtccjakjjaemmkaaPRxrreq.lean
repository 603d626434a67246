-- Written by mp.py, a program of this work (wip/tools), out of the translation; Lean checks it.
import Derived.Test.YtccjakjjaemmkaaPRxZ
import Derived.Test.YtccjakjjaemmkaaPRxext
import Derived.Test.YtccjakjjaemmkaaPRxoctet
import Derived.Test.YtccjakjjaemmkaaPRxrreqRight
namespace Go.Proofs.Ytccjakjjaemmkaa.PR
open Go.RowKit Go.Proofs.YtccjakjjaemmkaaW.PrintWords Go.Proofs.YtccjakjjaemmkaaW.PrintLast Go.Proofs.YtccjakjjaemmkaaW.PrintMore
attribute [local go_sem] max2_int min2_int max_two min_two max_three min_three max_four min_four   -- for this text's walks alone
set_option linter.unusedVariables false
set_option linter.unusedSimpArgs false

/-! ### rreq_word: function 50 -/
def rreq_word.f (k : Nat) (a0 : Int) : Option (ByteArray) := (octet_Put.f k a0 4).bind fun aM => (some aM.1)
theorem rreq_word.mono : ∀ a0 k, LeO (rreq_word.f k a0) (rreq_word.f (k + 1) a0) := by
 intro a0 k
 unfold rreq_word.f
 repeat' first
   | (with_reducible exact octet_Put.mono _ _ _)
   | (with_reducible exact LeO.refl _)
   | (with_reducible exact LeO.none _)
   | (with_reducible refine LeO.ite ?_ ?_)
   | (with_reducible refine LeO.bind ?_ (fun _ => ?_))
   | exact octet_Put.mono _ _ _
   | exact LeO.none _
   | refine LeO.ite ?_ ?_
   | refine LeO.bind ?_ (fun _ => ?_)
set_option maxHeartbeats 8000000 in
set_option maxRecDepth 100000 in
theorem rreq_word.calls (k : Nat) (a0 : Int) (r : ByteArray) (w : World) (h : rreq_word.f k a0 = some r) :
  Calls Try.prog 50 #[.int .i64 a0] w fun e w' => e = .returned (.string r) ∧ Below w.heap.size w w' := by
 have HB := Aside0.mk (Below.refl w.heap.size w)
 have H : ((octet_Put.f k a0 4).bind fun aM => (some aM.1)) = some r := h
 clear h
 replace H := Option.bind_eq_some_iff.mp H
 obtain ⟨⟨ci, ba⟩, gN, H⟩ := H
 replace H : (some ci) = some r := H
 have A2 := Aside0.mk gN
 clear gN
 obtain rfl := Option.some.inj H
 go_enter Try.func50, Try.ntmps50
 go_wp2_with (first | ((with_reducible refine gate_callee (f := 67) rfl ?_); refine goesL_ (some 7) rfl rfl Try.func67 Z6 rfl #[.int .i64 a0, .int .i64 4] rfl Z5 ?_; (with_reducible refine (octet_Put.calls k a0 4 ci ba _ A2.out).mono ?_); rintro e w3 ⟨rfl, hb⟩; refine ⟨_, rfl, ?_⟩; have aG := Aside0.mk (below_step Z3 hb); replace HB := aG; clear aG; (try clear hb); (try clear hb2); (try clear hk); (try clear hi)))
 go_ret
 exact ⟨Z9, Z3⟩

/-! ### rreq_Put: function 18 -/
def rreq_Put.f (k : Nat) (av : Int) (au : Int) (aw : Int) (ay : ByteArray) (aD : Int) (az : Int) (aA : ByteArray) (ax : Int) (aE : Int) (aC : ByteArray) (ap : Int) (an : ByteArray) (aj : Int) (am : Int) (ak : Int) (ah : Int) (ai : Int) (al : Int) (ao : Int) (ac : ByteArray) (af : ByteArray) (ae : List (S46)) (aq : Int) (ar : ByteArray) (ag : List (S48)) : Option (ByteArray × Bool) := (rreq_Right.f k av au aw ay aD az aA ax aE aC ap an aj am ak ah ai al ao ac af ae aq ar ag).bind fun ba => (if ba = true then ((ext_Put.f k ag).bind fun bW => ((some (([1, (wrap64 (ah * 8)) % 256, 0, (ai) % 256] : List Int) : List Int)).bind fun bb => ((rreq_word.f k al).bind fun aQ => (if (strOfNums bb).size + aQ.size ≤ 9223372036854775807 then (if ((strOfNums bb) ++ aQ).size + ac.size ≤ 9223372036854775807 then ((rreq_word.f k aj).bind fun aV => (if (((strOfNums bb) ++ aQ) ++ ac).size + aV.size ≤ 9223372036854775807 then (if ((((strOfNums bb) ++ aQ) ++ ac) ++ aV).size + af.size ≤ 9223372036854775807 then ((rreq_word.f k am).bind fun bi => (if (((((strOfNums bb) ++ aQ) ++ ac) ++ aV) ++ af).size + bi.size ≤ 9223372036854775807 then (if ((((((strOfNums bb) ++ aQ) ++ ac) ++ aV) ++ af) ++ bi).size + bW.1.size ≤ 9223372036854775807 then (some (((((((strOfNums bb) ++ aQ) ++ ac) ++ aV) ++ af) ++ bi) ++ bW.1, true)) else (none)) else (none))) else (none)) else (none))) else (none)) else (none))))) else (some ((⟨#[]⟩ : ByteArray), false)))
theorem rreq_Put.mono : ∀ a0 a1 a2 a3 a4 a5 a6 a7 a8 a9 fJ fK fL fM fN fO fP fQ fR fS fT fU fV fW fX k, LeO (rreq_Put.f k a0 a1 a2 a3 a4 a5 a6 a7 a8 a9 fJ fK fL fM fN fO fP fQ fR fS fT fU fV fW fX) (rreq_Put.f (k + 1) a0 a1 a2 a3 a4 a5 a6 a7 a8 a9 fJ fK fL fM fN fO fP fQ fR fS fT fU fV fW fX) := by
 intro a0 a1 a2 a3 a4 a5 a6 a7 a8 a9 fJ fK fL fM fN fO fP fQ fR fS fT fU fV fW fX k
 unfold rreq_Put.f
 repeat' first
   | (with_reducible exact ext_Put.mono _ _)
   | (with_reducible exact rreq_Right.mono _ _ _ _ _ _ _ _ _ _ _ _ _ _ _ _ _ _ _ _ _ _ _ _ _ _)
   | (with_reducible exact rreq_word.mono _ _)
   | (with_reducible exact LeO.refl _)
   | (with_reducible exact LeO.none _)
   | (with_reducible refine LeO.ite ?_ ?_)
   | (with_reducible refine LeO.bind ?_ (fun _ => ?_))
   | exact ext_Put.mono _ _
   | exact rreq_Right.mono _ _ _ _ _ _ _ _ _ _ _ _ _ _ _ _ _ _ _ _ _ _ _ _ _ _
   | exact rreq_word.mono _ _
   | exact LeO.none _
   | refine LeO.ite ?_ ?_
   | refine LeO.bind ?_ (fun _ => ?_)
def rreq_Put.T5 : Bool × List (List Nat × List Nat) := (true, [([], []), ([], []), ([1], [1]), ([2], [2]), ([0, 3], [0, 3]), ([], []), ([5], [5]), ([4, 6], [4, 6]), ([], []), ([8], [8]), ([9, 3], [9]), ([7, 10], [7, 10]), ([], []), ([12], [12]), ([11, 13], [11, 13]), ([], []), ([15], [15]), ([16, 10], [16]), ([14, 17], [14, 17]), ([], []), ([18, 19], [18, 19]), ([20, 17, 0, 1, 2, 3, 4, 5, 6, 7, 8, 9, 10, 11, 12, 13, 14, 15, 16, 17, 18, 19, 20], [20]), ([21, 0, 1, 2, 3, 4, 5, 6, 7, 8, 9, 10, 11, 12, 13, 14, 15, 16, 17, 18, 19, 20, 21], [])])
def rreq_Put.B5 : List Nat := [0, 0, 2, 6, 15, 0, 32, 127, 0, 256, 782, 2047, 0, 4096, 16383, 0, 32768, 100110, 262143, 0, 1048575, 2097151, 4194303]
theorem rreq_Put.tab5 : rtab .any (opsOf Try.f18 5) = rreq_Put.T5 := by kernel_rfl
theorem rreq_Put.bits5 : waitsOk rreq_Put.T5.2 rreq_Put.B5 = true := by kernel_rfl

set_option maxHeartbeats 8000000 in
set_option maxRecDepth 100000 in
theorem rreq_Put.calls (k : Nat) (av : Int) (au : Int) (aw : Int) (ay : ByteArray) (aD : Int) (az : Int) (aA : ByteArray) (ax : Int) (aE : Int) (aC : ByteArray) (ap : Int) (an : ByteArray) (aj : Int) (am : Int) (ak : Int) (ah : Int) (ai : Int) (al : Int) (ao : Int) (ac : ByteArray) (af : ByteArray) (aT : Option Addr) (aN : Nat) (ae : List (S46)) (aq : Int) (ar : ByteArray) (aJ : Option Addr) (aK : Nat) (ag : List (S48)) (r1 : ByteArray) (r2 : Bool) (w : World) (bY : Kd.C k46 w aT ae.length ae) (bZ : ae.length ≤ aN) (ca : Kd.C k48 w aJ ag.length ag) (cb : ag.length ≤ aK) (h : rreq_Put.f k av au aw ay aD az aA ax aE aC ap an aj am ak ah ai al ao ac af ae aq ar ag = some (r1, r2)) :
  Calls Try.prog 18 #[.agg #[.int .i64 av, .int .i64 au, .int .i64 aw, .string ay, .int .i64 aD, .int .i64 az, .string aA, .int .i64 ax, .int .i64 aE, .string aC, .int .i64 ap, .string an, .int .i64 aj, .int .i64 am, .int .i64 ak, .int .i64 ah, .int .i64 ai, .int .i64 al, .int .i64 ao, .string ac, .string af, .slice aT ae.length aN, .int .i64 aq, .string ar, .slice aJ ag.length aK]] w fun e w' => e = .returned (.tuple #[.string r1, .bool r2]) ∧ Below w.heap.size w w' := by
 have gB := Try.underlying25
 have cT := Aside0.mk bY
 have bl := Aside0.mk bZ
 clear bY bZ
 have cP := Aside0.mk ca
 have bg := Aside0.mk cb
 clear ca cb
 have HB := Aside0.mk (Below.refl w.heap.size w)
 have H : ((rreq_Right.f k av au aw ay aD az aA ax aE aC ap an aj am ak ah ai al ao ac af ae aq ar ag).bind fun ba => (if ba = true then ((ext_Put.f k ag).bind fun bW => ((some (([1, (wrap64 (ah * 8)) % 256, 0, (ai) % 256] : List Int) : List Int)).bind fun bb => ((rreq_word.f k al).bind fun aQ => (if (strOfNums bb).size + aQ.size ≤ 9223372036854775807 then (if ((strOfNums bb) ++ aQ).size + ac.size ≤ 9223372036854775807 then ((rreq_word.f k aj).bind fun aV => (if (((strOfNums bb) ++ aQ) ++ ac).size + aV.size ≤ 9223372036854775807 then (if ((((strOfNums bb) ++ aQ) ++ ac) ++ aV).size + af.size ≤ 9223372036854775807 then ((rreq_word.f k am).bind fun bi => (if (((((strOfNums bb) ++ aQ) ++ ac) ++ aV) ++ af).size + bi.size ≤ 9223372036854775807 then (if ((((((strOfNums bb) ++ aQ) ++ ac) ++ aV) ++ af) ++ bi).size + bW.1.size ≤ 9223372036854775807 then (some (((((((strOfNums bb) ++ aQ) ++ ac) ++ aV) ++ af) ++ bi) ++ bW.1, true)) else (none)) else (none))) else (none)) else (none))) else (none)) else (none))))) else (some ((⟨#[]⟩ : ByteArray), false)))) = some (r1, r2) := h
 clear h
 replace H := Option.bind_eq_some_iff.mp H
 obtain ⟨ba, gN, H⟩ := H
 replace H : (if ba = true then ((ext_Put.f k ag).bind fun bW => ((some (([1, (wrap64 (ah * 8)) % 256, 0, (ai) % 256] : List Int) : List Int)).bind fun bb => ((rreq_word.f k al).bind fun aQ => (if (strOfNums bb).size + aQ.size ≤ 9223372036854775807 then (if ((strOfNums bb) ++ aQ).size + ac.size ≤ 9223372036854775807 then ((rreq_word.f k aj).bind fun aV => (if (((strOfNums bb) ++ aQ) ++ ac).size + aV.size ≤ 9223372036854775807 then (if ((((strOfNums bb) ++ aQ) ++ ac) ++ aV).size + af.size ≤ 9223372036854775807 then ((rreq_word.f k am).bind fun bi => (if (((((strOfNums bb) ++ aQ) ++ ac) ++ aV) ++ af).size + bi.size ≤ 9223372036854775807 then (if ((((((strOfNums bb) ++ aQ) ++ ac) ++ aV) ++ af) ++ bi).size + bW.1.size ≤ 9223372036854775807 then (some (((((((strOfNums bb) ++ aQ) ++ ac) ++ aV) ++ af) ++ bi) ++ bW.1, true)) else (none)) else (none))) else (none)) else (none))) else (none)) else (none))))) else (some ((⟨#[]⟩ : ByteArray), false))) = some (r1, r2) := H
 have A2 := Aside0.mk gN
 clear gN
 by_cases c3 : ba = true
 ·subst c3
  have H1 : ((ext_Put.f k ag).bind fun bW => ((some (([1, (wrap64 (ah * 8)) % 256, 0, (ai) % 256] : List Int) : List Int)).bind fun bb => ((rreq_word.f k al).bind fun aQ => (if (strOfNums bb).size + aQ.size ≤ 9223372036854775807 then (if ((strOfNums bb) ++ aQ).size + ac.size ≤ 9223372036854775807 then ((rreq_word.f k aj).bind fun aV => (if (((strOfNums bb) ++ aQ) ++ ac).size + aV.size ≤ 9223372036854775807 then (if ((((strOfNums bb) ++ aQ) ++ ac) ++ aV).size + af.size ≤ 9223372036854775807 then ((rreq_word.f k am).bind fun bi => (if (((((strOfNums bb) ++ aQ) ++ ac) ++ aV) ++ af).size + bi.size ≤ 9223372036854775807 then (if ((((((strOfNums bb) ++ aQ) ++ ac) ++ aV) ++ af) ++ bi).size + bW.1.size ≤ 9223372036854775807 then (some (((((((strOfNums bb) ++ aQ) ++ ac) ++ aV) ++ af) ++ bi) ++ bW.1, true)) else (none)) else (none))) else (none)) else (none))) else (none)) else (none))))) = some (r1, r2) := by rw [if_pos rfl] at H; exact H
  clear H
  have H := H1
  clear H1
  replace H := Option.bind_eq_some_iff.mp H
  obtain ⟨⟨bf, bc⟩, jA, H⟩ := H
  replace H : ((some (([1, (wrap64 (ah * 8)) % 256, 0, (ai) % 256] : List Int) : List Int)).bind fun bb => ((rreq_word.f k al).bind fun aQ => (if (strOfNums bb).size + aQ.size ≤ 9223372036854775807 then (if ((strOfNums bb) ++ aQ).size + ac.size ≤ 9223372036854775807 then ((rreq_word.f k aj).bind fun aV => (if (((strOfNums bb) ++ aQ) ++ ac).size + aV.size ≤ 9223372036854775807 then (if ((((strOfNums bb) ++ aQ) ++ ac) ++ aV).size + af.size ≤ 9223372036854775807 then ((rreq_word.f k am).bind fun bi => (if (((((strOfNums bb) ++ aQ) ++ ac) ++ aV) ++ af).size + bi.size ≤ 9223372036854775807 then (if ((((((strOfNums bb) ++ aQ) ++ ac) ++ aV) ++ af) ++ bi).size + bf.size ≤ 9223372036854775807 then (some (((((((strOfNums bb) ++ aQ) ++ ac) ++ aV) ++ af) ++ bi) ++ bf, true)) else (none)) else (none))) else (none)) else (none))) else (none)) else (none)))) = some (r1, r2) := H
  have A4 := Aside0.mk jA
  clear jA
  obtain ⟨bb, hy105⟩ : ∃ y_ : List Int, y_ = (([1, (wrap64 (ah * 8)) % 256, 0, (ai) % 256] : List Int)) := ⟨_, rfl⟩
  replace H : ((rreq_word.f k al).bind fun aQ => (if (strOfNums bb).size + aQ.size ≤ 9223372036854775807 then (if ((strOfNums bb) ++ aQ).size + ac.size ≤ 9223372036854775807 then ((rreq_word.f k aj).bind fun aV => (if (((strOfNums bb) ++ aQ) ++ ac).size + aV.size ≤ 9223372036854775807 then (if ((((strOfNums bb) ++ aQ) ++ ac) ++ aV).size + af.size ≤ 9223372036854775807 then ((rreq_word.f k am).bind fun bi => (if (((((strOfNums bb) ++ aQ) ++ ac) ++ aV) ++ af).size + bi.size ≤ 9223372036854775807 then (if ((((((strOfNums bb) ++ aQ) ++ ac) ++ aV) ++ af) ++ bi).size + bf.size ≤ 9223372036854775807 then (some (((((((strOfNums bb) ++ aQ) ++ ac) ++ aV) ++ af) ++ bi) ++ bf, true)) else (none)) else (none))) else (none)) else (none))) else (none)) else (none))) = some (r1, r2) := by first | (rw [hy105]; with_reducible exact H) | (have H2_ := (Option.bind_some _ _).symm.trans H; rw [hy105]; with_reducible exact H2_) | (have H2_ := (Option.bind_some _ _).symm.trans H; with_reducible exact H2_) | with_reducible exact H | (rw [hy105]; exact H) | exact H
  have Ny105 := Aside0.mk hy105
  clear hy105
  replace H := Option.bind_eq_some_iff.mp H
  obtain ⟨aQ, jp, H⟩ := H
  replace H : (if (strOfNums bb).size + aQ.size ≤ 9223372036854775807 then (if ((strOfNums bb) ++ aQ).size + ac.size ≤ 9223372036854775807 then ((rreq_word.f k aj).bind fun aV => (if (((strOfNums bb) ++ aQ) ++ ac).size + aV.size ≤ 9223372036854775807 then (if ((((strOfNums bb) ++ aQ) ++ ac) ++ aV).size + af.size ≤ 9223372036854775807 then ((rreq_word.f k am).bind fun bi => (if (((((strOfNums bb) ++ aQ) ++ ac) ++ aV) ++ af).size + bi.size ≤ 9223372036854775807 then (if ((((((strOfNums bb) ++ aQ) ++ ac) ++ aV) ++ af) ++ bi).size + bf.size ≤ 9223372036854775807 then (some (((((((strOfNums bb) ++ aQ) ++ ac) ++ aV) ++ af) ++ bi) ++ bf, true)) else (none)) else (none))) else (none)) else (none))) else (none)) else (none)) = some (r1, r2) := H
  have A5 := Aside0.mk jp
  clear jp
  by_cases c6 : (strOfNums bb).size + aQ.size ≤ 9223372036854775807
  ·rw [if_pos c6] at H
   have gZ := eq_true c6
   have ii : decide ((strOfNums bb).size + aQ.size ≤ 9223372036854775807) = true := decide_eq_true c6
   try have lM : (9223372036854775807 < (strOfNums bb).size + aQ.size) = False := eq_false (Nat.not_lt.2 c6)
   try (have lN := lM; simp only [ByteArray.size_append] at lN)
   by_cases c7 : ((strOfNums bb) ++ aQ).size + ac.size ≤ 9223372036854775807
   ·rw [if_pos c7] at H
    have ib := eq_true c7
    have lL : decide (((strOfNums bb) ++ aQ).size + ac.size ≤ 9223372036854775807) = true := decide_eq_true c7
    try have pn : (9223372036854775807 < ((strOfNums bb) ++ aQ).size + ac.size) = False := eq_false (Nat.not_lt.2 c7)
    try (have po := pn; simp only [ByteArray.size_append] at po)
    replace H := Option.bind_eq_some_iff.mp H
    obtain ⟨aV, kn, H⟩ := H
    replace H : (if (((strOfNums bb) ++ aQ) ++ ac).size + aV.size ≤ 9223372036854775807 then (if ((((strOfNums bb) ++ aQ) ++ ac) ++ aV).size + af.size ≤ 9223372036854775807 then ((rreq_word.f k am).bind fun bi => (if (((((strOfNums bb) ++ aQ) ++ ac) ++ aV) ++ af).size + bi.size ≤ 9223372036854775807 then (if ((((((strOfNums bb) ++ aQ) ++ ac) ++ aV) ++ af) ++ bi).size + bf.size ≤ 9223372036854775807 then (some (((((((strOfNums bb) ++ aQ) ++ ac) ++ aV) ++ af) ++ bi) ++ bf, true)) else (none)) else (none))) else (none)) else (none)) = some (r1, r2) := H
    have A8 := Aside0.mk kn
    clear kn
    by_cases c9 : (((strOfNums bb) ++ aQ) ++ ac).size + aV.size ≤ 9223372036854775807
    ·rw [if_pos c9] at H
     have ju := eq_true c9
     have lJ : decide ((((strOfNums bb) ++ aQ) ++ ac).size + aV.size ≤ 9223372036854775807) = true := decide_eq_true c9
     try have vJ : (9223372036854775807 < (((strOfNums bb) ++ aQ) ++ ac).size + aV.size) = False := eq_false (Nat.not_lt.2 c9)
     try (have vK := vJ; simp only [ByteArray.size_append] at vK)
     by_cases cX : ((((strOfNums bb) ++ aQ) ++ ac) ++ aV).size + af.size ≤ 9223372036854775807
     ·rw [if_pos cX] at H
      have ff := eq_true cX
      have gG : decide (((((strOfNums bb) ++ aQ) ++ ac) ++ aV).size + af.size ≤ 9223372036854775807) = true := decide_eq_true cX
      try have jY : (9223372036854775807 < ((((strOfNums bb) ++ aQ) ++ ac) ++ aV).size + af.size) = False := eq_false (Nat.not_lt.2 cX)
      try (have lH := jY; simp only [ByteArray.size_append] at lH)
      replace H := Option.bind_eq_some_iff.mp H
      obtain ⟨bi, kR, H⟩ := H
      replace H : (if (((((strOfNums bb) ++ aQ) ++ ac) ++ aV) ++ af).size + bi.size ≤ 9223372036854775807 then (if ((((((strOfNums bb) ++ aQ) ++ ac) ++ aV) ++ af) ++ bi).size + bf.size ≤ 9223372036854775807 then (some (((((((strOfNums bb) ++ aQ) ++ ac) ++ aV) ++ af) ++ bi) ++ bf, true)) else (none)) else (none)) = some (r1, r2) := H
      have pk := Aside0.mk kR
      clear kR
      by_cases hf : (((((strOfNums bb) ++ aQ) ++ ac) ++ aV) ++ af).size + bi.size ≤ 9223372036854775807
      ·rw [if_pos hf] at H
       have jZ := eq_true hf
       have qK : decide ((((((strOfNums bb) ++ aQ) ++ ac) ++ aV) ++ af).size + bi.size ≤ 9223372036854775807) = true := decide_eq_true hf
       try have uw : (9223372036854775807 < (((((strOfNums bb) ++ aQ) ++ ac) ++ aV) ++ af).size + bi.size) = False := eq_false (Nat.not_lt.2 hf)
       try (have ux := uw; simp only [ByteArray.size_append] at ux)
       by_cases dB : ((((((strOfNums bb) ++ aQ) ++ ac) ++ aV) ++ af) ++ bi).size + bf.size ≤ 9223372036854775807
       ·rw [if_pos dB] at H
        have gF := eq_true dB
        have ie : decide (((((((strOfNums bb) ++ aQ) ++ ac) ++ aV) ++ af) ++ bi).size + bf.size ≤ 9223372036854775807) = true := decide_eq_true dB
        try have mt : (9223372036854775807 < ((((((strOfNums bb) ++ aQ) ++ ac) ++ aV) ++ af) ++ bi).size + bf.size) = False := eq_false (Nat.not_lt.2 dB)
        try (have mu := mt; simp only [ByteArray.size_append] at mu)
        simp only [Option.some.injEq, Prod.mk.injEq] at H
        obtain ⟨rfl, rfl⟩ := H
        go_enter Try.func18, Try.ntmps18
        try go_wp2_with (first | ((with_reducible refine Pre.gate_load 25 rfl ?_); (try (refine gate_guard Z13 ?_; dsimp only)); refine Pre.load_event rfl rfl rfl Z13 Z2 Try.underlying25 rfl Z6 ?_) | ((with_reducible refine gate_dst (N := 1) rfl ?_); refine box_event ?hg (N := 1) ?hd (cs := #[.int .i64 av, .int .i64 au, .int .i64 aw, .string ay, .int .i64 aD, .int .i64 az, .string aA, .int .i64 ax, .int .i64 aE, .string aC, .int .i64 ap, .string an, .int .i64 aj, .int .i64 am, .int .i64 ak, .int .i64 ah, .int .i64 ai, .int .i64 al, .int .i64 ao, .string ac, .string af, .slice aT ae.length aN, .int .i64 aq, .string ar, .slice aJ ag.length aK]) (t := 25) ?hr ?_; (case hd => rfl); (case hg => rfl); (case hr => first | (go_simp; done) | (go_simp; rfl)); intro aa hg mB hbox hb; have aG := Aside0.mk (below_step Z3 hb); have aH := Aside0.mk (hbox); have aI := Aside0.mk ((by rw [hg]; exact (below_size Z3) : w.heap.size ≤ aa)); have aZ := Aside0.mk ((by rw [hg]; exact (below_size Z3) : w.heap.size ≤ aa)); replace HB := aG; have ab := aH; have cl := aI; have bs := aZ; clear aG aH aI aZ; clear hb hbox hg; have kC := cells_25 ab.out) | ((with_reducible refine gate_callee (f := 20) rfl ?_); refine goesL_ (some 8) rfl rfl Try.func20 Z6 rfl #[.agg #[.int .i64 av, .int .i64 au, .int .i64 aw, .string ay, .int .i64 aD, .int .i64 az, .string aA, .int .i64 ax, .int .i64 aE, .string aC, .int .i64 ap, .string an, .int .i64 aj, .int .i64 am, .int .i64 ak, .int .i64 ah, .int .i64 ai, .int .i64 al, .int .i64 ao, .string ac, .string af, .slice aT ae.length aN, .int .i64 aq, .string ar, .slice aJ ag.length aK]] rfl Z5 ?_; (with_reducible refine (rreq_Right.calls k av au aw ay aD az aA ax aE aC ap an aj am ak ah ai al ao ac af _ _ ae aq ar _ _ ag true _ ?side1 ?side2 ?side3 ?side4 A2.out).mono ?_); (case side1 => exact Z8); (case side2 => exact bl.out); (case side3 => exact Z7); (case side4 => exact bg.out); rintro e lR ⟨rfl, hb⟩; refine ⟨_, rfl, ?_⟩; have aG := Aside0.mk (blk_below (g := aa) Z1 hb); have aH := Aside0.mk (below_step Z0 hb); replace ab := aG; replace HB := aH; clear aG aH; (try clear hb); (try clear hb2); (try clear hk); (try clear hi); have lG := cells_25 ab.out) | ((with_reducible refine gate_callee (f := 49) rfl ?_); refine goesL_ (some 13) rfl rfl Try.func49 Z6 rfl #[.slice aJ ag.length aK] rfl Z5 ?_; (with_reducible refine (ext_Put.calls k _ _ ag bf bc _ ?side1 ?side2 A4.out).mono ?_); (case side1 => exact Z7); (case side2 => exact bg.out); rintro e kh ⟨rfl, hb⟩; refine ⟨_, rfl, ?_⟩; have aG := Aside0.mk (blk_below (g := aa) Z1 hb); have aH := Aside0.mk (below_step Z0 hb); replace ab := aG; replace HB := aH; clear aG aH; (try clear hb); (try clear hb2); (try clear hk); (try clear hi); have jh := cells_25 ab.out) | ((with_reducible refine gate_dst (N := 23) rfl ?_); refine Kd.R_lit (Kd.int .u8) _ 5 ?hg (N := 23) ?hd (xs := ([1, (wrap64 (ah * 8)) % 256, 0, (ai) % 256] : List Int)) (inner := [.int .u8 1, .int .u8 ((wrap64 (ah * 8)) % 256), .int .u8 0, .int .u8 ((ai) % 256)]) (ok := fun _ => True) (okp := fun _ => True) ?hr ?hp (fun _ hk => hk) trivial (Below.refl _ _) (Nat.le_refl _) Z73 ?_; (case hd => rfl); (case hg => rfl); (case hr => first | (go_simp; done) | (go_simp; rfl)); (case hp => exact (Reps.one (show Kd.M (Kd.int .u8) _ _ _ 1 [.int .u8 1] from rfl) (Reps.one (show Kd.M (Kd.int .u8) _ _ _ ((wrap64 (ah * 8)) % 256) [.int .u8 ((wrap64 (ah * 8)) % 256)] from rfl) (Reps.one (show Kd.M (Kd.int .u8) _ _ _ 0 [.int .u8 0] from rfl) (Reps.one (show Kd.M (Kd.int .u8) _ _ _ ((ai) % 256) [.int .u8 ((ai) % 256)] from rfl) (Reps.none _ _)))))); intro dJ kG ho21 hb hg_ hnew_; clear hg_ hnew_; (first | rw [← Ny105.out] at ho21 | (simp only [Int.reduceToNat] at ho21; rw [← Ny105.out] at ho21)); have aG := Aside0.mk (Kd.R_lower ho21 (below_size Z0)); have aH := Aside0.mk (blk_below (g := aa) Z1 hb); have aI := Aside0.mk (below_step Z0 hb); have cC := aG; replace ab := aH; replace HB := aI; clear aG aH aI; clear hb ho21; have hcv22 := own_string (P := Try.prog) Try.underlying51 Try.underlying5 Try.underlying9 (Kd.own_of_R cC.out)))
        have aG := Aside0.mk (Kd.R_drew cC.out)
        have aH := Aside0.mk (blk_drew ab.out)
        have aI := Aside0.mk (below_drew1 HB.out)
        clear cC
        clear ab
        clear HB
        have cC := aG
        have ab := aH
        have HB := aI
        clear aG aH aI
        refine start_ (n := 23) (S := fun w' => w'.cell? ⟨aa, 0, none⟩ = some (.int .i64 av) ∧ w'.cell? ⟨aa, 1, none⟩ = some (.int .i64 au) ∧ w'.cell? ⟨aa, 2, none⟩ = some (.int .i64 aw) ∧ w'.cell? ⟨aa, 3, none⟩ = some (.string ay) ∧ w'.cell? ⟨aa, 4, none⟩ = some (.int .i64 aD) ∧ w'.cell? ⟨aa, 5, none⟩ = some (.int .i64 az) ∧ w'.cell? ⟨aa, 6, none⟩ = some (.string aA) ∧ w'.cell? ⟨aa, 7, none⟩ = some (.int .i64 ax) ∧ w'.cell? ⟨aa, 8, none⟩ = some (.int .i64 aE) ∧ w'.cell? ⟨aa, 9, none⟩ = some (.string aC) ∧ w'.cell? ⟨aa, 10, none⟩ = some (.int .i64 ap) ∧ w'.cell? ⟨aa, 11, none⟩ = some (.string an) ∧ w'.cell? ⟨aa, 12, none⟩ = some (.int .i64 aj) ∧ w'.cell? ⟨aa, 13, none⟩ = some (.int .i64 am) ∧ w'.cell? ⟨aa, 14, none⟩ = some (.int .i64 ak) ∧ w'.cell? ⟨aa, 15, none⟩ = some (.int .i64 ah) ∧ w'.cell? ⟨aa, 16, none⟩ = some (.int .i64 ai) ∧ w'.cell? ⟨aa, 17, none⟩ = some (.int .i64 al) ∧ w'.cell? ⟨aa, 18, none⟩ = some (.int .i64 ao) ∧ w'.cell? ⟨aa, 19, none⟩ = some (.string ac) ∧ w'.cell? ⟨aa, 20, none⟩ = some (.string af) ∧ w'.cell? ⟨aa, 21, none⟩ = some (.slice aT ae.length aN) ∧ w'.cell? ⟨aa, 22, none⟩ = some (.int .i64 aq) ∧ w'.cell? ⟨aa, 23, none⟩ = some (.string ar) ∧ w'.cell? ⟨aa, 24, none⟩ = some (.slice aJ ag.length aK)) (ds := []) #[false, false, false, false, false, false, false, false, false, false, false, false, false, false, false, false, false, false, false, false, false, false, false] Z6 rfl rfl ⟨(blk_cell ab.out 0).trans rfl, (blk_cell ab.out 1).trans rfl, (blk_cell ab.out 2).trans rfl, (blk_cell ab.out 3).trans rfl, (blk_cell ab.out 4).trans rfl, (blk_cell ab.out 5).trans rfl, (blk_cell ab.out 6).trans rfl, (blk_cell ab.out 7).trans rfl, (blk_cell ab.out 8).trans rfl, (blk_cell ab.out 9).trans rfl, (blk_cell ab.out 10).trans rfl, (blk_cell ab.out 11).trans rfl, (blk_cell ab.out 12).trans rfl, (blk_cell ab.out 13).trans rfl, (blk_cell ab.out 14).trans rfl, (blk_cell ab.out 15).trans rfl, (blk_cell ab.out 16).trans rfl, (blk_cell ab.out 17).trans rfl, (blk_cell ab.out 18).trans rfl, (blk_cell ab.out 19).trans rfl, (blk_cell ab.out 20).trans rfl, (blk_cell ab.out 21).trans rfl, (blk_cell ab.out 22).trans rfl, (blk_cell ab.out 23).trans rfl, (blk_cell ab.out 24).trans rfl⟩ (fun hHeld => ?_); refine with_tabW rreq_Put.tab5 rreq_Put.bits5 (fun HT_ HW_ => ?_)
        generalize kG.drew = gn at cC ab HB hHeld ⊢
        refine pure_ (i := 0) (N := some 25) (v := ?_) (a' := ?_) #[true, false, false, false, false, false, false, false, false, false, false, false, false, false, false, false, false, false, false, false, false, false, false] rfl rfl (any_of HT_.out Z6) (fun _ _ _ h => h) (Or.inl ⟨Z13, ?_⟩) ?_ ?_
        rotate_left
        ·intro w'
         go_simp
         with_reducible rfl
        rotate_left
        ·simp only [Act.put, List.setIfInBounds_toArray, List.set_cons_zero, List.set_cons_succ, i64_w, i32_w]
         rfl
        refine pure_ (i := 1) (N := some 26) (v := ?_) (a' := ?_) #[true, true, false, false, false, false, false, false, false, false, false, false, false, false, false, false, false, false, false, false, false, false, false] rfl rfl (any_of HT_.out Z6) (fun _ _ _ h => h) (Or.inl ⟨Z13, ?_⟩) ?_ ?_
        rotate_left
        ·intro w'
         go_simp
         with_reducible rfl
        rotate_left
        ·simp only [Act.put, List.setIfInBounds_toArray, List.set_cons_zero, List.set_cons_succ, i64_w, i32_w]
         rfl
        refine pure_ (i := 5) (N := some 30) (v := ?_) (a' := ?_) #[true, true, false, false, false, true, false, false, false, false, false, false, false, false, false, false, false, false, false, false, false, false, false] rfl rfl (any_of HT_.out Z6) (fun _ _ _ h => h) (Or.inl ⟨Z13, ?_⟩) ?_ ?_
        rotate_left
        ·intro w'
         go_simp
         with_reducible rfl
        rotate_left
        ·simp only [Act.put, List.setIfInBounds_toArray, List.set_cons_zero, List.set_cons_succ, i64_w, i32_w]
         rfl
        refine pure_ (i := 8) (N := some 33) (v := ?_) (a' := ?_) #[true, true, false, false, false, true, false, false, true, false, false, false, false, false, false, false, false, false, false, false, false, false, false] rfl rfl (any_of HT_.out Z6) (fun _ _ _ h => h) (Or.inl ⟨Z13, ?_⟩) ?_ ?_
        rotate_left
        ·intro w'
         go_simp
         with_reducible rfl
        rotate_left
        ·simp only [Act.put, List.setIfInBounds_toArray, List.set_cons_zero, List.set_cons_succ, i64_w, i32_w]
         rfl
        refine pure_ (i := 12) (N := some 37) (v := ?_) (a' := ?_) #[true, true, false, false, false, true, false, false, true, false, false, false, true, false, false, false, false, false, false, false, false, false, false] rfl rfl (any_of HT_.out Z6) (fun _ _ _ h => h) (Or.inl ⟨Z13, ?_⟩) ?_ ?_
        rotate_left
        ·intro w'
         go_simp
         with_reducible rfl
        rotate_left
        ·simp only [Act.put, List.setIfInBounds_toArray, List.set_cons_zero, List.set_cons_succ, i64_w, i32_w]
         rfl
        refine pure_ (i := 15) (N := some 40) (v := ?_) (a' := ?_) #[true, true, false, false, false, true, false, false, true, false, false, false, true, false, false, true, false, false, false, false, false, false, false] rfl rfl (any_of HT_.out Z6) (fun _ _ _ h => h) (Or.inl ⟨Z13, ?_⟩) ?_ ?_
        rotate_left
        ·intro w'
         go_simp
         with_reducible rfl
        rotate_left
        ·simp only [Act.put, List.setIfInBounds_toArray, List.set_cons_zero, List.set_cons_succ, i64_w, i32_w]
         rfl
        refine pure_ (i := 19) (N := some 44) (v := ?_) (a' := ?_) #[true, true, false, false, false, true, false, false, true, false, false, false, true, false, false, true, false, false, false, true, false, false, false] rfl rfl (any_of HT_.out Z6) (fun _ _ _ h => h) (Or.inl ⟨Z13, ?_⟩) ?_ ?_
        rotate_left
        ·intro w'
         go_simp
         with_reducible rfl
        rotate_left
        ·simp only [Act.put, List.setIfInBounds_toArray, List.set_cons_zero, List.set_cons_succ, i64_w, i32_w]
         rfl
        refine take_ (i := 2) (N := some 27) (v := ?_) (a' := ?_) #[true, true, true, false, false, true, false, false, true, false, false, false, true, false, false, true, false, false, false, true, false, false, false] rfl rfl (take_ofW HT_.out HW_.out Z6) (fun _ _ _ h => h) (Or.inl ⟨Z13, ?_⟩) hHeld ?_ ?_
        rotate_left
        ·rintro w' ⟨s0, s1, s2, s3, s4, s5, s6, s7, s8, s9, s10, s11, s12, s13, s14, s15, s16, s17, s18, s19, s20, s21, s22, s23, s24⟩
         go_simp
         with_reducible rfl
        rotate_left
        ·simp only [Act.put, List.setIfInBounds_toArray, List.set_cons_zero, List.set_cons_succ, i64_w, i32_w]
         rfl
        refine take_ (i := 6) (N := some 31) (v := ?_) (a' := ?_) #[true, true, true, false, false, true, true, false, true, false, false, false, true, false, false, true, false, false, false, true, false, false, false] rfl rfl (take_ofW HT_.out HW_.out Z6) (fun _ _ _ h => h) (Or.inl ⟨Z13, ?_⟩) hHeld ?_ ?_
        rotate_left
        ·rintro w' ⟨s0, s1, s2, s3, s4, s5, s6, s7, s8, s9, s10, s11, s12, s13, s14, s15, s16, s17, s18, s19, s20, s21, s22, s23, s24⟩
         go_simp
         with_reducible rfl
        rotate_left
        ·simp only [Act.put, List.setIfInBounds_toArray, List.set_cons_zero, List.set_cons_succ, i64_w, i32_w]
         rfl
        refine take_ (i := 9) (N := some 34) (v := ?_) (a' := ?_) #[true, true, true, false, false, true, true, false, true, true, false, false, true, false, false, true, false, false, false, true, false, false, false] rfl rfl (take_ofW HT_.out HW_.out Z6) (fun _ _ _ h => h) (Or.inl ⟨Z13, ?_⟩) hHeld ?_ ?_
        rotate_left
        ·rintro w' ⟨s0, s1, s2, s3, s4, s5, s6, s7, s8, s9, s10, s11, s12, s13, s14, s15, s16, s17, s18, s19, s20, s21, s22, s23, s24⟩
         go_simp
         with_reducible rfl
        rotate_left
        ·simp only [Act.put, List.setIfInBounds_toArray, List.set_cons_zero, List.set_cons_succ, i64_w, i32_w]
         rfl
        refine take_ (i := 13) (N := some 38) (v := ?_) (a' := ?_) #[true, true, true, false, false, true, true, false, true, true, false, false, true, true, false, true, false, false, false, true, false, false, false] rfl rfl (take_ofW HT_.out HW_.out Z6) (fun _ _ _ h => h) (Or.inl ⟨Z13, ?_⟩) hHeld ?_ ?_
        rotate_left
        ·rintro w' ⟨s0, s1, s2, s3, s4, s5, s6, s7, s8, s9, s10, s11, s12, s13, s14, s15, s16, s17, s18, s19, s20, s21, s22, s23, s24⟩
         go_simp
         with_reducible rfl
        rotate_left
        ·simp only [Act.put, List.setIfInBounds_toArray, List.set_cons_zero, List.set_cons_succ, i64_w, i32_w]
         rfl
        refine take_ (i := 16) (N := some 41) (v := ?_) (a' := ?_) #[true, true, true, false, false, true, true, false, true, true, false, false, true, true, false, true, true, false, false, true, false, false, false] rfl rfl (take_ofW HT_.out HW_.out Z6) (fun _ _ _ h => h) (Or.inl ⟨Z13, ?_⟩) hHeld ?_ ?_
        rotate_left
        ·rintro w' ⟨s0, s1, s2, s3, s4, s5, s6, s7, s8, s9, s10, s11, s12, s13, s14, s15, s16, s17, s18, s19, s20, s21, s22, s23, s24⟩
         go_simp
         with_reducible rfl
        rotate_left
        ·simp only [Act.put, List.setIfInBounds_toArray, List.set_cons_zero, List.set_cons_succ, i64_w, i32_w]
         rfl
        refine one_ (i := 3) (N := some 28) #[true, true, true, true, false, true, true, false, true, true, false, false, true, true, false, true, true, false, false, true, false, false, false] rfl rfl (one_of HT_.out Z6) Z32 (fun K hK => ?_)
        refine goes_ Try.func50 Z6 rfl #[.int .i64 al] Z13 rfl rfl Z5 ?_
        with_reducible refine (rreq_word.calls k al aQ _ A5.out).mono ?_
        rintro e ed ⟨rfl, hb⟩
        refine ⟨_, rfl, ?_⟩
        have aG := Aside0.mk (Kd.R_below Z24 hb)
        have aH := Aside0.mk (blk_below (g := aa) Z1 hb)
        have aI := Aside0.mk (below_step Z0 hb)
        clear cC
        clear ab
        clear HB
        have cC := aG
        have ab := aH
        have HB := aI
        clear aG aH aI
        (try clear hb)
        (try clear hb2)
        (try clear hk)
        (try clear hi)
        refine hK.out _ _ ⟨(blk_cell ab.out 0).trans rfl, (blk_cell ab.out 1).trans rfl, (blk_cell ab.out 2).trans rfl, (blk_cell ab.out 3).trans rfl, (blk_cell ab.out 4).trans rfl, (blk_cell ab.out 5).trans rfl, (blk_cell ab.out 6).trans rfl, (blk_cell ab.out 7).trans rfl, (blk_cell ab.out 8).trans rfl, (blk_cell ab.out 9).trans rfl, (blk_cell ab.out 10).trans rfl, (blk_cell ab.out 11).trans rfl, (blk_cell ab.out 12).trans rfl, (blk_cell ab.out 13).trans rfl, (blk_cell ab.out 14).trans rfl, (blk_cell ab.out 15).trans rfl, (blk_cell ab.out 16).trans rfl, (blk_cell ab.out 17).trans rfl, (blk_cell ab.out 18).trans rfl, (blk_cell ab.out 19).trans rfl, (blk_cell ab.out 20).trans rfl, (blk_cell ab.out 21).trans rfl, (blk_cell ab.out 22).trans rfl, (blk_cell ab.out 23).trans rfl, (blk_cell ab.out 24).trans rfl⟩ (fun hHeld => ?_)
        clear hK K
        refine norm_ (a' := ?_) ?_ ?_
        rotate_left
        ·show Act.put _ (some 28) _ = _
         simp only [Act.put, List.setIfInBounds_toArray, List.set_cons_zero, List.set_cons_succ, i64_w, i32_w]
         rfl
        refine pure_ (i := 4) (N := some 29) (v := ?_) (a' := ?_) #[true, true, true, true, true, true, true, false, true, true, false, false, true, true, false, true, true, false, false, true, false, false, false] rfl rfl (any_of HT_.out Z6) (fun _ _ _ h => h) (Or.inl ⟨Z13, ?_⟩) ?_ ?_
        rotate_left
        ·intro w'
         go_simp
         with_reducible rfl
        rotate_left
        ·simp only [Act.put, List.setIfInBounds_toArray, List.set_cons_zero, List.set_cons_succ, i64_w, i32_w]
         rfl
        refine pure_ (i := 7) (N := some 32) (v := ?_) (a' := ?_) #[true, true, true, true, true, true, true, true, true, true, false, false, true, true, false, true, true, false, false, true, false, false, false] rfl rfl (any_of HT_.out Z6) (fun _ _ _ h => h) (Or.inl ⟨Z13, ?_⟩) ?_ ?_
        rotate_left
        ·intro w'
         go_simp
         with_reducible rfl
        rotate_left
        ·simp only [Act.put, List.setIfInBounds_toArray, List.set_cons_zero, List.set_cons_succ, i64_w, i32_w]
         rfl
        refine one_ (i := 10) (N := some 35) #[true, true, true, true, true, true, true, true, true, true, true, false, true, true, false, true, true, false, false, true, false, false, false] rfl rfl (one_of HT_.out Z6) Z32 (fun K hK => ?_)
        refine goes_ Try.func50 Z6 rfl #[.int .i64 aj] Z13 rfl rfl Z5 ?_
        with_reducible refine (rreq_word.calls k aj aV _ A8.out).mono ?_
        rintro e gO ⟨rfl, hb⟩
        refine ⟨_, rfl, ?_⟩
        have aG := Aside0.mk (Kd.R_below Z24 hb)
        have aH := Aside0.mk (blk_below (g := aa) Z1 hb)
        have aI := Aside0.mk (below_step Z0 hb)
        clear cC
        clear ab
        clear HB
        have cC := aG
        have ab := aH
        have HB := aI
        clear aG aH aI
        (try clear hb)
        (try clear hb2)
        (try clear hk)
        (try clear hi)
        refine hK.out _ _ ⟨(blk_cell ab.out 0).trans rfl, (blk_cell ab.out 1).trans rfl, (blk_cell ab.out 2).trans rfl, (blk_cell ab.out 3).trans rfl, (blk_cell ab.out 4).trans rfl, (blk_cell ab.out 5).trans rfl, (blk_cell ab.out 6).trans rfl, (blk_cell ab.out 7).trans rfl, (blk_cell ab.out 8).trans rfl, (blk_cell ab.out 9).trans rfl, (blk_cell ab.out 10).trans rfl, (blk_cell ab.out 11).trans rfl, (blk_cell ab.out 12).trans rfl, (blk_cell ab.out 13).trans rfl, (blk_cell ab.out 14).trans rfl, (blk_cell ab.out 15).trans rfl, (blk_cell ab.out 16).trans rfl, (blk_cell ab.out 17).trans rfl, (blk_cell ab.out 18).trans rfl, (blk_cell ab.out 19).trans rfl, (blk_cell ab.out 20).trans rfl, (blk_cell ab.out 21).trans rfl, (blk_cell ab.out 22).trans rfl, (blk_cell ab.out 23).trans rfl, (blk_cell ab.out 24).trans rfl⟩ (fun hHeld => ?_)
        clear hK K
        refine norm_ (a' := ?_) ?_ ?_
        rotate_left
        ·show Act.put _ (some 35) _ = _
         simp only [Act.put, List.setIfInBounds_toArray, List.set_cons_zero, List.set_cons_succ, i64_w, i32_w]
         rfl
        refine pure_ (i := 11) (N := some 36) (v := ?_) (a' := ?_) #[true, true, true, true, true, true, true, true, true, true, true, true, true, true, false, true, true, false, false, true, false, false, false] rfl rfl (any_of HT_.out Z6) (fun _ _ _ h => h) (Or.inl ⟨Z13, ?_⟩) ?_ ?_
        rotate_left
        ·intro w'
         go_simp
         with_reducible rfl
        rotate_left
        ·simp only [Act.put, List.setIfInBounds_toArray, List.set_cons_zero, List.set_cons_succ, i64_w, i32_w]
         rfl
        refine pure_ (i := 14) (N := some 39) (v := ?_) (a' := ?_) #[true, true, true, true, true, true, true, true, true, true, true, true, true, true, true, true, true, false, false, true, false, false, false] rfl rfl (any_of HT_.out Z6) (fun _ _ _ h => h) (Or.inl ⟨Z13, ?_⟩) ?_ ?_
        rotate_left
        ·intro w'
         go_simp
         with_reducible rfl
        rotate_left
        ·simp only [Act.put, List.setIfInBounds_toArray, List.set_cons_zero, List.set_cons_succ, i64_w, i32_w]
         rfl
        refine one_ (i := 17) (N := some 42) #[true, true, true, true, true, true, true, true, true, true, true, true, true, true, true, true, true, true, false, true, false, false, false] rfl rfl (one_of HT_.out Z6) Z32 (fun K hK => ?_)
        refine goes_ Try.func50 Z6 rfl #[.int .i64 am] Z13 rfl rfl Z5 ?_
        with_reducible refine (rreq_word.calls k am bi _ pk.out).mono ?_
        rintro e gD ⟨rfl, hb⟩
        refine ⟨_, rfl, ?_⟩
        have aG := Aside0.mk (Kd.R_below Z24 hb)
        have aH := Aside0.mk (blk_below (g := aa) Z1 hb)
        have aI := Aside0.mk (below_step Z0 hb)
        clear cC
        clear ab
        clear HB
        have cC := aG
        have ab := aH
        have HB := aI
        clear aG aH aI
        (try clear hb)
        (try clear hb2)
        (try clear hk)
        (try clear hi)
        refine hK.out _ _ ⟨(blk_cell ab.out 0).trans rfl, (blk_cell ab.out 1).trans rfl, (blk_cell ab.out 2).trans rfl, (blk_cell ab.out 3).trans rfl, (blk_cell ab.out 4).trans rfl, (blk_cell ab.out 5).trans rfl, (blk_cell ab.out 6).trans rfl, (blk_cell ab.out 7).trans rfl, (blk_cell ab.out 8).trans rfl, (blk_cell ab.out 9).trans rfl, (blk_cell ab.out 10).trans rfl, (blk_cell ab.out 11).trans rfl, (blk_cell ab.out 12).trans rfl, (blk_cell ab.out 13).trans rfl, (blk_cell ab.out 14).trans rfl, (blk_cell ab.out 15).trans rfl, (blk_cell ab.out 16).trans rfl, (blk_cell ab.out 17).trans rfl, (blk_cell ab.out 18).trans rfl, (blk_cell ab.out 19).trans rfl, (blk_cell ab.out 20).trans rfl, (blk_cell ab.out 21).trans rfl, (blk_cell ab.out 22).trans rfl, (blk_cell ab.out 23).trans rfl, (blk_cell ab.out 24).trans rfl⟩ (fun hHeld => ?_)
        clear hK K
        refine norm_ (a' := ?_) ?_ ?_
        rotate_left
        ·show Act.put _ (some 42) _ = _
         simp only [Act.put, List.setIfInBounds_toArray, List.set_cons_zero, List.set_cons_succ, i64_w, i32_w]
         rfl
        refine pure_ (i := 18) (N := some 43) (v := ?_) (a' := ?_) #[true, true, true, true, true, true, true, true, true, true, true, true, true, true, true, true, true, true, true, true, false, false, false] rfl rfl (any_of HT_.out Z6) (fun _ _ _ h => h) (Or.inl ⟨Z13, ?_⟩) ?_ ?_
        rotate_left
        ·intro w'
         go_simp
         with_reducible rfl
        rotate_left
        ·simp only [Act.put, List.setIfInBounds_toArray, List.set_cons_zero, List.set_cons_succ, i64_w, i32_w]
         rfl
        refine pure_ (i := 20) (N := some 45) (v := ?_) (a' := ?_) #[true, true, true, true, true, true, true, true, true, true, true, true, true, true, true, true, true, true, true, true, true, false, false] rfl rfl (any_of HT_.out Z6) (fun _ _ _ h => h) (Or.inl ⟨Z13, ?_⟩) ?_ ?_
        rotate_left
        ·intro w'
         go_simp
         with_reducible rfl
        rotate_left
        ·simp only [Act.put, List.setIfInBounds_toArray, List.set_cons_zero, List.set_cons_succ, i64_w, i32_w]
         rfl
        refine pure_ (i := 21) (N := some 2) (v := ?_) (a' := ?_) #[true, true, true, true, true, true, true, true, true, true, true, true, true, true, true, true, true, true, true, true, true, true, false] rfl rfl (any_of HT_.out Z6) (fun _ _ _ h => h) (Or.inl ⟨Z13, ?_⟩) ?_ ?_
        rotate_left
        ·intro w'
         go_simp
         with_reducible rfl
        rotate_left
        ·simp only [Act.put, List.setIfInBounds_toArray, List.set_cons_zero, List.set_cons_succ, i64_w, i32_w]
         rfl
        refine pure_ (i := 22) (N := some 3) (v := ?_) (a' := ?_) #[true, true, true, true, true, true, true, true, true, true, true, true, true, true, true, true, true, true, true, true, true, true, true] rfl rfl (any_of HT_.out Z6) (fun _ _ _ h => h) (Or.inl ⟨Z13, ?_⟩) ?_ ?_
        rotate_left
        ·intro w'
         go_simp
         with_reducible rfl
        rotate_left
        ·simp only [Act.put, List.setIfInBounds_toArray, List.set_cons_zero, List.set_cons_succ, i64_w, i32_w]
         rfl
        refine done_ (done_of HT_.out Z6) ?_
        try go_wp2_with (first | ((with_reducible refine Pre.gate_load 25 rfl ?_); (try (refine gate_guard Z13 ?_; dsimp only)); refine Pre.load_event rfl rfl rfl Z13 Z2 Try.underlying25 rfl Z6 ?_))
        go_ret2
        exact ⟨Z9, Z0⟩
       ·rw [if_neg dB] at H
        exact absurd H Z73
      ·rw [if_neg hf] at H
       exact absurd H Z73
     ·rw [if_neg cX] at H
      exact absurd H Z73
    ·rw [if_neg c9] at H
     exact absurd H Z73
   ·rw [if_neg c7] at H
    exact absurd H Z73
  ·rw [if_neg c6] at H
   exact absurd H Z73
 ·replace c3 := Bool.eq_false_iff.mpr c3
  subst c3
  have H1 : (some ((⟨#[]⟩ : ByteArray), false)) = some (r1, r2) := by rw [if_neg (show ¬ (false = true) by decide)] at H; exact H
  clear H
  have H := H1
  clear H1
  simp only [Option.some.injEq, Prod.mk.injEq] at H
  obtain ⟨rfl, rfl⟩ := H
  go_enter Try.func18, Try.ntmps18
  go_wp2_with (first | ((with_reducible refine Pre.gate_load 25 rfl ?_); (try (refine gate_guard Z13 ?_; dsimp only)); refine Pre.load_event rfl rfl rfl Z13 Z2 Try.underlying25 rfl Z6 ?_) | ((with_reducible refine gate_dst (N := 1) rfl ?_); refine box_event ?hg (N := 1) ?hd (cs := #[.int .i64 av, .int .i64 au, .int .i64 aw, .string ay, .int .i64 aD, .int .i64 az, .string aA, .int .i64 ax, .int .i64 aE, .string aC, .int .i64 ap, .string an, .int .i64 aj, .int .i64 am, .int .i64 ak, .int .i64 ah, .int .i64 ai, .int .i64 al, .int .i64 ao, .string ac, .string af, .slice aT ae.length aN, .int .i64 aq, .string ar, .slice aJ ag.length aK]) (t := 25) ?hr ?_; (case hd => rfl); (case hg => rfl); (case hr => first | (go_simp; done) | (go_simp; rfl)); intro aa hg iy hbox hb; have aG := Aside0.mk (below_step Z3 hb); have aH := Aside0.mk (hbox); have aI := Aside0.mk ((by rw [hg]; exact (below_size Z3) : w.heap.size ≤ aa)); have aZ := Aside0.mk ((by rw [hg]; exact (below_size Z3) : w.heap.size ≤ aa)); replace HB := aG; have ab := aH; have cl := aI; have bs := aZ; clear aG aH aI aZ; clear hb hbox hg; have kI := cells_25 ab.out) | ((with_reducible refine gate_callee (f := 20) rfl ?_); refine goesL_ (some 8) rfl rfl Try.func20 Z6 rfl #[.agg #[.int .i64 av, .int .i64 au, .int .i64 aw, .string ay, .int .i64 aD, .int .i64 az, .string aA, .int .i64 ax, .int .i64 aE, .string aC, .int .i64 ap, .string an, .int .i64 aj, .int .i64 am, .int .i64 ak, .int .i64 ah, .int .i64 ai, .int .i64 al, .int .i64 ao, .string ac, .string af, .slice aT ae.length aN, .int .i64 aq, .string ar, .slice aJ ag.length aK]] rfl Z5 ?_; (with_reducible refine (rreq_Right.calls k av au aw ay aD az aA ax aE aC ap an aj am ak ah ai al ao ac af _ _ ae aq ar _ _ ag false _ ?side1 ?side2 ?side3 ?side4 A2.out).mono ?_); (case side1 => exact Z8); (case side2 => exact bl.out); (case side3 => exact Z7); (case side4 => exact bg.out); rintro e hX ⟨rfl, hb⟩; refine ⟨_, rfl, ?_⟩; have aG := Aside0.mk (blk_below (g := aa) Z1 hb); have aH := Aside0.mk (below_step Z0 hb); replace ab := aG; replace HB := aH; clear aG aH; (try clear hb); (try clear hb2); (try clear hk); (try clear hi)))
  go_ret2
  exact ⟨Z9, Z0⟩

end Go.Proofs.Ytccjakjjaemmkaa.PR
