-- Written by mp.py, a program of this work (wip/tools), out of the translation; Lean checks it.
import Derived.Test.YtccjakjjaemmkaaPRxZ
import Derived.Test.YtccjakjjaemmkaaPRxrerr
import Derived.Test.YtccjakjjaemmkaaPRxrerrRight
import Derived.Test.YtccjakjjaemmkaaPRxroadbooklaw16
import Derived.Test.YtccjakjjaemmkaaPRxroadbookref07
import Derived.Test.YtccjakjjaemmkaaPRxroadbookref16Put
import Derived.Test.YtccjakjjaemmkaaPRxroadbookref16Right
import Derived.Test.YtccjakjjaemmkaaLoad
namespace Go.Proofs.Ytccjakjjaemmkaa.PR
open Go.RowKit Go.Proofs.YtccjakjjaemmkaaW.PrintWords Go.Proofs.YtccjakjjaemmkaaW.PrintLast Go.Proofs.YtccjakjjaemmkaaW.PrintMore
attribute [local go_sem] max2_int min2_int max_two min_two max_three min_three max_four min_four   -- for this text's walks alone
set_option linter.unusedVariables false
set_option linter.unusedSimpArgs false

/-! ### roadbooklaw16_RerrTells: function 6 -/
def roadbooklaw16_RerrTells.f (k : Nat) (av : Int) (au : Int) (aw : Int) (ay : ByteArray) (aD : Int) (az : Int) (aA : ByteArray) (ax : Int) (aE : Int) (aC : ByteArray) (ap : Int) (an : ByteArray) (aj : Int) (am : Int) (ak : Int) (ah : Int) (ai : Int) (al : Int) (ao : Int) (ac : ByteArray) (af : ByteArray) (ae : List (S46)) (aq : Int) (ar : ByteArray) (ag : List (S48)) : Option (Bool) := (roadbookref07_Few.f k av au aw ay aD az aA ax aE aC ap an aj am ak ah ai al ao ac af ae aq ar ag).bind fun ba => (if ba = true then ((rerr_Put.f k av au aw ay aD az aA ax aE aC ap an aj am ak ah ai al ao ac af ae aq ar ag).bind fun cp => ((roadbookref16_Put.f k av au aw ay aD az aA ax aE aC ap an aj am ak ah ai al ao ac af ae aq ar ag).bind fun eo => ((roadbooklaw16_awake.f k).bind fun aQ => (if aQ = true then ((rerr_Right.f k av au aw ay aD az aA ax aE aC ap an aj am ak ah ai al ao ac af ae aq ar ag).bind fun aV => ((roadbookref16_Right.f k av au aw ay aD az aA ax aE aC ap an aj am ak ah ai al ao ac af ae aq ar ag).bind fun bi => (if (aV == bi) = true then (if cp.1.toList = eo.1.toList then (some (cp.2 == eo.2)) else (some false)) else (some false)))) else (some false))))) else ((roadbooklaw16_awake.f k).bind fun bf => (some bf)))
theorem roadbooklaw16_RerrTells.mono : ∀ a0 a1 a2 a3 a4 a5 a6 a7 a8 a9 fJ fK fL fM fN fO fP fQ fR fS fT fU fV fW fX k, LeO (roadbooklaw16_RerrTells.f k a0 a1 a2 a3 a4 a5 a6 a7 a8 a9 fJ fK fL fM fN fO fP fQ fR fS fT fU fV fW fX) (roadbooklaw16_RerrTells.f (k + 1) a0 a1 a2 a3 a4 a5 a6 a7 a8 a9 fJ fK fL fM fN fO fP fQ fR fS fT fU fV fW fX) := by
 intro a0 a1 a2 a3 a4 a5 a6 a7 a8 a9 fJ fK fL fM fN fO fP fQ fR fS fT fU fV fW fX k
 unfold roadbooklaw16_RerrTells.f
 repeat' first
   | (with_reducible exact rerr_Put.mono _ _ _ _ _ _ _ _ _ _ _ _ _ _ _ _ _ _ _ _ _ _ _ _ _ _)
   | (with_reducible exact rerr_Right.mono _ _ _ _ _ _ _ _ _ _ _ _ _ _ _ _ _ _ _ _ _ _ _ _ _ _)
   | (with_reducible exact roadbooklaw16_awake.mono _)
   | (with_reducible exact roadbookref07_Few.mono _ _ _ _ _ _ _ _ _ _ _ _ _ _ _ _ _ _ _ _ _ _ _ _ _ _)
   | (with_reducible exact roadbookref16_Put.mono _ _ _ _ _ _ _ _ _ _ _ _ _ _ _ _ _ _ _ _ _ _ _ _ _ _)
   | (with_reducible exact roadbookref16_Right.mono _ _ _ _ _ _ _ _ _ _ _ _ _ _ _ _ _ _ _ _ _ _ _ _ _ _)
   | (with_reducible exact LeO.refl _)
   | (with_reducible exact LeO.none _)
   | (with_reducible refine LeO.ite ?_ ?_)
   | (with_reducible refine LeO.bind ?_ (fun _ => ?_))
   | exact rerr_Put.mono _ _ _ _ _ _ _ _ _ _ _ _ _ _ _ _ _ _ _ _ _ _ _ _ _ _
   | exact rerr_Right.mono _ _ _ _ _ _ _ _ _ _ _ _ _ _ _ _ _ _ _ _ _ _ _ _ _ _
   | exact roadbooklaw16_awake.mono _
   | exact roadbookref07_Few.mono _ _ _ _ _ _ _ _ _ _ _ _ _ _ _ _ _ _ _ _ _ _ _ _ _ _
   | exact roadbookref16_Put.mono _ _ _ _ _ _ _ _ _ _ _ _ _ _ _ _ _ _ _ _ _ _ _ _ _ _
   | exact roadbookref16_Right.mono _ _ _ _ _ _ _ _ _ _ _ _ _ _ _ _ _ _ _ _ _ _ _ _ _ _
   | exact LeO.none _
   | refine LeO.ite ?_ ?_
   | refine LeO.bind ?_ (fun _ => ?_)
def roadbooklaw16_RerrTells.T5 : Bool × List (List Nat × List Nat) := (true, [([], []), ([0, 0], [0]), ([1], [1]), ([2, 1, 1], [1, 2]), ([1], [1]), ([4, 3, 1], [1, 4]), ([3, 5, 1], [1, 3, 5]), ([1, 6], [1, 6]), ([7, 5], [7]), ([8], [8]), ([8], [8]), ([9, 10, 8], [8, 9, 10]), ([8, 11], [8, 11]), ([12, 8], [12]), ([13], [13]), ([13], [13]), ([14, 15, 13], [13, 14, 15]), ([13, 16], [13, 16]), ([17, 13, 0, 1, 2, 3, 4, 5, 6, 7, 8, 9, 10, 11, 12, 13, 14, 15, 16, 17], [17])])
def roadbooklaw16_RerrTells.B5 : List Nat := [0, 1, 3, 7, 3, 31, 63, 127, 255, 511, 511, 2047, 4095, 8191, 16383, 16383, 65535, 131071, 262143]
theorem roadbooklaw16_RerrTells.tab5 : rtab .any (opsOf Try.f6 5) = roadbooklaw16_RerrTells.T5 := by kernel_rfl
theorem roadbooklaw16_RerrTells.bits5 : waitsOk roadbooklaw16_RerrTells.T5.2 roadbooklaw16_RerrTells.B5 = true := by kernel_rfl

set_option maxHeartbeats 8000000 in
set_option maxRecDepth 100000 in
theorem roadbooklaw16_RerrTells.calls (k : Nat) (av : Int) (au : Int) (aw : Int) (ay : ByteArray) (aD : Int) (az : Int) (aA : ByteArray) (ax : Int) (aE : Int) (aC : ByteArray) (ap : Int) (an : ByteArray) (aj : Int) (am : Int) (ak : Int) (ah : Int) (ai : Int) (al : Int) (ao : Int) (ac : ByteArray) (af : ByteArray) (aT : Option Addr) (aN : Nat) (ae : List (S46)) (aq : Int) (ar : ByteArray) (aJ : Option Addr) (aK : Nat) (ag : List (S48)) (r : Bool) (w : World) (bY : Kd.C k46 w aT ae.length ae) (bZ : ae.length ≤ aN) (ca : Kd.C k48 w aJ ag.length ag) (cb : ag.length ≤ aK) (hr_ : Aside0 (r = true)) (h : roadbooklaw16_RerrTells.f k av au aw ay aD az aA ax aE aC ap an aj am ak ah ai al ao ac af ae aq ar ag = some r) :
  Calls Try.prog 6 #[.agg #[.int .i64 av, .int .i64 au, .int .i64 aw, .string ay, .int .i64 aD, .int .i64 az, .string aA, .int .i64 ax, .int .i64 aE, .string aC, .int .i64 ap, .string an, .int .i64 aj, .int .i64 am, .int .i64 ak, .int .i64 ah, .int .i64 ai, .int .i64 al, .int .i64 ao, .string ac, .string af, .slice aT ae.length aN, .int .i64 aq, .string ar, .slice aJ ag.length aK]] w fun e w' => e = .returned (.bool r) ∧ Below w.heap.size w w' := by
 have gB := Try.underlying25
 have cT := Aside0.mk bY
 have bl := Aside0.mk bZ
 clear bY bZ
 have cP := Aside0.mk ca
 have bg := Aside0.mk cb
 clear ca cb
 have HB := Aside0.mk (Below.refl w.heap.size w)
 have H : ((roadbookref07_Few.f k av au aw ay aD az aA ax aE aC ap an aj am ak ah ai al ao ac af ae aq ar ag).bind fun ba => (if ba = true then ((rerr_Put.f k av au aw ay aD az aA ax aE aC ap an aj am ak ah ai al ao ac af ae aq ar ag).bind fun cp => ((roadbookref16_Put.f k av au aw ay aD az aA ax aE aC ap an aj am ak ah ai al ao ac af ae aq ar ag).bind fun eo => ((roadbooklaw16_awake.f k).bind fun aQ => (if aQ = true then ((rerr_Right.f k av au aw ay aD az aA ax aE aC ap an aj am ak ah ai al ao ac af ae aq ar ag).bind fun aV => ((roadbookref16_Right.f k av au aw ay aD az aA ax aE aC ap an aj am ak ah ai al ao ac af ae aq ar ag).bind fun bi => (if (aV == bi) = true then (if cp.1.toList = eo.1.toList then (some (cp.2 == eo.2)) else (some false)) else (some false)))) else (some false))))) else ((roadbooklaw16_awake.f k).bind fun bf => (some bf)))) = some r := h
 clear h
 replace H := Option.bind_eq_some_iff.mp H
 obtain ⟨ba, gN, H⟩ := H
 replace H : (if ba = true then ((rerr_Put.f k av au aw ay aD az aA ax aE aC ap an aj am ak ah ai al ao ac af ae aq ar ag).bind fun cp => ((roadbookref16_Put.f k av au aw ay aD az aA ax aE aC ap an aj am ak ah ai al ao ac af ae aq ar ag).bind fun eo => ((roadbooklaw16_awake.f k).bind fun aQ => (if aQ = true then ((rerr_Right.f k av au aw ay aD az aA ax aE aC ap an aj am ak ah ai al ao ac af ae aq ar ag).bind fun aV => ((roadbookref16_Right.f k av au aw ay aD az aA ax aE aC ap an aj am ak ah ai al ao ac af ae aq ar ag).bind fun bi => (if (aV == bi) = true then (if cp.1.toList = eo.1.toList then (some (cp.2 == eo.2)) else (some false)) else (some false)))) else (some false))))) else ((roadbooklaw16_awake.f k).bind fun bf => (some bf))) = some r := H
 have A2 := Aside0.mk gN
 clear gN
 by_cases c3 : ba = true
 ·subst c3
  replace H := Sq.itT H
  replace H := Option.bind_eq_some_iff.mp H
  obtain ⟨⟨bc, bk⟩, jA, H⟩ := H
  replace H : ((roadbookref16_Put.f k av au aw ay aD az aA ax aE aC ap an aj am ak ah ai al ao ac af ae aq ar ag).bind fun eo => ((roadbooklaw16_awake.f k).bind fun aQ => (if aQ = true then ((rerr_Right.f k av au aw ay aD az aA ax aE aC ap an aj am ak ah ai al ao ac af ae aq ar ag).bind fun aV => ((roadbookref16_Right.f k av au aw ay aD az aA ax aE aC ap an aj am ak ah ai al ao ac af ae aq ar ag).bind fun bi => (if (aV == bi) = true then (if bc.toList = eo.1.toList then (some (bk == eo.2)) else (some false)) else (some false)))) else (some false)))) = some r := H
  have A4 := Aside0.mk jA
  clear jA
  replace H := Option.bind_eq_some_iff.mp H
  obtain ⟨⟨bm, bp⟩, jp, H⟩ := H
  replace H : ((roadbooklaw16_awake.f k).bind fun aQ => (if aQ = true then ((rerr_Right.f k av au aw ay aD az aA ax aE aC ap an aj am ak ah ai al ao ac af ae aq ar ag).bind fun aV => ((roadbookref16_Right.f k av au aw ay aD az aA ax aE aC ap an aj am ak ah ai al ao ac af ae aq ar ag).bind fun bi => (if (aV == bi) = true then (if bc.toList = bm.toList then (some (bk == bp)) else (some false)) else (some false)))) else (some false))) = some r := H
  have A5 := Aside0.mk jp
  clear jp
  replace H := Option.bind_eq_some_iff.mp H
  obtain ⟨aQ, ls, H⟩ := H
  replace H : (if aQ = true then ((rerr_Right.f k av au aw ay aD az aA ax aE aC ap an aj am ak ah ai al ao ac af ae aq ar ag).bind fun aV => ((roadbookref16_Right.f k av au aw ay aD az aA ax aE aC ap an aj am ak ah ai al ao ac af ae aq ar ag).bind fun bi => (if (aV == bi) = true then (if bc.toList = bm.toList then (some (bk == bp)) else (some false)) else (some false)))) else (some false)) = some r := H
  have A6 := Aside0.mk ls
  clear ls
  by_cases c7 : aQ = true
  ·subst c7
   replace H := Sq.itT H
   replace H := Option.bind_eq_some_iff.mp H
   obtain ⟨aV, kn, H⟩ := H
   replace H : ((roadbookref16_Right.f k av au aw ay aD az aA ax aE aC ap an aj am ak ah ai al ao ac af ae aq ar ag).bind fun bi => (if (aV == bi) = true then (if bc.toList = bm.toList then (some (bk == bp)) else (some false)) else (some false))) = some r := H
   have A8 := Aside0.mk kn
   clear kn
   replace H := Option.bind_eq_some_iff.mp H
   obtain ⟨bi, mr, H⟩ := H
   replace H : (if (aV == bi) = true then (if bc.toList = bm.toList then (some (bk == bp)) else (some false)) else (some false)) = some r := H
   have A9 := Aside0.mk mr
   clear mr
   by_cases cX : (aV == bi) = true
   ·rw [if_pos cX] at H
    have ff : (aV == bi) = true := cX
    (try (have gG : decide (aV = bi) = true := by simpa using cX))
    (try (have jY : (aV == bi) = true := by simpa using cX))
    clear cX
    by_cases cU : bc.toList = bm.toList
    ·rw [if_pos cU] at H
     have fE : (bc.toList == bm.toList) = true := beq_iff_eq.mpr cU
     have hu : (bc.toList != bm.toList) = false := bne_eq_false_iff_eq.mpr cU
     clear cU
     obtain rfl := Option.some.inj H
     go_enter Try.func6, Try.ntmps6
     try go_wp2_with (first | ((with_reducible refine Pre.gate_load 25 rfl ?_); (try (refine gate_guard Z13 ?_; dsimp only)); refine Pre.load_event rfl rfl rfl Z13 Z2 Try.underlying25 rfl Z6 ?_) | ((with_reducible refine gate_dst (N := 1) rfl ?_); refine box_event ?hg (N := 1) ?hd (cs := #[.int .i64 av, .int .i64 au, .int .i64 aw, .string ay, .int .i64 aD, .int .i64 az, .string aA, .int .i64 ax, .int .i64 aE, .string aC, .int .i64 ap, .string an, .int .i64 aj, .int .i64 am, .int .i64 ak, .int .i64 ah, .int .i64 ai, .int .i64 al, .int .i64 ao, .string ac, .string af, .slice aT ae.length aN, .int .i64 aq, .string ar, .slice aJ ag.length aK]) (t := 25) ?hr ?_; (case hd => rfl); (case hg => rfl); (case hr => first | (go_simp; done) | (go_simp; rfl)); intro aa hg rc hbox hb; have aG := Aside0.mk (below_step Z3 hb); have aH := Aside0.mk (hbox); have aI := Aside0.mk ((by rw [hg]; exact (below_size Z3) : w.heap.size ≤ aa)); have aZ := Aside0.mk ((by rw [hg]; exact (below_size Z3) : w.heap.size ≤ aa)); replace HB := aG; have ab := aH; have cl := aI; have bs := aZ; clear aG aH aI aZ; clear hb hbox hg; have lF := cells_25 ab.out) | ((with_reducible refine gate_callee (f := 16) rfl ?_); refine goesL_ (some 8) rfl rfl Try.func16 Z6 rfl #[.agg #[.int .i64 av, .int .i64 au, .int .i64 aw, .string ay, .int .i64 aD, .int .i64 az, .string aA, .int .i64 ax, .int .i64 aE, .string aC, .int .i64 ap, .string an, .int .i64 aj, .int .i64 am, .int .i64 ak, .int .i64 ah, .int .i64 ai, .int .i64 al, .int .i64 ao, .string ac, .string af, .slice aT ae.length aN, .int .i64 aq, .string ar, .slice aJ ag.length aK]] rfl Z5 ?_; (with_reducible refine (roadbookref07_Few.calls k av au aw ay aD az aA ax aE aC ap an aj am ak ah ai al ao ac af _ _ ae aq ar _ _ ag true _ ?side1 ?side2 ?side3 ?side4 A2.out).mono ?_); (case side1 => exact Z8); (case side2 => exact bl.out); (case side3 => exact Z7); (case side4 => exact bg.out); rintro e mB ⟨rfl, hb⟩; refine ⟨_, rfl, ?_⟩; have aG := Aside0.mk (blk_below (g := aa) Z1 hb); have aH := Aside0.mk (below_step Z0 hb); replace ab := aG; replace HB := aH; clear aG aH; (try clear hb); (try clear hb2); (try clear hk); (try clear hi); have kC := cells_25 ab.out) | ((with_reducible refine gate_callee (f := 26) rfl ?_); refine goesL_ (some 13) rfl rfl Try.func26 Z6 rfl #[.agg #[.int .i64 av, .int .i64 au, .int .i64 aw, .string ay, .int .i64 aD, .int .i64 az, .string aA, .int .i64 ax, .int .i64 aE, .string aC, .int .i64 ap, .string an, .int .i64 aj, .int .i64 am, .int .i64 ak, .int .i64 ah, .int .i64 ai, .int .i64 al, .int .i64 ao, .string ac, .string af, .slice aT ae.length aN, .int .i64 aq, .string ar, .slice aJ ag.length aK]] rfl Z5 ?_; (with_reducible refine (rerr_Put.calls k av au aw ay aD az aA ax aE aC ap an aj am ak ah ai al ao ac af _ _ ae aq ar _ _ ag bc bk _ ?side1 ?side2 ?side3 ?side4 A4.out).mono ?_); (case side1 => exact Z8); (case side2 => exact bl.out); (case side3 => exact Z7); (case side4 => exact bg.out); rintro e lR ⟨rfl, hb⟩; refine ⟨_, rfl, ?_⟩; have aG := Aside0.mk (blk_below (g := aa) Z1 hb); have aH := Aside0.mk (below_step Z0 hb); replace ab := aG; replace HB := aH; clear aG aH; (try clear hb); (try clear hb2); (try clear hk); (try clear hi); have lG := cells_25 ab.out) | ((with_reducible refine gate_callee (f := 27) rfl ?_); refine goesL_ (some 18) rfl rfl Try.func27 Z6 rfl #[.agg #[.int .i64 av, .int .i64 au, .int .i64 aw, .string ay, .int .i64 aD, .int .i64 az, .string aA, .int .i64 ax, .int .i64 aE, .string aC, .int .i64 ap, .string an, .int .i64 aj, .int .i64 am, .int .i64 ak, .int .i64 ah, .int .i64 ai, .int .i64 al, .int .i64 ao, .string ac, .string af, .slice aT ae.length aN, .int .i64 aq, .string ar, .slice aJ ag.length aK]] rfl Z5 ?_; (with_reducible refine (roadbookref16_Put.calls k av au aw ay aD az aA ax aE aC ap an aj am ak ah ai al ao ac af _ _ ae aq ar _ _ ag bm bp _ ?side1 ?side2 ?side3 ?side4 A5.out).mono ?_); (case side1 => exact Z8); (case side2 => exact bl.out); (case side3 => exact Z7); (case side4 => exact bg.out); rintro e kh ⟨rfl, hb⟩; refine ⟨_, rfl, ?_⟩; have aG := Aside0.mk (blk_below (g := aa) Z1 hb); have aH := Aside0.mk (below_step Z0 hb); replace ab := aG; replace HB := aH; clear aG aH; (try clear hb); (try clear hb2); (try clear hk); (try clear hi)))
     have aG := Aside0.mk (blk_drew ab.out)
     have aH := Aside0.mk (below_drew1 HB.out)
     clear ab
     clear HB
     have ab := aG
     have HB := aH
     clear aG aH
     refine start_ (n := 19) (S := fun w' => w'.heap[aa]? = some (.cells #[.int .i64 av, .int .i64 au, .int .i64 aw, .string ay, .int .i64 aD, .int .i64 az, .string aA, .int .i64 ax, .int .i64 aE, .string aC, .int .i64 ap, .string an, .int .i64 aj, .int .i64 am, .int .i64 ak, .int .i64 ah, .int .i64 ai, .int .i64 al, .int .i64 ao, .string ac, .string af, .slice aT ae.length aN, .int .i64 aq, .string ar, .slice aJ ag.length aK] 25 (0, 0))) (ds := []) #[false, false, false, false, false, false, false, false, false, false, false, false, false, false, false, false, false, false, false] Z6 rfl rfl (ab.out) (fun hHeld => ?_); refine with_tabW roadbooklaw16_RerrTells.tab5 roadbooklaw16_RerrTells.bits5 (fun HT_ HW_ => ?_)
     generalize kh.drew = nD at ab HB hHeld ⊢
     refine one_ (i := 0) (N := some 21) #[true, false, false, false, false, false, false, false, false, false, false, false, false, false, false, false, false, false, false] rfl rfl (one_of HT_.out Z6) Z32 (fun K hK => ?_)
     refine goes_ Try.func25 Z6 rfl #[] Z13 rfl rfl Z5 ?_
     with_reducible refine (roadbooklaw16_awake.calls k  true _ (Aside0.mk Z89) A6.out).mono ?_
     rintro e kG ⟨rfl, hb⟩
     refine ⟨_, rfl, ?_⟩
     have aG := Aside0.mk (blk_below (g := aa) Z1 hb)
     have aH := Aside0.mk (below_step Z0 hb)
     clear ab
     clear HB
     have ab := aG
     have HB := aH
     clear aG aH
     (try clear hb)
     (try clear hb2)
     (try clear hk)
     (try clear hi)
     refine hK.out _ _ (ab.out) (fun hHeld => ?_)
     clear hK K
     refine norm_ (a' := ?_) ?_ ?_
     rotate_left
     ·show Act.put _ (some 21) _ = _
      simp only [Act.put, List.setIfInBounds_toArray, List.set_cons_zero, List.set_cons_succ, i64_w, i32_w]
      rfl
     refine pure_ (i := 1) (N := some 22) (v := ?_) (a' := ?_) #[true, true, false, false, false, false, false, false, false, false, false, false, false, false, false, false, false, false, false] rfl rfl (any_of HT_.out Z6) (fun _ _ _ h => h) (Or.inl ⟨Z13, ?_⟩) ?_ ?_
     rotate_left
     ·intro w'
      go_simp
      with_reducible rfl
     rotate_left
     ·simp only [Act.put, List.setIfInBounds_toArray, List.set_cons_zero, List.set_cons_succ, i64_w, i32_w]
      rfl
     refine take_ (i := 2) (N := some 23) (v := ?_) (a' := ?_) #[true, true, true, false, false, false, false, false, false, false, false, false, false, false, false, false, false, false, false] rfl rfl (take_ofW HT_.out HW_.out Z6) (fun _ _ _ h => h) (Or.inl ⟨Z13, ?_⟩) hHeld ?_ ?_
     rotate_left
     ·rintro w' s0
      first | (refine Eq.trans (Pre.load_run (ty := 25) rfl Z13 s0 Try.underlying25 rfl Z6) ?_; with_reducible rfl) | (go_simp; with_reducible rfl)
     rotate_left
     ·simp only [Act.put, List.setIfInBounds_toArray, List.set_cons_zero, List.set_cons_succ, i64_w, i32_w]
      rfl
     refine take_ (i := 4) (N := some 25) (v := ?_) (a' := ?_) #[true, true, true, false, true, false, false, false, false, false, false, false, false, false, false, false, false, false, false] rfl rfl (take_ofW HT_.out HW_.out Z6) (fun _ _ _ h => h) (Or.inl ⟨Z13, ?_⟩) hHeld ?_ ?_
     rotate_left
     ·rintro w' s0
      first | (refine Eq.trans (Pre.load_run (ty := 25) rfl Z13 s0 Try.underlying25 rfl Z6) ?_; with_reducible rfl) | (go_simp; with_reducible rfl)
     rotate_left
     ·simp only [Act.put, List.setIfInBounds_toArray, List.set_cons_zero, List.set_cons_succ, i64_w, i32_w]
      rfl
     refine one_ (i := 3) (N := some 24) #[true, true, true, true, true, false, false, false, false, false, false, false, false, false, false, false, false, false, false] rfl rfl (one_of HT_.out Z6) Z32 (fun K hK => ?_)
     refine goes_ Try.func28 Z6 rfl #[.agg #[.int .i64 av, .int .i64 au, .int .i64 aw, .string ay, .int .i64 aD, .int .i64 az, .string aA, .int .i64 ax, .int .i64 aE, .string aC, .int .i64 ap, .string an, .int .i64 aj, .int .i64 am, .int .i64 ak, .int .i64 ah, .int .i64 ai, .int .i64 al, .int .i64 ao, .string ac, .string af, .slice aT ae.length aN, .int .i64 aq, .string ar, .slice aJ ag.length aK]] Z13 rfl rfl Z5 ?_
     with_reducible refine (rerr_Right.calls k av au aw ay aD az aA ax aE aC ap an aj am ak ah ai al ao ac af _ _ ae aq ar _ _ ag aV _ ?side1 ?side2 ?side3 ?side4 A8.out).mono ?_
     (case side1 => exact Z8)
     (case side2 => exact bl.out)
     (case side3 => exact Z7)
     (case side4 => exact bg.out)
     rintro e mi ⟨rfl, hb⟩
     refine ⟨_, rfl, ?_⟩
     have aG := Aside0.mk (blk_below (g := aa) Z1 hb)
     have aH := Aside0.mk (below_step Z0 hb)
     clear ab
     clear HB
     have ab := aG
     have HB := aH
     clear aG aH
     (try clear hb)
     (try clear hb2)
     (try clear hk)
     (try clear hi)
     refine hK.out _ _ (ab.out) (fun hHeld => ?_)
     clear hK K
     refine norm_ (a' := ?_) ?_ ?_
     rotate_left
     ·show Act.put _ (some 24) _ = _
      simp only [Act.put, List.setIfInBounds_toArray, List.set_cons_zero, List.set_cons_succ, i64_w, i32_w]
      rfl
     refine one_ (i := 5) (N := some 26) #[true, true, true, true, true, true, false, false, false, false, false, false, false, false, false, false, false, false, false] rfl rfl (one_of HT_.out Z6) Z32 (fun K hK => ?_)
     refine goes_ Try.func29 Z6 rfl #[.agg #[.int .i64 av, .int .i64 au, .int .i64 aw, .string ay, .int .i64 aD, .int .i64 az, .string aA, .int .i64 ax, .int .i64 aE, .string aC, .int .i64 ap, .string an, .int .i64 aj, .int .i64 am, .int .i64 ak, .int .i64 ah, .int .i64 ai, .int .i64 al, .int .i64 ao, .string ac, .string af, .slice aT ae.length aN, .int .i64 aq, .string ar, .slice aJ ag.length aK]] Z13 rfl rfl Z5 ?_
     with_reducible refine (roadbookref16_Right.calls k av au aw ay aD az aA ax aE aC ap an aj am ak ah ai al ao ac af _ _ ae aq ar _ _ ag bi _ ?side1 ?side2 ?side3 ?side4 A9.out).mono ?_
     (case side1 => exact Z8)
     (case side2 => exact bl.out)
     (case side3 => exact Z7)
     (case side4 => exact bg.out)
     rintro e ij ⟨rfl, hb⟩
     refine ⟨_, rfl, ?_⟩
     have aG := Aside0.mk (blk_below (g := aa) Z1 hb)
     have aH := Aside0.mk (below_step Z0 hb)
     clear ab
     clear HB
     have ab := aG
     have HB := aH
     clear aG aH
     (try clear hb)
     (try clear hb2)
     (try clear hk)
     (try clear hi)
     refine hK.out _ _ (ab.out) (fun hHeld => ?_)
     clear hK K
     refine norm_ (a' := ?_) ?_ ?_
     rotate_left
     ·show Act.put _ (some 26) _ = _
      simp only [Act.put, List.setIfInBounds_toArray, List.set_cons_zero, List.set_cons_succ, i64_w, i32_w]
      rfl
     refine pure_ (i := 6) (N := some 27) (v := ?_) (a' := ?_) #[true, true, true, true, true, true, true, false, false, false, false, false, false, false, false, false, false, false, false] rfl rfl (any_of HT_.out Z6) (fun _ _ _ h => h) (Or.inl ⟨Z13, ?_⟩) ?_ ?_
     rotate_left
     ·intro w'
      go_simp
      with_reducible rfl
     rotate_left
     ·simp only [Act.put, List.setIfInBounds_toArray, List.set_cons_zero, List.set_cons_succ, i64_w, i32_w]
      rfl
     refine pure_ (i := 7) (N := some 28) (v := ?_) (a' := ?_) #[true, true, true, true, true, true, true, true, false, false, false, false, false, false, false, false, false, false, false] rfl rfl (any_of HT_.out Z6) (fun _ _ _ h => h) (Or.inl ⟨Z13, ?_⟩) ?_ ?_
     rotate_left
     ·intro w'
      go_simp
      with_reducible rfl
     rotate_left
     ·simp only [Act.put, List.setIfInBounds_toArray, List.set_cons_zero, List.set_cons_succ, i64_w, i32_w]
      rfl
     refine pure_ (i := 8) (N := some 29) (v := ?_) (a' := ?_) #[true, true, true, true, true, true, true, true, true, false, false, false, false, false, false, false, false, false, false] rfl rfl (any_of HT_.out Z6) (fun _ _ _ h => h) (Or.inl ⟨Z13, ?_⟩) ?_ ?_
     rotate_left
     ·intro w'
      go_simp
      with_reducible rfl
     rotate_left
     ·simp only [Act.put, List.setIfInBounds_toArray, List.set_cons_zero, List.set_cons_succ, i64_w, i32_w]
      rfl
     refine pure_ (i := 9) (N := some 30) (v := ?_) (a' := ?_) #[true, true, true, true, true, true, true, true, true, true, false, false, false, false, false, false, false, false, false] rfl rfl (any_of HT_.out Z6) (fun _ _ _ h => h) (Or.inl ⟨Z13, ?_⟩) ?_ ?_
     rotate_left
     ·intro w'
      go_simp
      with_reducible rfl
     rotate_left
     ·simp only [Act.put, List.setIfInBounds_toArray, List.set_cons_zero, List.set_cons_succ, i64_w, i32_w]
      rfl
     refine pure_ (i := 10) (N := some 31) (v := ?_) (a' := ?_) #[true, true, true, true, true, true, true, true, true, true, true, false, false, false, false, false, false, false, false] rfl rfl (any_of HT_.out Z6) (fun _ _ _ h => h) (Or.inl ⟨Z13, ?_⟩) ?_ ?_
     rotate_left
     ·intro w'
      go_simp
      with_reducible rfl
     rotate_left
     ·simp only [Act.put, List.setIfInBounds_toArray, List.set_cons_zero, List.set_cons_succ, i64_w, i32_w]
      rfl
     refine pure_ (i := 11) (N := some 32) (v := ?_) (a' := ?_) #[true, true, true, true, true, true, true, true, true, true, true, true, false, false, false, false, false, false, false] rfl rfl (any_of HT_.out Z6) (fun _ _ _ h => h) (Or.inl ⟨Z13, ?_⟩) ?_ ?_
     rotate_left
     ·intro w'
      go_simp
      with_reducible rfl
     rotate_left
     ·simp only [Act.put, List.setIfInBounds_toArray, List.set_cons_zero, List.set_cons_succ, i64_w, i32_w]
      rfl
     refine pure_ (i := 12) (N := some 33) (v := ?_) (a' := ?_) #[true, true, true, true, true, true, true, true, true, true, true, true, true, false, false, false, false, false, false] rfl rfl (any_of HT_.out Z6) (fun _ _ _ h => h) (Or.inl ⟨Z13, ?_⟩) ?_ ?_
     rotate_left
     ·intro w'
      go_simp
      with_reducible rfl
     rotate_left
     ·simp only [Act.put, List.setIfInBounds_toArray, List.set_cons_zero, List.set_cons_succ, i64_w, i32_w]
      rfl
     refine pure_ (i := 13) (N := some 34) (v := ?_) (a' := ?_) #[true, true, true, true, true, true, true, true, true, true, true, true, true, true, false, false, false, false, false] rfl rfl (any_of HT_.out Z6) (fun _ _ _ h => h) (Or.inl ⟨Z13, ?_⟩) ?_ ?_
     rotate_left
     ·intro w'
      go_simp
      with_reducible rfl
     rotate_left
     ·simp only [Act.put, List.setIfInBounds_toArray, List.set_cons_zero, List.set_cons_succ, i64_w, i32_w]
      rfl
     refine pure_ (i := 14) (N := some 35) (v := ?_) (a' := ?_) #[true, true, true, true, true, true, true, true, true, true, true, true, true, true, true, false, false, false, false] rfl rfl (any_of HT_.out Z6) (fun _ _ _ h => h) (Or.inl ⟨Z13, ?_⟩) ?_ ?_
     rotate_left
     ·intro w'
      go_simp
      with_reducible rfl
     rotate_left
     ·simp only [Act.put, List.setIfInBounds_toArray, List.set_cons_zero, List.set_cons_succ, i64_w, i32_w]
      rfl
     refine pure_ (i := 15) (N := some 36) (v := ?_) (a' := ?_) #[true, true, true, true, true, true, true, true, true, true, true, true, true, true, true, true, false, false, false] rfl rfl (any_of HT_.out Z6) (fun _ _ _ h => h) (Or.inl ⟨Z13, ?_⟩) ?_ ?_
     rotate_left
     ·intro w'
      go_simp
      with_reducible rfl
     rotate_left
     ·simp only [Act.put, List.setIfInBounds_toArray, List.set_cons_zero, List.set_cons_succ, i64_w, i32_w]
      rfl
     refine pure_ (i := 16) (N := some 37) (v := ?_) (a' := ?_) #[true, true, true, true, true, true, true, true, true, true, true, true, true, true, true, true, true, false, false] rfl rfl (any_of HT_.out Z6) (fun _ _ _ h => h) (Or.inl ⟨Z13, ?_⟩) ?_ ?_
     rotate_left
     ·intro w'
      go_simp
      with_reducible rfl
     rotate_left
     ·simp only [Act.put, List.setIfInBounds_toArray, List.set_cons_zero, List.set_cons_succ, i64_w, i32_w]
      rfl
     refine pure_ (i := 17) (N := some 38) (v := ?_) (a' := ?_) #[true, true, true, true, true, true, true, true, true, true, true, true, true, true, true, true, true, true, false] rfl rfl (any_of HT_.out Z6) (fun _ _ _ h => h) (Or.inl ⟨Z13, ?_⟩) ?_ ?_
     rotate_left
     ·intro w'
      go_simp
      with_reducible rfl
     rotate_left
     ·simp only [Act.put, List.setIfInBounds_toArray, List.set_cons_zero, List.set_cons_succ, i64_w, i32_w]
      rfl
     refine pure_ (i := 18) (N := some 2) (v := ?_) (a' := ?_) #[true, true, true, true, true, true, true, true, true, true, true, true, true, true, true, true, true, true, true] rfl rfl (any_of HT_.out Z6) (fun _ _ _ h => h) (Or.inl ⟨Z13, ?_⟩) ?_ ?_
     rotate_left
     ·intro w'
      go_simp
      with_reducible rfl
     rotate_left
     ·simp only [Act.put, List.setIfInBounds_toArray, List.set_cons_zero, List.set_cons_succ, i64_w, i32_w]
      rfl
     refine done_ (done_of HT_.out Z6) ?_
     try go_wp2_with (first | ((with_reducible refine Pre.gate_load 25 rfl ?_); (try (refine gate_guard Z13 ?_; dsimp only)); refine Pre.load_event rfl rfl rfl Z13 Z2 Try.underlying25 rfl Z6 ?_))
     go_ret
     exact ⟨Z9, Z0⟩
    ·rw [if_neg cU] at H
     have fE : (bc.toList == bm.toList) = false := beq_eq_false_iff_ne.mpr cU
     have hu : (bc.toList != bm.toList) = true := bne_iff_ne.mpr cU
     exact absurd (Option.some.inj H) Z30
   ·rw [if_neg cX] at H
    have ff : (aV == bi) = false := by first | exact Bool.eq_false_iff.mpr cX | simpa using cX
    (try (have gG : decide (aV = bi) = false := by simpa using cX))
    (try (have jY : (aV == bi) = false := by simpa using cX))
    (try (have lH : ¬ (aV = bi) := by simpa using cX))
    clear cX
    exact absurd (Option.some.inj H) Z30
  ·replace c7 := Bool.eq_false_iff.mpr c7
   subst c7
   replace H := Sq.itF H
   exact absurd (Option.some.inj H) Z30
 ·replace c3 := Bool.eq_false_iff.mpr c3
  subst c3
  replace H := Sq.itF H
  replace H := Option.bind_eq_some_iff.mp H
  obtain ⟨bf, iI, H⟩ := H
  replace H : (some bf) = some r := H
  have lT := Aside0.mk iI
  clear iI
  obtain rfl := Option.some.inj H
  go_enter Try.func6, Try.ntmps6
  go_wp2_with (first | ((with_reducible refine Pre.gate_load 25 rfl ?_); (try (refine gate_guard Z13 ?_; dsimp only)); refine Pre.load_event rfl rfl rfl Z13 Z2 Try.underlying25 rfl Z6 ?_) | ((with_reducible refine gate_dst (N := 1) rfl ?_); refine box_event ?hg (N := 1) ?hd (cs := #[.int .i64 av, .int .i64 au, .int .i64 aw, .string ay, .int .i64 aD, .int .i64 az, .string aA, .int .i64 ax, .int .i64 aE, .string aC, .int .i64 ap, .string an, .int .i64 aj, .int .i64 am, .int .i64 ak, .int .i64 ah, .int .i64 ai, .int .i64 al, .int .i64 ao, .string ac, .string af, .slice aT ae.length aN, .int .i64 aq, .string ar, .slice aJ ag.length aK]) (t := 25) ?hr ?_; (case hd => rfl); (case hg => rfl); (case hr => first | (go_simp; done) | (go_simp; rfl)); intro aa hg ed hbox hb; have aG := Aside0.mk (below_step Z3 hb); have aH := Aside0.mk (hbox); have aI := Aside0.mk ((by rw [hg]; exact (below_size Z3) : w.heap.size ≤ aa)); have aZ := Aside0.mk ((by rw [hg]; exact (below_size Z3) : w.heap.size ≤ aa)); replace HB := aG; have ab := aH; have cl := aI; have bs := aZ; clear aG aH aI aZ; clear hb hbox hg; have iv := cells_25 ab.out) | ((with_reducible refine gate_callee (f := 16) rfl ?_); refine goesL_ (some 8) rfl rfl Try.func16 Z6 rfl #[.agg #[.int .i64 av, .int .i64 au, .int .i64 aw, .string ay, .int .i64 aD, .int .i64 az, .string aA, .int .i64 ax, .int .i64 aE, .string aC, .int .i64 ap, .string an, .int .i64 aj, .int .i64 am, .int .i64 ak, .int .i64 ah, .int .i64 ai, .int .i64 al, .int .i64 ao, .string ac, .string af, .slice aT ae.length aN, .int .i64 aq, .string ar, .slice aJ ag.length aK]] rfl Z5 ?_; (with_reducible refine (roadbookref07_Few.calls k av au aw ay aD az aA ax aE aC ap an aj am ak ah ai al ao ac af _ _ ae aq ar _ _ ag false _ ?side1 ?side2 ?side3 ?side4 A2.out).mono ?_); (case side1 => exact Z8); (case side2 => exact bl.out); (case side3 => exact Z7); (case side4 => exact bg.out); rintro e gD ⟨rfl, hb⟩; refine ⟨_, rfl, ?_⟩; have aG := Aside0.mk (blk_below (g := aa) Z1 hb); have aH := Aside0.mk (below_step Z0 hb); replace ab := aG; replace HB := aH; clear aG aH; (try clear hb); (try clear hb2); (try clear hk); (try clear hi)) | ((with_reducible refine gate_callee (f := 25) rfl ?_); refine goesL_ (some 10) rfl rfl Try.func25 Z6 rfl #[] rfl Z5 ?_; (with_reducible refine (roadbooklaw16_awake.calls k  bf _ (Aside0.mk Z89) lT.out).mono ?_); rintro e iy ⟨rfl, hb⟩; refine ⟨_, rfl, ?_⟩; have aG := Aside0.mk (blk_below (g := aa) Z1 hb); have aH := Aside0.mk (below_step Z0 hb); replace ab := aG; replace HB := aH; clear aG aH; (try clear hb); (try clear hb2); (try clear hk); (try clear hi)))
  go_ret
  exact ⟨Z9, Z0⟩

end Go.Proofs.Ytccjakjjaemmkaa.PR
