-- Written by mp.py, a program of this work (wip/tools), out of the translation; Lean checks it.
import Derived.Test.YtccjakjjaemmkaaPABxZ
import Derived.Test.YtccjakjjaemmkaaPABxaodv
import Derived.Test.YtccjakjjaemmkaaPABxaodvEncode
import Derived.Test.YtccjakjjaemmkaaPABxroadbooklaw17
import Derived.Test.YtccjakjjaemmkaaPABxroadbookref07
import Derived.Test.YtccjakjjaemmkaaPABxroadbookref07SameAll
import Derived.Test.YtccjakjjaemmkaaLitC
namespace Go.Proofs.Ytccjakjjaemmkaa.PAB
open Go.RowKit Go.Proofs.YtccjakjjaemmkaaW.PrintWords Go.Proofs.YtccjakjjaemmkaaW.PrintLast Go.Proofs.YtccjakjjaemmkaaW.PrintMore
attribute [local go_sem] max2_int min2_int max_two min_two max_three min_three max_four min_four   -- for this text's walks alone
set_option linter.unusedVariables false
set_option linter.unusedSimpArgs false

/-! ### roadbooklaw17_AodvBack: function 15 -/
mutual
def roadbooklaw17_AodvBack.j0 : Nat → ByteArray → Bool → Int → Int → Int → ByteArray → Int → Int → ByteArray → Int → Int → ByteArray → Int → ByteArray → Int → Int → Int → Int → Int → Int → Int → ByteArray → ByteArray → List (S46) → Int → ByteArray → List (S48) → Option (Bool)
 | 0, _, _, _, _, _, _, _, _, _, _, _, _, _, _, _, _, _, _, _, _, _, _, _, _, _, _, _ => none
 | k + 1, x1, nK, bB, bN, bO, bP, bQ, bR, bS, bC, bT, bU, bV, bI, bw, bD, bE, bx, bA, bF, bJ, bG, bH, bs, bK, bL, bp => if nK = true then ((roadbooklaw17_awake.f k).bind fun aW => (some aW)) else ((aodv_Encode.f k (([(⟨bB, bN, bO, bP, bQ, bR, bS, bC, bT, bU, bV, bI, bw, bD, bE, bx, bA, bF, bJ, bG, bH, bs, bK, bL, bp⟩ : S25)] : List (S25)))).bind fun bW => ((aodv_Right.f k bB bN bO bP bQ bR bS bC bT bU bV bI bw bD bE bx bA bF bJ bG bH bs bK bL bp).bind fun bl => (if bl = true then ((aodv_Parse.f k bW.1).bind fun ek => (if bW.2.2 = 0 then (if ek.2.2 = 0 then ((roadbookref07_SameAll.f k ek.1 (([(⟨bB, bN, bO, bP, bQ, bR, bS, bC, bT, bU, bV, bI, bw, bD, bE, bx, bA, bF, bJ, bG, bH, bs, bK, bL, bp⟩ : S25)] : List (S25)))).bind fun cm => (roadbooklaw17_AodvBack.j1 k x1 (!cm))) else (roadbooklaw17_AodvBack.j1 k x1 true)) else (roadbooklaw17_AodvBack.j1 k x1 true))) else (if bW.2.2 = 1 then (if bW.1.toList = ([] : List UInt8) then (roadbooklaw17_AodvBack.j2 k x1) else (some false)) else (some false)))))
def roadbooklaw17_AodvBack.j2 : Nat → ByteArray → Option (Bool)
 | 0, _ => none
 | k + 1, x1 => (aodv_Parse.f k x1).bind fun iD => (if iD.2.2 = 0 then ((aodv_Encode.f k iD.1).bind fun jb => ((roadbooklaw17_awake.f k).bind fun eM => (if eM = true then (if jb.2.2 = 0 then (if jb.1.toList = x1.toList then (some ((iD.1.length : Int) == 1)) else (some false)) else (some false)) else (some false)))) else ((roadbooklaw17_awake.f k).bind fun eI => (if eI = true then (if (iD.1.length : Int) = 0 then (if iD.2.1 ≥ 0 then (some (decide (iD.2.1 ≤ (x1.size : Int)))) else (some false)) else (some false)) else (some false))))
def roadbooklaw17_AodvBack.j1 : Nat → ByteArray → Bool → Option (Bool)
 | 0, _, _ => none
 | k + 1, x1, tN => if tN = true then (some false) else (roadbooklaw17_AodvBack.j2 k x1)
end
def roadbooklaw17_AodvBack.f (k : Nat) (ax : Int) (av : Int) (aw : Int) (ay : ByteArray) (az : Int) (aH : Int) (aE : ByteArray) (aA : Int) (aD : Int) (aC : ByteArray) (au : Int) (an : ByteArray) (al : Int) (ak : Int) (ar : Int) (af : Int) (ai : Int) (am : Int) (ao : Int) (aa : ByteArray) (ac : ByteArray) (ab : List (S46)) (ap : Int) (aq : ByteArray) (ah : List (S48)) (a1 : ByteArray) : Option (Bool) := (roadbookref07_Few.f k ax av aw ay az aH aE aA aD aC au an al ak ar af ai am ao aa ac ab ap aq ah).bind fun aM => (if aM = true then (roadbooklaw17_AodvBack.j0 k a1 (decide ((a1.size : Int) > 3000)) ax av aw ay az aH aE aA aD aC au an al ak ar af ai am ao aa ac ab ap aq ah) else (roadbooklaw17_AodvBack.j0 k a1 true ax av aw ay az aH aE aA aD aC au an al ak ar af ai am ao aa ac ab ap aq ah))
theorem roadbooklaw17_AodvBack.mono_l : ∀ k, (∀ y0 y1 y2 y3 y4 y5 y6 y7 y8 y9 fr fs ft fu fv fw fx fy fz fA fB fC fD fE fF fG iE, LeO (roadbooklaw17_AodvBack.j0 k y0 y1 y2 y3 y4 y5 y6 y7 y8 y9 fr fs ft fu fv fw fx fy fz fA fB fC fD fE fF fG iE) (roadbooklaw17_AodvBack.j0 (k + 1) y0 y1 y2 y3 y4 y5 y6 y7 y8 y9 fr fs ft fu fv fw fx fy fz fA fB fC fD fE fF fG iE)) ∧ (∀ y0, LeO (roadbooklaw17_AodvBack.j2 k y0) (roadbooklaw17_AodvBack.j2 (k + 1) y0)) ∧ (∀ y0 y1, LeO (roadbooklaw17_AodvBack.j1 k y0 y1) (roadbooklaw17_AodvBack.j1 (k + 1) y0 y1))
 | 0 => ⟨Sq.mz, Sq.mz, Sq.mz⟩
 | k + 1 => by
  obtain ⟨ih0, ih1, ih2⟩ := roadbooklaw17_AodvBack.mono_l k
  refine ⟨?_, ?_, ?_⟩
  ·intro y0 y1 y2 y3 y4 y5 y6 y7 y8 y9 fr fs ft fu fv fw fx fy fz fA fB fC fD fE fF fG iE
   unfold roadbooklaw17_AodvBack.j0
   repeat' first
   | (with_reducible exact ih0 ..)
   | (with_reducible exact ih1 _)
   | (with_reducible exact ih2 _ _)
   | (with_reducible exact aodv_Encode.mono _ _)
   | (with_reducible exact aodv_Parse.mono _ _)
   | (with_reducible exact aodv_Right.mono _ _ _ _ _ _ _ _ _ _ _ _ _ _ _ _ _ _ _ _ _ _ _ _ _ _)
   | (with_reducible exact roadbooklaw17_awake.mono _)
   | (with_reducible exact roadbookref07_Few.mono _ _ _ _ _ _ _ _ _ _ _ _ _ _ _ _ _ _ _ _ _ _ _ _ _ _)
   | (with_reducible exact roadbookref07_SameAll.mono _ _ _)
   | (with_reducible exact LeO.refl _)
   | (with_reducible exact LeO.none _)
   | (with_reducible refine LeO.ite ?_ ?_)
   | (with_reducible refine LeO.bind ?_ (fun _ => ?_))
   | exact ih0 ..
   | exact ih1 _
   | exact ih2 _ _
   | exact aodv_Encode.mono _ _
   | exact aodv_Parse.mono _ _
   | exact aodv_Right.mono _ _ _ _ _ _ _ _ _ _ _ _ _ _ _ _ _ _ _ _ _ _ _ _ _ _
   | exact roadbooklaw17_awake.mono _
   | exact roadbookref07_Few.mono _ _ _ _ _ _ _ _ _ _ _ _ _ _ _ _ _ _ _ _ _ _ _ _ _ _
   | exact roadbookref07_SameAll.mono _ _ _
   | exact LeO.none _
   | refine LeO.ite ?_ ?_
   | refine LeO.bind ?_ (fun _ => ?_)
  ·intro y0
   unfold roadbooklaw17_AodvBack.j2
   repeat' first
   | (with_reducible exact ih0 ..)
   | (with_reducible exact ih1 _)
   | (with_reducible exact ih2 _ _)
   | (with_reducible exact aodv_Encode.mono _ _)
   | (with_reducible exact aodv_Parse.mono _ _)
   | (with_reducible exact aodv_Right.mono _ _ _ _ _ _ _ _ _ _ _ _ _ _ _ _ _ _ _ _ _ _ _ _ _ _)
   | (with_reducible exact roadbooklaw17_awake.mono _)
   | (with_reducible exact roadbookref07_Few.mono _ _ _ _ _ _ _ _ _ _ _ _ _ _ _ _ _ _ _ _ _ _ _ _ _ _)
   | (with_reducible exact roadbookref07_SameAll.mono _ _ _)
   | (with_reducible exact LeO.refl _)
   | (with_reducible exact LeO.none _)
   | (with_reducible refine LeO.ite ?_ ?_)
   | (with_reducible refine LeO.bind ?_ (fun _ => ?_))
   | exact ih0 ..
   | exact ih1 _
   | exact ih2 _ _
   | exact aodv_Encode.mono _ _
   | exact aodv_Parse.mono _ _
   | exact aodv_Right.mono _ _ _ _ _ _ _ _ _ _ _ _ _ _ _ _ _ _ _ _ _ _ _ _ _ _
   | exact roadbooklaw17_awake.mono _
   | exact roadbookref07_Few.mono _ _ _ _ _ _ _ _ _ _ _ _ _ _ _ _ _ _ _ _ _ _ _ _ _ _
   | exact roadbookref07_SameAll.mono _ _ _
   | exact LeO.none _
   | refine LeO.ite ?_ ?_
   | refine LeO.bind ?_ (fun _ => ?_)
  ·intro y0 y1
   unfold roadbooklaw17_AodvBack.j1
   repeat' first
   | (with_reducible exact ih0 ..)
   | (with_reducible exact ih1 _)
   | (with_reducible exact ih2 _ _)
   | (with_reducible exact aodv_Encode.mono _ _)
   | (with_reducible exact aodv_Parse.mono _ _)
   | (with_reducible exact aodv_Right.mono _ _ _ _ _ _ _ _ _ _ _ _ _ _ _ _ _ _ _ _ _ _ _ _ _ _)
   | (with_reducible exact roadbooklaw17_awake.mono _)
   | (with_reducible exact roadbookref07_Few.mono _ _ _ _ _ _ _ _ _ _ _ _ _ _ _ _ _ _ _ _ _ _ _ _ _ _)
   | (with_reducible exact roadbookref07_SameAll.mono _ _ _)
   | (with_reducible exact LeO.refl _)
   | (with_reducible exact LeO.none _)
   | (with_reducible refine LeO.ite ?_ ?_)
   | (with_reducible refine LeO.bind ?_ (fun _ => ?_))
   | exact ih0 ..
   | exact ih1 _
   | exact ih2 _ _
   | exact aodv_Encode.mono _ _
   | exact aodv_Parse.mono _ _
   | exact aodv_Right.mono _ _ _ _ _ _ _ _ _ _ _ _ _ _ _ _ _ _ _ _ _ _ _ _ _ _
   | exact roadbooklaw17_awake.mono _
   | exact roadbookref07_Few.mono _ _ _ _ _ _ _ _ _ _ _ _ _ _ _ _ _ _ _ _ _ _ _ _ _ _
   | exact roadbookref07_SameAll.mono _ _ _
   | exact LeO.none _
   | refine LeO.ite ?_ ?_
   | refine LeO.bind ?_ (fun _ => ?_)
theorem roadbooklaw17_AodvBack.mono : ∀ a0 a1 a2 a3 a4 a5 a6 a7 a8 a9 gs gu gv gw gy gz gA gB gC gD gE gF gG gH gI oR k, LeO (roadbooklaw17_AodvBack.f k a0 a1 a2 a3 a4 a5 a6 a7 a8 a9 gs gu gv gw gy gz gA gB gC gD gE gF gG gH gI oR) (roadbooklaw17_AodvBack.f (k + 1) a0 a1 a2 a3 a4 a5 a6 a7 a8 a9 gs gu gv gw gy gz gA gB gC gD gE gF gG gH gI oR) := by
 intro a0 a1 a2 a3 a4 a5 a6 a7 a8 a9 gs gu gv gw gy gz gA gB gC gD gE gF gG gH gI oR k
 obtain ⟨ih0, ih1, ih2⟩ := roadbooklaw17_AodvBack.mono_l k
 unfold roadbooklaw17_AodvBack.f
 repeat' first
   | (with_reducible exact ih0 ..)
   | (with_reducible exact ih1 _)
   | (with_reducible exact ih2 _ _)
   | (with_reducible exact aodv_Encode.mono _ _)
   | (with_reducible exact aodv_Parse.mono _ _)
   | (with_reducible exact aodv_Right.mono _ _ _ _ _ _ _ _ _ _ _ _ _ _ _ _ _ _ _ _ _ _ _ _ _ _)
   | (with_reducible exact roadbooklaw17_awake.mono _)
   | (with_reducible exact roadbookref07_Few.mono _ _ _ _ _ _ _ _ _ _ _ _ _ _ _ _ _ _ _ _ _ _ _ _ _ _)
   | (with_reducible exact roadbookref07_SameAll.mono _ _ _)
   | (with_reducible exact LeO.refl _)
   | (with_reducible exact LeO.none _)
   | (with_reducible refine LeO.ite ?_ ?_)
   | (with_reducible refine LeO.bind ?_ (fun _ => ?_))
   | exact ih0 ..
   | exact ih1 _
   | exact ih2 _ _
   | exact aodv_Encode.mono _ _
   | exact aodv_Parse.mono _ _
   | exact aodv_Right.mono _ _ _ _ _ _ _ _ _ _ _ _ _ _ _ _ _ _ _ _ _ _ _ _ _ _
   | exact roadbooklaw17_awake.mono _
   | exact roadbookref07_Few.mono _ _ _ _ _ _ _ _ _ _ _ _ _ _ _ _ _ _ _ _ _ _ _ _ _ _
   | exact roadbookref07_SameAll.mono _ _ _
   | exact LeO.none _
   | refine LeO.ite ?_ ?_
   | refine LeO.bind ?_ (fun _ => ?_)

set_option maxHeartbeats 8000000 in
set_option maxRecDepth 100000 in
theorem roadbooklaw17_AodvBack.calls (k : Nat) (ax : Int) (av : Int) (aw : Int) (ay : ByteArray) (az : Int) (aH : Int) (aE : ByteArray) (aA : Int) (aD : Int) (aC : ByteArray) (au : Int) (an : ByteArray) (al : Int) (ak : Int) (ar : Int) (af : Int) (ai : Int) (am : Int) (ao : Int) (aa : ByteArray) (ac : ByteArray) (bg : Option Addr) (bb : Nat) (ab : List (S46)) (ap : Int) (aq : ByteArray) (aZ : Option Addr) (ba : Nat) (ah : List (S48)) (a1 : ByteArray) (r : Bool) (w : World) (cf : Kd.C k46 w bg ab.length ab) (cg : ab.length ≤ bb) (ch : Kd.C k48 w aZ ah.length ah) (ci : ah.length ≤ ba) (hr_ : Aside0 (r = true)) (h : roadbooklaw17_AodvBack.f k ax av aw ay az aH aE aA aD aC au an al ak ar af ai am ao aa ac ab ap aq ah a1 = some r) :
  Calls Try.prog 15 #[.agg #[.int .i64 ax, .int .i64 av, .int .i64 aw, .string ay, .int .i64 az, .int .i64 aH, .string aE, .int .i64 aA, .int .i64 aD, .string aC, .int .i64 au, .string an, .int .i64 al, .int .i64 ak, .int .i64 ar, .int .i64 af, .int .i64 ai, .int .i64 am, .int .i64 ao, .string aa, .string ac, .slice bg ab.length bb, .int .i64 ap, .string aq, .slice aZ ah.length ba], .string a1] w fun e w' => e = .returned (.bool r) ∧ Below w.heap.size w w' := by
 have fi := Try.underlying25
 have ed := Aside0.mk cf
 have bM := Aside0.mk cg
 clear cf cg
 have er := Aside0.mk ch
 have br := Aside0.mk ci
 clear ch ci
 have HB := Aside0.mk (Below.refl w.heap.size w)
 have H : ((roadbookref07_Few.f k ax av aw ay az aH aE aA aD aC au an al ak ar af ai am ao aa ac ab ap aq ah).bind fun aM => (if aM = true then (roadbooklaw17_AodvBack.j0 k a1 (decide ((a1.size : Int) > 3000)) ax av aw ay az aH aE aA aD aC au an al ak ar af ai am ao aa ac ab ap aq ah) else (roadbooklaw17_AodvBack.j0 k a1 true ax av aw ay az aH aE aA aD aC au an al ak ar af ai am ao aa ac ab ap aq ah))) = some r := h
 clear h
 have fH := Aside0.mk H
 clear H
 go_enter Try.func15, Try.ntmps15
 go_upto_region 1 with (first | ((with_reducible refine Pre.gate_load 25 rfl ?_); (try (refine gate_guard Z23 ?_; dsimp only)); refine Pre.load_event rfl rfl rfl Z23 Z3 Try.underlying25 rfl Z14 ?_) | ((with_reducible refine gate_dst (N := 2) rfl ?_); (try (refine gate_guard Z23 ?_; dsimp only)); refine Sq.box 2 #[.int .i64 ax, .int .i64 av, .int .i64 aw, .string ay, .int .i64 az, .int .i64 aH, .string aE, .int .i64 aA, .int .i64 aD, .string aC, .int .i64 au, .string an, .int .i64 al, .int .i64 ak, .int .i64 ar, .int .i64 af, .int .i64 ai, .int .i64 am, .int .i64 ao, .string aa, .string ac, .slice bg ab.length bb, .int .i64 ap, .string aq, .slice aZ ah.length ba] 25 ?_; intro ag hg w4 hbox hb; have ae := Aside0.mk (hbox); have cp := Aside0.mk (Sq.ge hg Z1); have bm := Aside0.mk (Sq.ge hg Z1); replace HB := Aside0.mk (below_step Z1 hb); clear hb hbox hg))
 (try simp only [Act.put, Sq.s1, Sq.s2, Sq.s3])
 go_cut [24] (fun ks wc => ∃ (kq : Nat) (jK : Bool), ks = .bool jK ∧ Aside0 (roadbooklaw17_AodvBack.j0 kq a1 jK ax av aw ay az aH aE aA aD aC au an al ak ar af ai am ao aa ac ab ap aq ah = some r) ∧ Aside0 (kq ≤ k) ∧ Aside0 (wc.heap[ag]? = some (.cells #[.int .i64 ax, .int .i64 av, .int .i64 aw, .string ay, .int .i64 az, .int .i64 aH, .string aE, .int .i64 aA, .int .i64 aD, .string aC, .int .i64 au, .string an, .int .i64 al, .int .i64 ak, .int .i64 ar, .int .i64 af, .int .i64 ai, .int .i64 am, .int .i64 ao, .string aa, .string ac, (.slice bg ab.length bb), .int .i64 ap, .string aq, (.slice aZ ah.length ba)] 25 (0, 0))) ∧ Aside0 (Below w.heap.size w wc))
 case first =>
  have H := fH.out
  clear fH
  replace H := Option.bind_eq_some_iff.mp H
  obtain ⟨aM, jc, H⟩ := H
  replace H : (if aM = true then (roadbooklaw17_AodvBack.j0 k a1 (decide ((a1.size : Int) > 3000)) ax av aw ay az aH aE aA aD aC au an al ak ar af ai am ao aa ac ab ap aq ah) else (roadbooklaw17_AodvBack.j0 k a1 true ax av aw ay az aH aE aA aD aC au an al ak ar af ai am ao aa ac ab ap aq ah)) = some r := H
  have A5 := Aside0.mk jc
  clear jc
  by_cases c6 : aM = true
  ·subst c6
   replace H := Sq.itT H
   have H' := Aside0.mk H
   clear H
   have iO := cells_25 ae.out
   go_wp2_with (first | ((with_reducible refine Pre.gate_load 25 rfl ?_); (try (refine gate_guard Z23 ?_; dsimp only)); refine Pre.load_event rfl rfl rfl Z23 Z3 Try.underlying25 rfl Z14 ?_) | ((with_reducible refine gate_callee (f := 16) rfl ?_); refine goesL_ (some 18) rfl rfl Try.func16 Z14 rfl #[.agg #[.int .i64 ax, .int .i64 av, .int .i64 aw, .string ay, .int .i64 az, .int .i64 aH, .string aE, .int .i64 aA, .int .i64 aD, .string aC, .int .i64 au, .string an, .int .i64 al, .int .i64 ak, .int .i64 ar, .int .i64 af, .int .i64 ai, .int .i64 am, .int .i64 ao, .string aa, .string ac, .slice bg ab.length bb, .int .i64 ap, .string aq, .slice aZ ah.length ba]] rfl Z4 ?_; (with_reducible refine (roadbookref07_Few.calls k ax av aw ay az aH aE aA aD aC au an al ak ar af ai am ao aa ac _ _ ab ap aq _ _ ah true _ ?side1 ?side2 ?side3 ?side4 A5.out).mono ?_); (case side1 => exact Z10); (case side2 => exact bM.out); (case side3 => exact Z7); (case side4 => exact br.out); rintro e w8 ⟨rfl, hb⟩; refine ⟨_, rfl, ?_⟩; replace ae := Aside0.mk (blk_below (g := ag) Z2 hb); replace HB := Aside0.mk (below_step Z0 hb); clear hb))
   go_meet
   case rel => exact ⟨_, (decide ((a1.size : Int) > 3000)), Z16, H', ⟨Z39⟩, ⟨Z2⟩, ⟨Z0⟩⟩
  ·replace c6 := Bool.eq_false_iff.mpr c6
   subst c6
   replace H := Sq.itF H
   have H' := Aside0.mk H
   clear H
   have kt := cells_25 ae.out
   go_wp2_with (first | ((with_reducible refine Pre.gate_load 25 rfl ?_); (try (refine gate_guard Z23 ?_; dsimp only)); refine Pre.load_event rfl rfl rfl Z23 Z3 Try.underlying25 rfl Z14 ?_) | ((with_reducible refine gate_callee (f := 16) rfl ?_); refine goesL_ (some 18) rfl rfl Try.func16 Z14 rfl #[.agg #[.int .i64 ax, .int .i64 av, .int .i64 aw, .string ay, .int .i64 az, .int .i64 aH, .string aE, .int .i64 aA, .int .i64 aD, .string aC, .int .i64 au, .string an, .int .i64 al, .int .i64 ak, .int .i64 ar, .int .i64 af, .int .i64 ai, .int .i64 am, .int .i64 ao, .string aa, .string ac, .slice bg ab.length bb, .int .i64 ap, .string aq, .slice aZ ah.length ba]] rfl Z4 ?_; (with_reducible refine (roadbookref07_Few.calls k ax av aw ay az aH aE aA aD aC au an al ak ar af ai am ao aa ac _ _ ab ap aq _ _ ah false _ ?side1 ?side2 ?side3 ?side4 A5.out).mono ?_); (case side1 => exact Z10); (case side2 => exact bM.out); (case side3 => exact Z7); (case side4 => exact br.out); rintro e rN ⟨rfl, hb⟩; refine ⟨_, rfl, ?_⟩; replace ae := Aside0.mk (blk_below (g := ag) Z2 hb); replace HB := Aside0.mk (below_step Z0 hb); clear hb))
   go_meet
   case rel => exact ⟨_, (true), Z16, H', ⟨Z39⟩, ⟨Z2⟩, ⟨Z0⟩⟩
 case rest =>
  clear fH
  try clear c1
  obtain ⟨kq, jK, rfl, HA, rY, ae, HB⟩ := hcut
  cases kq with
  | zero => exact absurd HA.out (by simp [roadbooklaw17_AodvBack.j0])
  | succ kj2 =>
   have H := HA.out
   clear HA
   simp only [roadbooklaw17_AodvBack.j0] at H
   by_cases ee : jK = true
   ·subst ee
    replace H := Sq.itT H
    replace H := Option.bind_eq_some_iff.mp H
    obtain ⟨aW, jd, H⟩ := H
    replace H : (some aW) = some r := H
    have oI := Aside0.mk jd
    clear jd
    obtain rfl := Option.some.inj H
    go_wp2_with (first | ((with_reducible refine Pre.gate_load 25 rfl ?_); (try (refine gate_guard Z23 ?_; dsimp only)); refine Pre.load_event rfl rfl rfl Z23 Z3 Try.underlying25 rfl Z14 ?_) | ((with_reducible refine gate_callee (f := 40) rfl ?_); refine goesL_ (some 25) rfl rfl Try.func40 Z14 rfl #[] rfl Z4 ?_; (with_reducible refine (roadbooklaw17_awake.calls kj2  aW _ (Aside0.mk (by first | rfl | exact hr_.out)) oI.out).mono ?_); rintro e ja ⟨rfl, hb⟩; refine ⟨_, rfl, ?_⟩; replace ae := Aside0.mk (blk_below (g := ag) Z2 hb); replace HB := Aside0.mk (below_step Z0 hb); clear hb))
    go_ret
    exact ⟨Z5, Z0⟩
   ·replace ee := Bool.eq_false_iff.mpr ee
    subst ee
    replace H := Sq.itF H
    obtain ⟨me, hy104⟩ : ∃ y_ : List (S25), y_ = (([(⟨ax, av, aw, ay, az, aH, aE, aA, aD, aC, au, an, al, ak, ar, af, ai, am, ao, aa, ac, ab, ap, aq, ah⟩ : S25)] : List (S25))) := ⟨_, rfl⟩
    replace H : ((aodv_Encode.f kj2 me).bind fun bW => ((aodv_Right.f kj2 ax av aw ay az aH aE aA aD aC au an al ak ar af ai am ao aa ac ab ap aq ah).bind fun bl => (if bl = true then ((aodv_Parse.f kj2 bW.1).bind fun ek => (if bW.2.2 = 0 then (if ek.2.2 = 0 then ((roadbookref07_SameAll.f kj2 ek.1 (([(⟨ax, av, aw, ay, az, aH, aE, aA, aD, aC, au, an, al, ak, ar, af, ai, am, ao, aa, ac, ab, ap, aq, ah⟩ : S25)] : List (S25)))).bind fun cm => (roadbooklaw17_AodvBack.j1 kj2 a1 (!cm))) else (roadbooklaw17_AodvBack.j1 kj2 a1 true)) else (roadbooklaw17_AodvBack.j1 kj2 a1 true))) else (if bW.2.2 = 1 then (if bW.1.toList = ([] : List UInt8) then (roadbooklaw17_AodvBack.j2 kj2 a1) else (some false)) else (some false))))) = some r := by first | (rw [hy104]; with_reducible exact H) | (have H2_ := (Option.bind_some _ _).symm.trans H; rw [hy104]; with_reducible exact H2_) | (have H2_ := (Option.bind_some _ _).symm.trans H; with_reducible exact H2_) | with_reducible exact H | (rw [hy104]; exact H) | exact H
    have Ny104 := Aside0.mk hy104
    clear hy104
    replace H := Option.bind_eq_some_iff.mp H
    obtain ⟨⟨cu, aV, bi⟩, hB, H⟩ := H
    replace H : ((aodv_Right.f kj2 ax av aw ay az aH aE aA aD aC au an al ak ar af ai am ao aa ac ab ap aq ah).bind fun bl => (if bl = true then ((aodv_Parse.f kj2 cu).bind fun ek => (if bi = 0 then (if ek.2.2 = 0 then ((roadbookref07_SameAll.f kj2 ek.1 (([(⟨ax, av, aw, ay, az, aH, aE, aA, aD, aC, au, an, al, ak, ar, af, ai, am, ao, aa, ac, ab, ap, aq, ah⟩ : S25)] : List (S25)))).bind fun cm => (roadbooklaw17_AodvBack.j1 kj2 a1 (!cm))) else (roadbooklaw17_AodvBack.j1 kj2 a1 true)) else (roadbooklaw17_AodvBack.j1 kj2 a1 true))) else (if bi = 1 then (if cu.toList = ([] : List UInt8) then (roadbooklaw17_AodvBack.j2 kj2 a1) else (some false)) else (some false)))) = some r := H
    have nL := Aside0.mk hB
    clear hB
    replace H := Option.bind_eq_some_iff.mp H
    obtain ⟨bl, oS, H⟩ := H
    replace H : (if bl = true then ((aodv_Parse.f kj2 cu).bind fun ek => (if bi = 0 then (if ek.2.2 = 0 then ((roadbookref07_SameAll.f kj2 ek.1 (([(⟨ax, av, aw, ay, az, aH, aE, aA, aD, aC, au, an, al, ak, ar, af, ai, am, ao, aa, ac, ab, ap, aq, ah⟩ : S25)] : List (S25)))).bind fun cm => (roadbooklaw17_AodvBack.j1 kj2 a1 (!cm))) else (roadbooklaw17_AodvBack.j1 kj2 a1 true)) else (roadbooklaw17_AodvBack.j1 kj2 a1 true))) else (if bi = 1 then (if cu.toList = ([] : List UInt8) then (roadbooklaw17_AodvBack.j2 kj2 a1) else (some false)) else (some false))) = some r := H
    have tO := Aside0.mk oS
    clear oS
    have nM := Aside0.mk H
    clear H
    go_upto_if 34 with (first | ((with_reducible refine Pre.gate_load 25 rfl ?_); (try (refine gate_guard Z23 ?_; dsimp only)); refine Pre.load_event rfl rfl rfl Z23 Z3 Try.underlying25 rfl Z14 ?_) | ((with_reducible refine gate_dst (N := 28) rfl ?_); (try (refine gate_guard Z23 ?_; dsimp only)); refine Sq.lit1 (d := k25) (inner := [.int .i64 ax, .int .i64 av, .int .i64 aw, .string ay, .int .i64 az, .int .i64 aH, .string aE, .int .i64 aA, .int .i64 aD, .string aC, .int .i64 au, .string an, .int .i64 al, .int .i64 ak, .int .i64 ar, .int .i64 af, .int .i64 ai, .int .i64 am, .int .i64 ao, .string aa, .string ac, .slice bg ab.length bb, .int .i64 ap, .string aq, .slice aZ ah.length ba]) 25 28 me Ny104.out (k25_mk _ (⟨ax, av, aw, ay, az, aH, aE, aA, aD, aC, au, an, al, ak, ar, af, ai, am, ao, aa, ac, ab, ap, aq, ah⟩ : S25) bM.out Z10 br.out Z7) ?_; intro rZ sa iP ho18 hb; have cd := Aside0.mk ho18; replace ae := Aside0.mk (blk_below (g := ag) Z2 hb); replace HB := Aside0.mk (below_step Z0 hb); clear hb ho18) | ((with_reducible refine gate_callee (f := 47) rfl ?_); refine goesL_ (some 29) rfl rfl Try.func47 Z14 rfl #[.slice rZ me.length sa] rfl Z4 ?_; (with_reducible refine (aodv_Encode.calls kj2 _ _ me cu aV bi _ ?side1 ?side2 nL.out).mono ?_); (case side1 => exact (by repeat (first | exact cd.out.2 | (with_reducible refine Kd.C_alloc ?_ _) | (with_reducible refine Kd.C_drewN ?_ _) | (with_reducible refine Kd.C_drew ?_)))); (case side2 => exact cd.out.1); rintro e jL ⟨rfl, hb⟩; refine ⟨_, rfl, ?_⟩; replace cd := Aside0.mk (And.intro cd.out.1 (Kd.C_below Z63 hb)); replace ae := Aside0.mk (blk_below (g := ag) Z2 hb); replace HB := Aside0.mk (below_step Z0 hb); clear hb; have iF := cells_25 ae.out) | ((with_reducible refine gate_callee (f := 45) rfl ?_); refine goesL_ (some 34) rfl rfl Try.func45 Z14 rfl #[.agg #[.int .i64 ax, .int .i64 av, .int .i64 aw, .string ay, .int .i64 az, .int .i64 aH, .string aE, .int .i64 aA, .int .i64 aD, .string aC, .int .i64 au, .string an, .int .i64 al, .int .i64 ak, .int .i64 ar, .int .i64 af, .int .i64 ai, .int .i64 am, .int .i64 ao, .string aa, .string ac, .slice bg ab.length bb, .int .i64 ap, .string aq, .slice aZ ah.length ba]] rfl Z4 ?_; (with_reducible refine (aodv_Right.calls kj2 ax av aw ay az aH aE aA aD aC au an al ak ar af ai am ao aa ac _ _ ab ap aq _ _ ah bl _ ?side1 ?side2 ?side3 ?side4 tO.out).mono ?_); (case side1 => exact Z10); (case side2 => exact bM.out); (case side3 => exact Z7); (case side4 => exact br.out); rintro e mN ⟨rfl, hb⟩; refine ⟨_, rfl, ?_⟩; replace cd := Aside0.mk (And.intro cd.out.1 (Kd.C_below Z63 hb)); replace ae := Aside0.mk (blk_below (g := ag) Z2 hb); replace HB := Aside0.mk (below_step Z0 hb); clear hb))
    (try simp only [Act.put, Sq.s1, Sq.s2, Sq.s3])
    go_cut [] (fun wc => ∃ (kq : Nat), Aside0 (roadbooklaw17_AodvBack.j2 kq a1 = some r) ∧ Aside0 (kq ≤ kj2) ∧ Aside0 (wc.heap[ag]? = some (.cells #[.int .i64 ax, .int .i64 av, .int .i64 aw, .string ay, .int .i64 az, .int .i64 aH, .string aE, .int .i64 aA, .int .i64 aD, .string aC, .int .i64 au, .string an, .int .i64 al, .int .i64 ak, .int .i64 ar, .int .i64 af, .int .i64 ai, .int .i64 am, .int .i64 ao, .string aa, .string ac, (.slice bg ab.length bb), .int .i64 ap, .string aq, (.slice aZ ah.length ba)] 25 (0, 0))) ∧ Aside0 (Below w.heap.size w wc))
    case first =>
     have H := nM.out
     clear nM
     by_cases lZ : bl = true
     ·subst lZ
      replace H := Sq.itT H
      replace H := Option.bind_eq_some_iff.mp H
      obtain ⟨⟨cK, cT, cn⟩, kM, H⟩ := H
      replace H : (if bi = 0 then (if cn = 0 then ((roadbookref07_SameAll.f kj2 cK (([(⟨ax, av, aw, ay, az, aH, aE, aA, aD, aC, au, an, al, ak, ar, af, ai, am, ao, aa, ac, ab, ap, aq, ah⟩ : S25)] : List (S25)))).bind fun cm => (roadbooklaw17_AodvBack.j1 kj2 a1 (!cm))) else (roadbooklaw17_AodvBack.j1 kj2 a1 true)) else (roadbooklaw17_AodvBack.j1 kj2 a1 true)) = some r := H
      have eN := Aside0.mk kM
      clear kM
      have nN := Aside0.mk H
      clear H
      go_upto_region 6 with (first | ((with_reducible refine Pre.gate_load 25 rfl ?_); (try (refine gate_guard Z23 ?_; dsimp only)); refine Pre.load_event rfl rfl rfl Z23 Z3 Try.underlying25 rfl Z14 ?_) | ((with_reducible refine gate_callee (f := 41) rfl ?_); refine goesL_ (some 37) rfl rfl Try.func41 Z14 rfl #[.string cu] rfl Z4 ?_; (with_reducible refine (aodv_Parse.calls kj2 cu cK cT cn _ eN.out).mono ?_); rintro e jM ⟨oT, rfl, ho0, hb⟩; refine ⟨_, rfl, ?_⟩; have fP := Aside0.mk (Kd.N_lower (Kd.N_mono (ok' := fun k_ => True ∧ k_ ≠ ag) ho0 (fun k_ hk_ => ⟨trivial, (Kd.freshB (g := ag) (o := .cells #[.int .i64 ax, .int .i64 av, .int .i64 aw, .string ay, .int .i64 az, .int .i64 aH, .string aE, .int .i64 aA, .int .i64 aD, .string aC, .int .i64 au, .string an, .int .i64 al, .int .i64 ak, .int .i64 ar, .int .i64 af, .int .i64 ai, .int .i64 am, .int .i64 ao, .string aa, .string ac, .slice bg ab.length bb, .int .i64 ap, .string aq, .slice aZ ah.length ba] 25 (0, 0)) Z2 k_ hk_)⟩)) (below_size Z0)); replace cd := Aside0.mk (And.intro cd.out.1 (Kd.C_below Z63 hb)); replace ae := Aside0.mk (blk_below (g := ag) Z2 hb); replace HB := Aside0.mk (below_step Z0 hb); clear hb ho0))
      (try simp only [Act.put, Sq.s1, Sq.s2, Sq.s3])
      go_cut [53] (fun tP wc => ∃ (kq : Nat) (iQ : Bool), tP = .bool iQ ∧ Aside0 (roadbooklaw17_AodvBack.j1 kq a1 iQ = some r) ∧ Aside0 (kq ≤ kj2) ∧ Aside0 (wc.heap[ag]? = some (.cells #[.int .i64 ax, .int .i64 av, .int .i64 aw, .string ay, .int .i64 az, .int .i64 aH, .string aE, .int .i64 aA, .int .i64 aD, .string aC, .int .i64 au, .string an, .int .i64 al, .int .i64 ak, .int .i64 ar, .int .i64 af, .int .i64 ai, .int .i64 am, .int .i64 ao, .string aa, .string ac, (.slice bg ab.length bb), .int .i64 ap, .string aq, (.slice aZ ah.length ba)] 25 (0, 0))) ∧ Aside0 (Below w.heap.size w wc))
      case first =>
       have H := nN.out
       clear nN
       by_cases iG : bi = 0
       ·rw [if_pos iG] at H
        have hf : (bi == 0) = true := beq_iff_eq.mpr iG
        have jN : (bi != 0) = false := bne_eq_false_iff_eq.mpr iG
        clear iG
        (first | rw [hf] | (simp only [i64_w, i32_w]; rw [hf]) | skip)
        by_cases mf : cn = 0
        ·rw [if_pos mf] at H
         have oU : (cn == 0) = true := beq_iff_eq.mpr mf
         have oV : (cn != 0) = false := bne_eq_false_iff_eq.mpr mf
         clear mf
         obtain ⟨nO, hy116⟩ : ∃ y_ : List (S25), y_ = (([(⟨ax, av, aw, ay, az, aH, aE, aA, aD, aC, au, an, al, ak, ar, af, ai, am, ao, aa, ac, ab, ap, aq, ah⟩ : S25)] : List (S25))) := ⟨_, rfl⟩
         replace H : ((roadbookref07_SameAll.f kj2 cK nO).bind fun cm => (roadbooklaw17_AodvBack.j1 kj2 a1 (!cm))) = some r := by first | (rw [hy116]; with_reducible exact H) | (have H2_ := (Option.bind_some _ _).symm.trans H; rw [hy116]; with_reducible exact H2_) | (have H2_ := (Option.bind_some _ _).symm.trans H; with_reducible exact H2_) | with_reducible exact H | (rw [hy116]; exact H) | exact H
         have Ny116 := Aside0.mk hy116
         clear hy116
         replace H := Option.bind_eq_some_iff.mp H
         obtain ⟨cm, kN, H⟩ := H
         replace H : (roadbooklaw17_AodvBack.j1 kj2 a1 (!cm)) = some r := H
         have sb := Aside0.mk kN
         clear kN
         have H' := Aside0.mk H
         clear H
         go_wp2_with (first | ((with_reducible refine Pre.gate_load 25 rfl ?_); (try (refine gate_guard Z23 ?_; dsimp only)); refine Pre.load_event rfl rfl rfl Z23 Z3 Try.underlying25 rfl Z14 ?_) | ((with_reducible refine gate_dst (N := 50) rfl ?_); (try (refine gate_guard Z23 ?_; dsimp only)); refine Sq.lit1 (d := k25) (inner := [.int .i64 ax, .int .i64 av, .int .i64 aw, .string ay, .int .i64 az, .int .i64 aH, .string aE, .int .i64 aA, .int .i64 aD, .string aC, .int .i64 au, .string an, .int .i64 al, .int .i64 ak, .int .i64 ar, .int .i64 af, .int .i64 ai, .int .i64 am, .int .i64 ao, .string aa, .string ac, .slice bg ab.length bb, .int .i64 ap, .string aq, .slice aZ ah.length ba]) 25 50 nO Ny116.out (k25_mk _ (⟨ax, av, aw, ay, az, aH, aE, aA, aD, aC, au, an, al, ak, ar, af, ai, am, ao, aa, ac, ab, ap, aq, ah⟩ : S25) bM.out Z10 br.out Z7) ?_; intro Ao33 co33 sc ho31 hb; have je := Aside0.mk ho31; replace cd := Aside0.mk (And.intro cd.out.1 (Kd.C_below Z63 hb)); replace fP := Aside0.mk (Kd.N_below (by (with_reducible repeat (first | apply Kd.N_alloc | apply Kd.N_drewN | apply Kd.N_drew)); exact fP.out) hb); replace ae := Aside0.mk (blk_below (g := ag) Z2 hb); replace HB := Aside0.mk (below_step Z0 hb); clear hb ho31; obtain ⟨Ao32, co32, eo32⟩ := Kd.N_slice fP.out; subst eo32) | (go_at_call 43; (with_reducible refine (roadbookref07_SameAll.calls kj2 _ _ cK _ _ nO cm _ ?side1 ?side2 ?side3 ?side4 sb.out).mono ?_); (case side1 => exact (by repeat (first | exact (Kd.N_reads' fP.out).2.2 | (with_reducible refine Kd.C_alloc ?_ _) | (with_reducible refine Kd.C_drewN ?_ _) | (with_reducible refine Kd.C_drew ?_)))); (case side2 => exact (Kd.N_reads' fP.out).2.1); (case side3 => exact (by repeat (first | exact je.out.2 | (with_reducible refine Kd.C_alloc ?_ _) | (with_reducible refine Kd.C_drewN ?_ _) | (with_reducible refine Kd.C_drew ?_)))); (case side4 => exact je.out.1); rintro e tQ ⟨rfl, hb⟩; replace cd := Aside0.mk (And.intro cd.out.1 (Kd.C_below Z63 hb)); replace fP := Aside0.mk (Kd.N_below (by (with_reducible repeat (first | apply Kd.N_alloc | apply Kd.N_drewN | apply Kd.N_drew)); exact fP.out) hb); replace je := Aside0.mk (And.intro je.out.1 (Kd.C_below (by (with_reducible repeat (first | refine Kd.C_alloc ?_ _ | refine Kd.C_drewN ?_ _ | refine Kd.C_drew ?_)); exact je.out.2) hb)); replace ae := Aside0.mk (blk_below (g := ag) Z2 hb); replace HB := Aside0.mk (below_step Z0 hb); clear hb))
         go_meet
         case rel => exact ⟨_, (!cm), Z16, H', ⟨Z101⟩, ⟨Z2⟩, ⟨Z0⟩⟩
        ·rw [if_neg mf] at H
         have oU : (cn == 0) = false := beq_eq_false_iff_ne.mpr mf
         have oV : (cn != 0) = true := bne_iff_ne.mpr mf
         have H' := Aside0.mk H
         clear H
         go_wp2_with (first | ((with_reducible refine Pre.gate_load 25 rfl ?_); (try (refine gate_guard Z23 ?_; dsimp only)); refine Pre.load_event rfl rfl rfl Z23 Z3 Try.underlying25 rfl Z14 ?_))
         go_meet
         case rel => exact ⟨_, (true), Z16, H', ⟨Z101⟩, ⟨Z2⟩, ⟨Z0⟩⟩
       ·rw [if_neg iG] at H
        have hf : (bi == 0) = false := beq_eq_false_iff_ne.mpr iG
        have jN : (bi != 0) = true := bne_iff_ne.mpr iG
        (first | rw [hf] | (simp only [i64_w, i32_w]; rw [hf]) | skip)
        have H' := Aside0.mk H
        clear H
        go_wp2_with (first | ((with_reducible refine Pre.gate_load 25 rfl ?_); (try (refine gate_guard Z23 ?_; dsimp only)); refine Pre.load_event rfl rfl rfl Z23 Z3 Try.underlying25 rfl Z14 ?_))
        go_meet
        case rel => exact ⟨_, (true), Z16, H', ⟨Z101⟩, ⟨Z2⟩, ⟨Z0⟩⟩
      case rest =>
       clear nN
       try clear c1
       try clear c2
       try clear p2
       try clear c4
       try clear c6
       try clear ee
       try clear eB
       try clear fL
       try clear lZ
       try clear iF
       try clear iO
       try clear kt
       obtain ⟨kq, iQ, rfl, HA, sd, ae, HB⟩ := hcut
       cases kq with
       | zero => exact absurd HA.out (by simp [roadbooklaw17_AodvBack.j1])
       | succ kj24 =>
        have H := HA.out
        clear HA
        simp only [roadbooklaw17_AodvBack.j1] at H
        by_cases rO : iQ = true
        ·subst rO
         replace H := Sq.itT H
         exact absurd (Option.some.inj H) Z59
        ·replace rO := Bool.eq_false_iff.mpr rO
         subst rO
         replace H := Sq.itF H
         have H' := Aside0.mk H
         clear H
         go_wp2_with (first | ((with_reducible refine Pre.gate_load 25 rfl ?_); (try (refine gate_guard Z23 ?_; dsimp only)); refine Pre.load_event rfl rfl rfl Z23 Z3 Try.underlying25 rfl Z14 ?_))
         go_meet
         case rel => exact ⟨_, H', ⟨by have := rY.out; have := sd.out; first | omega | exact Nat.le_refl _⟩, ⟨Z2⟩, ⟨Z0⟩⟩
     ·replace lZ := Bool.eq_false_iff.mpr lZ
      subst lZ
      replace H := Sq.itF H
      by_cases jf : bi = 1
      ·rw [if_pos jf] at H
       have oW : (bi == 1) = true := beq_iff_eq.mpr jf
       have oX : (bi != 1) = false := bne_eq_false_iff_eq.mpr jf
       clear jf
       by_cases kH : cu.toList = ([] : List UInt8)
       ·rw [if_pos kH] at H
        have oY : (cu.toList == ([] : List UInt8)) = true := beq_iff_eq.mpr kH
        have oZ : (cu.toList != ([] : List UInt8)) = false := bne_eq_false_iff_eq.mpr kH
        clear kH
        have H' := Aside0.mk H
        clear H
        go_wp2_with (first | ((with_reducible refine Pre.gate_load 25 rfl ?_); (try (refine gate_guard Z23 ?_; dsimp only)); refine Pre.load_event rfl rfl rfl Z23 Z3 Try.underlying25 rfl Z14 ?_))
        go_meet
        case rel => exact ⟨_, H', ⟨Z101⟩, ⟨Z2⟩, ⟨Z0⟩⟩
       ·rw [if_neg kH] at H
        have oY : (cu.toList == ([] : List UInt8)) = false := beq_eq_false_iff_ne.mpr kH
        have oZ : (cu.toList != ([] : List UInt8)) = true := bne_iff_ne.mpr kH
        exact absurd (Option.some.inj H) Z59
      ·rw [if_neg jf] at H
       have oW : (bi == 1) = false := beq_eq_false_iff_ne.mpr jf
       have oX : (bi != 1) = true := bne_iff_ne.mpr jf
       exact absurd (Option.some.inj H) Z59
    case rest =>
     clear nM
     try clear c1
     try clear p2
     try clear c4
     try clear c6
     try clear ee
     try clear eB
     try clear fL
     try clear iF
     try clear iO
     try clear kt
     obtain ⟨kq, HA, HJ15, ae, HB⟩ := hcut
     cases kq with
     | zero => exact absurd HA.out (by simp [roadbooklaw17_AodvBack.j2])
     | succ kj15 =>
      have H := HA.out
      clear HA
      simp only [roadbooklaw17_AodvBack.j2] at H
      replace H := Option.bind_eq_some_iff.mp H
      obtain ⟨⟨co, df, gh⟩, pa, H⟩ := H
      replace H : (if gh = 0 then ((aodv_Encode.f kj15 co).bind fun jb => ((roadbooklaw17_awake.f kj15).bind fun eM => (if eM = true then (if jb.2.2 = 0 then (if jb.1.toList = a1.toList then (some ((co.length : Int) == 1)) else (some false)) else (some false)) else (some false)))) else ((roadbooklaw17_awake.f kj15).bind fun eI => (if eI = true then (if (co.length : Int) = 0 then (if df ≥ 0 then (some (decide (df ≤ (a1.size : Int)))) else (some false)) else (some false)) else (some false)))) = some r := H
      have sR := Aside0.mk pa
      clear pa
      by_cases nP : gh = 0
      ·rw [if_pos nP] at H
       have pb : (gh == 0) = true := beq_iff_eq.mpr nP
       have pc : (gh != 0) = false := bne_eq_false_iff_eq.mpr nP
       clear nP
       replace H := Option.bind_eq_some_iff.mp H
       obtain ⟨⟨ej, de, ef⟩, pd, H⟩ := H
       replace H : ((roadbooklaw17_awake.f kj15).bind fun eM => (if eM = true then (if ef = 0 then (if ej.toList = a1.toList then (some ((co.length : Int) == 1)) else (some false)) else (some false)) else (some false))) = some r := H
       have ku := Aside0.mk pd
       clear pd
       replace H := Option.bind_eq_some_iff.mp H
       obtain ⟨eM, pe, H⟩ := H
       replace H : (if eM = true then (if ef = 0 then (if ej.toList = a1.toList then (some ((co.length : Int) == 1)) else (some false)) else (some false)) else (some false)) = some r := H
       have tR := Aside0.mk pe
       clear pe
       by_cases rP : eM = true
       ·subst rP
        replace H := Sq.itT H
        by_cases mO : ef = 0
        ·rw [if_pos mO] at H
         have pf : (ef == 0) = true := beq_iff_eq.mpr mO
         have pg : (ef != 0) = false := bne_eq_false_iff_eq.mpr mO
         clear mO
         by_cases nQ : ej.toList = a1.toList
         ·rw [if_pos nQ] at H
          have ph : (ej.toList == a1.toList) = true := beq_iff_eq.mpr nQ
          have pi : (ej.toList != a1.toList) = false := bne_eq_false_iff_eq.mpr nQ
          clear nQ
          obtain rfl := Option.some.inj H
          go_wp2_with (first | ((with_reducible refine Pre.gate_load 25 rfl ?_); (try (refine gate_guard Z23 ?_; dsimp only)); refine Pre.load_event rfl rfl rfl Z23 Z3 Try.underlying25 rfl Z14 ?_) | ((with_reducible refine gate_callee (f := 41) rfl ?_); refine goesL_ (some 62) rfl rfl Try.func41 Z14 rfl #[.string a1] rfl Z4 ?_; (with_reducible refine (aodv_Parse.calls kj15 a1 co df gh _ sR.out).mono ?_); rintro e w45 ⟨se, rfl, ho0, hb⟩; refine ⟨_, rfl, ?_⟩; have gJ := Aside0.mk (Kd.N_lower (Kd.N_mono (ok' := fun k_ => k_ ≠ ag) ho0 (fun k_ hk_ => (Kd.freshB (g := ag) (o := .cells #[.int .i64 ax, .int .i64 av, .int .i64 aw, .string ay, .int .i64 az, .int .i64 aH, .string aE, .int .i64 aA, .int .i64 aD, .string aC, .int .i64 au, .string an, .int .i64 al, .int .i64 ak, .int .i64 ar, .int .i64 af, .int .i64 ai, .int .i64 am, .int .i64 ao, .string aa, .string ac, .slice bg ab.length bb, .int .i64 ap, .string aq, .slice aZ ah.length ba] 25 (0, 0)) Z2 k_ hk_))) (below_size Z0)); replace ae := Aside0.mk (blk_below (g := ag) Z2 hb); replace HB := Aside0.mk (below_step Z0 hb); clear hb ho0; obtain ⟨sf, sg, eo46⟩ := Kd.N_slice gJ.out; subst eo46) | ((with_reducible refine gate_callee (f := 47) rfl ?_); refine goesL_ (some 86) rfl rfl Try.func47 Z14 rfl #[.slice sf co.length sg] rfl Z4 ?_; (with_reducible refine (aodv_Encode.calls kj15 _ _ co ej de ef _ ?side1 ?side2 ku.out).mono ?_); (case side1 => exact (by repeat (first | exact (Kd.N_reads' gJ.out).2.2 | (with_reducible refine Kd.C_alloc ?_ _) | (with_reducible refine Kd.C_drewN ?_ _) | (with_reducible refine Kd.C_drew ?_)))); (case side2 => exact (Kd.N_reads' gJ.out).2.1); rintro e w47 ⟨rfl, hb⟩; refine ⟨_, rfl, ?_⟩; replace gJ := Aside0.mk (Kd.N_below Z90 hb); replace ae := Aside0.mk (blk_below (g := ag) Z2 hb); replace HB := Aside0.mk (below_step Z0 hb); clear hb) | ((with_reducible refine gate_callee (f := 40) rfl ?_); refine goesL_ (some 90) rfl rfl Try.func40 Z14 rfl #[] rfl Z4 ?_; (with_reducible refine (roadbooklaw17_awake.calls kj15  true _ (Aside0.mk (by first | rfl | exact hr_.out)) tR.out).mono ?_); rintro e pj ⟨rfl, hb⟩; refine ⟨_, rfl, ?_⟩; replace gJ := Aside0.mk (Kd.N_below Z90 hb); replace ae := Aside0.mk (blk_below (g := ag) Z2 hb); replace HB := Aside0.mk (below_step Z0 hb); clear hb))
          go_ret
          exact ⟨Z5, Z0⟩
         ·rw [if_neg nQ] at H
          have ph : (ej.toList == a1.toList) = false := beq_eq_false_iff_ne.mpr nQ
          have pi : (ej.toList != a1.toList) = true := bne_iff_ne.mpr nQ
          exact absurd (Option.some.inj H) Z59
        ·rw [if_neg mO] at H
         have pf : (ef == 0) = false := beq_eq_false_iff_ne.mpr mO
         have pg : (ef != 0) = true := bne_iff_ne.mpr mO
         exact absurd (Option.some.inj H) Z59
       ·replace rP := Bool.eq_false_iff.mpr rP
        subst rP
        replace H := Sq.itF H
        exact absurd (Option.some.inj H) Z59
      ·rw [if_neg nP] at H
       have pb : (gh == 0) = false := beq_eq_false_iff_ne.mpr nP
       have pc : (gh != 0) = true := bne_iff_ne.mpr nP
       replace H := Option.bind_eq_some_iff.mp H
       obtain ⟨eI, pk, H⟩ := H
       replace H : (if eI = true then (if (co.length : Int) = 0 then (if df ≥ 0 then (some (decide (df ≤ (a1.size : Int)))) else (some false)) else (some false)) else (some false)) = some r := H
       have tS := Aside0.mk pk
       clear pk
       by_cases rQ : eI = true
       ·subst rQ
        replace H := Sq.itT H
        by_cases mP : (co.length : Int) = 0
        ·rw [if_pos mP] at H
         have pl : ((co.length : Int) == 0) = true := beq_iff_eq.mpr mP
         have pm : ((co.length : Int) != 0) = false := bne_eq_false_iff_eq.mpr mP
         clear mP
         by_cases oJ : df ≥ 0
         ·rw [if_pos oJ] at H
          have pn : decide (0 ≤ df) = true := decide_eq_true oJ
          clear oJ
          obtain rfl := Option.some.inj H
          go_wp2_with (first | ((with_reducible refine Pre.gate_load 25 rfl ?_); (try (refine gate_guard Z23 ?_; dsimp only)); refine Pre.load_event rfl rfl rfl Z23 Z3 Try.underlying25 rfl Z14 ?_) | ((with_reducible refine gate_callee (f := 41) rfl ?_); refine goesL_ (some 62) rfl rfl Try.func41 Z14 rfl #[.string a1] rfl Z4 ?_; (with_reducible refine (aodv_Parse.calls kj15 a1 co df gh _ sR.out).mono ?_); rintro e tT ⟨se, rfl, ho0, hb⟩; refine ⟨_, rfl, ?_⟩; have gJ := Aside0.mk (Kd.N_lower (Kd.N_mono (ok' := fun k_ => k_ ≠ ag) ho0 (fun k_ hk_ => (Kd.freshB (g := ag) (o := .cells #[.int .i64 ax, .int .i64 av, .int .i64 aw, .string ay, .int .i64 az, .int .i64 aH, .string aE, .int .i64 aA, .int .i64 aD, .string aC, .int .i64 au, .string an, .int .i64 al, .int .i64 ak, .int .i64 ar, .int .i64 af, .int .i64 ai, .int .i64 am, .int .i64 ao, .string aa, .string ac, .slice bg ab.length bb, .int .i64 ap, .string aq, .slice aZ ah.length ba] 25 (0, 0)) Z2 k_ hk_))) (below_size Z0)); replace ae := Aside0.mk (blk_below (g := ag) Z2 hb); replace HB := Aside0.mk (below_step Z0 hb); clear hb ho0) | ((with_reducible refine gate_callee (f := 40) rfl ?_); refine goesL_ (some 68) rfl rfl Try.func40 Z14 rfl #[] rfl Z4 ?_; (with_reducible refine (roadbooklaw17_awake.calls kj15  true _ (Aside0.mk (by first | rfl | exact hr_.out)) tS.out).mono ?_); rintro e w54 ⟨rfl, hb⟩; refine ⟨_, rfl, ?_⟩; replace gJ := Aside0.mk (Kd.N_below Z90 hb); replace ae := Aside0.mk (blk_below (g := ag) Z2 hb); replace HB := Aside0.mk (below_step Z0 hb); clear hb; obtain ⟨Ao55, co55, eo55⟩ := Kd.N_slice gJ.out; subst eo55))
          go_ret
          exact ⟨Z5, Z0⟩
         ·rw [if_neg oJ] at H
          have pn : decide (0 ≤ df) = false := decide_eq_false oJ
          clear oJ
          exact absurd (Option.some.inj H) Z59
        ·rw [if_neg mP] at H
         have pl : ((co.length : Int) == 0) = false := beq_eq_false_iff_ne.mpr mP
         have pm : ((co.length : Int) != 0) = true := bne_iff_ne.mpr mP
         have c51b2 : ¬ (co = []) := fun h_ => mP (by rw [h_]; rfl)
         exact absurd (Option.some.inj H) Z59
       ·replace rQ := Bool.eq_false_iff.mpr rQ
        subst rQ
        replace H := Sq.itF H
        exact absurd (Option.some.inj H) Z59

end Go.Proofs.Ytccjakjjaemmkaa.PAB
