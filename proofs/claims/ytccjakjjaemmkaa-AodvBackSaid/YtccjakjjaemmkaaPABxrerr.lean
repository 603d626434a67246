-- Written by mp.py, a program of this work (wip/tools), out of the translation; Lean checks it.
import Derived.Test.YtccjakjjaemmkaaPABxZ
import Derived.Test.YtccjakjjaemmkaaPABxext
import Derived.Test.YtccjakjjaemmkaaPABxmsgBare
import Derived.Test.YtccjakjjaemmkaaPABxoctet
import Derived.Test.YtccjakjjaemmkaaLoad
namespace Go.Proofs.Ytccjakjjaemmkaa.PAB
open Go.RowKit Go.Proofs.YtccjakjjaemmkaaW.PrintWords Go.Proofs.YtccjakjjaemmkaaW.PrintLast Go.Proofs.YtccjakjjaemmkaaW.PrintMore
attribute [local go_sem] max2_int min2_int max_two min_two max_three min_three max_four min_four   -- for this text's walks alone
set_option linter.unusedVariables false
set_option linter.unusedSimpArgs false

/-! ### rerr_Right: function 28 -/
mutual
def rerr_Right.j0 : Nat → Bool → Int → Int → Int → ByteArray → Int → Int → ByteArray → Int → Int → ByteArray → Int → ByteArray → Int → Int → Int → Int → Int → Int → Int → ByteArray → ByteArray → List (S46) → Int → ByteArray → List (S48) → Option (Bool)
 | 0, _, _, _, _, _, _, _, _, _, _, _, _, _, _, _, _, _, _, _, _, _, _, _, _, _, _ => none
 | k + 1, sp, bB, bN, bO, bP, bQ, bR, bS, bC, bT, bU, bV, bI, bw, bD, bE, bx, bA, bF, bJ, bG, bH, bs, bK, bL, bp => if sp = true then (some false) else (rerr_Right.l0 k bs (bs.length : Int) 0 bB bN bO bP bQ bR bS bC bT bU bV bI bw bD bE bx bA bF bJ bG bH bs bK bL bp)
def rerr_Right.l0 : Nat → List (S46) → Int → Int → Int → Int → Int → ByteArray → Int → Int → ByteArray → Int → Int → ByteArray → Int → ByteArray → Int → Int → Int → Int → Int → Int → Int → ByteArray → ByteArray → List (S46) → Int → ByteArray → List (S48) → Option (Bool)
 | 0, _, _, _, _, _, _, _, _, _, _, _, _, _, _, _, _, _, _, _, _, _, _, _, _, _, _, _, _ => none
 | k + 1, rV, tC, oM, bB, bN, bO, bP, bQ, bR, bS, bC, bT, bU, bV, bI, bw, bD, bE, bx, bA, bF, bJ, bG, bH, bs, bK, bL, bp => if oM < tC then (if 0 ≤ oM then (if oM < (rV.length : Int) then (if (((rd_T46 rV oM).f0).size : Int) = 4 then ((octet_Fits.f ((rd_T46 rV oM).f1) 4).bind fun bq => (if bq = true then (rerr_Right.l0 k rV tC (wrap64 (oM + 1)) bB bN bO bP bQ bR bS bC bT bU bV bI bw bD bE bx bA bF bJ bG bH bs bK bL bp) else (some false))) else (some false)) else (none)) else (none)) else ((ext_Right.f k bp).bind fun aT => (some aT))
end
def rerr_Right.f (k : Nat) (ax : Int) (av : Int) (aw : Int) (ay : ByteArray) (az : Int) (aH : Int) (aE : ByteArray) (aA : Int) (aD : Int) (aC : ByteArray) (au : Int) (an : ByteArray) (al : Int) (ak : Int) (ar : Int) (af : Int) (ai : Int) (am : Int) (ao : Int) (aa : ByteArray) (ac : ByteArray) (ab : List (S46)) (ap : Int) (aq : ByteArray) (ah : List (S48)) : Option (Bool) := if ax = 5 then ((msg_Bare.f ax av aw ay az aH aE aA aD aC au an al ak ar af ai am ao aa ac ab ap aq ah).bind fun aM => (if aM = true then (if af = 0 then (if (ab.length : Int) = 0 then (rerr_Right.j0 k true ax av aw ay az aH aE aA aD aC au an al ak ar af ai am ao aa ac ab ap aq ah) else (rerr_Right.j0 k (decide ((ab.length : Int) > 255)) ax av aw ay az aH aE aA aD aC au an al ak ar af ai am ao aa ac ab ap aq ah)) else (if af = 1 then (if (ab.length : Int) = 0 then (rerr_Right.j0 k true ax av aw ay az aH aE aA aD aC au an al ak ar af ai am ao aa ac ab ap aq ah) else (rerr_Right.j0 k (decide ((ab.length : Int) > 255)) ax av aw ay az aH aE aA aD aC au an al ak ar af ai am ao aa ac ab ap aq ah)) else (rerr_Right.j0 k true ax av aw ay az aH aE aA aD aC au an al ak ar af ai am ao aa ac ab ap aq ah))) else (rerr_Right.j0 k true ax av aw ay az aH aE aA aD aC au an al ak ar af ai am ao aa ac ab ap aq ah))) else (rerr_Right.j0 k true ax av aw ay az aH aE aA aD aC au an al ak ar af ai am ao aa ac ab ap aq ah)
theorem rerr_Right.mono_l : ∀ k, (∀ y0 y1 y2 y3 y4 y5 y6 y7 y8 y9 fr fs ft fu fv fw fx fy fz fA fB fC fD fE fF fG, LeO (rerr_Right.j0 k y0 y1 y2 y3 y4 y5 y6 y7 y8 y9 fr fs ft fu fv fw fx fy fz fA fB fC fD fE fF fG) (rerr_Right.j0 (k + 1) y0 y1 y2 y3 y4 y5 y6 y7 y8 y9 fr fs ft fu fv fw fx fy fz fA fB fC fD fE fF fG)) ∧ (∀ y0 y1 y2 y3 y4 y5 y6 y7 y8 y9 fr fs ft fu fv fw fx fy fz fA fB fC fD fE fF fG iE jh, LeO (rerr_Right.l0 k y0 y1 y2 y3 y4 y5 y6 y7 y8 y9 fr fs ft fu fv fw fx fy fz fA fB fC fD fE fF fG iE jh) (rerr_Right.l0 (k + 1) y0 y1 y2 y3 y4 y5 y6 y7 y8 y9 fr fs ft fu fv fw fx fy fz fA fB fC fD fE fF fG iE jh))
 | 0 => ⟨Sq.mz, Sq.mz⟩
 | k + 1 => by
  obtain ⟨ih0, ih1⟩ := rerr_Right.mono_l k
  refine ⟨?_, ?_⟩
  ·intros
   unfold rerr_Right.j0
   have m0 := ext_Right.mono
   exact Sq.mo
  ·intros
   unfold rerr_Right.l0
   have m0 := ext_Right.mono
   exact Sq.mo
theorem rerr_Right.mono : ∀ a0 a1 a2 a3 a4 a5 a6 a7 a8 a9 gs gu gv gw gy gz gA gB gC gD gE gF gG gH gI k, LeO (rerr_Right.f k a0 a1 a2 a3 a4 a5 a6 a7 a8 a9 gs gu gv gw gy gz gA gB gC gD gE gF gG gH gI) (rerr_Right.f (k + 1) a0 a1 a2 a3 a4 a5 a6 a7 a8 a9 gs gu gv gw gy gz gA gB gC gD gE gF gG gH gI) := by
 intros
 rename_i k
 obtain ⟨ih0, ih1⟩ := rerr_Right.mono_l k
 unfold rerr_Right.f
 have m0 := ext_Right.mono
 exact Sq.mo

set_option maxHeartbeats 8000000 in
set_option maxRecDepth 100000 in
theorem rerr_Right.calls (k : Nat) (ax : Int) (av : Int) (aw : Int) (ay : ByteArray) (az : Int) (aH : Int) (aE : ByteArray) (aA : Int) (aD : Int) (aC : ByteArray) (au : Int) (an : ByteArray) (al : Int) (ak : Int) (ar : Int) (af : Int) (ai : Int) (am : Int) (ao : Int) (aa : ByteArray) (ac : ByteArray) (bg : Option Addr) (bb : Nat) (ab : List (S46)) (ap : Int) (aq : ByteArray) (aZ : Option Addr) (ba : Nat) (ah : List (S48)) (r : Bool) (w : World) (cf : Kd.C k46 w bg ab.length ab) (cg : ab.length ≤ bb) (ch : Kd.C k48 w aZ ah.length ah) (ci : ah.length ≤ ba) (h : rerr_Right.f k ax av aw ay az aH aE aA aD aC au an al ak ar af ai am ao aa ac ab ap aq ah = some r) :
  Calls Try.prog 28 #[.agg #[.int .i64 ax, .int .i64 av, .int .i64 aw, .string ay, .int .i64 az, .int .i64 aH, .string aE, .int .i64 aA, .int .i64 aD, .string aC, .int .i64 au, .string an, .int .i64 al, .int .i64 ak, .int .i64 ar, .int .i64 af, .int .i64 ai, .int .i64 am, .int .i64 ao, .string aa, .string ac, .slice bg ab.length bb, .int .i64 ap, .string aq, .slice aZ ah.length ba]] w fun e w' => e = .returned (.bool r) ∧ Below w.heap.size w w' := by
 have fi := Try.underlying25
 have nS := Try.underlying46
 have ed := Aside0.mk cf
 have bM := Aside0.mk cg
 clear cf cg
 have er := Aside0.mk ch
 have br := Aside0.mk ci
 clear ch ci
 have HB := Aside0.mk (Below.refl w.heap.size w)
 have H : (if ax = 5 then ((msg_Bare.f ax av aw ay az aH aE aA aD aC au an al ak ar af ai am ao aa ac ab ap aq ah).bind fun aM => (if aM = true then (if af = 0 then (if (ab.length : Int) = 0 then (rerr_Right.j0 k true ax av aw ay az aH aE aA aD aC au an al ak ar af ai am ao aa ac ab ap aq ah) else (rerr_Right.j0 k (decide ((ab.length : Int) > 255)) ax av aw ay az aH aE aA aD aC au an al ak ar af ai am ao aa ac ab ap aq ah)) else (if af = 1 then (if (ab.length : Int) = 0 then (rerr_Right.j0 k true ax av aw ay az aH aE aA aD aC au an al ak ar af ai am ao aa ac ab ap aq ah) else (rerr_Right.j0 k (decide ((ab.length : Int) > 255)) ax av aw ay az aH aE aA aD aC au an al ak ar af ai am ao aa ac ab ap aq ah)) else (rerr_Right.j0 k true ax av aw ay az aH aE aA aD aC au an al ak ar af ai am ao aa ac ab ap aq ah))) else (rerr_Right.j0 k true ax av aw ay az aH aE aA aD aC au an al ak ar af ai am ao aa ac ab ap aq ah))) else (rerr_Right.j0 k true ax av aw ay az aH aE aA aD aC au an al ak ar af ai am ao aa ac ab ap aq ah)) = some r := h
 clear h
 have iR := Aside0.mk H
 clear H
 go_enter Try.func28, Try.ntmps28
 go_upto_region 1 with (first | ((with_reducible refine Pre.gate_load 25 rfl ?_); (try (refine gate_guard Z23 ?_; dsimp only)); refine Pre.load_event rfl rfl rfl Z23 Z8 Try.underlying25 rfl Z14 ?_) | ((with_reducible refine Pre.gate_load 25 rfl ?_); (try (refine gate_guard Z23 ?_; dsimp only)); refine Pre.load_event_a rfl rfl rfl Z23 Pre.range25 Try.underlying25 rfl Z14 ?_) | ((with_reducible refine gate_dst (N := 1) rfl ?_); (try (refine gate_guard Z23 ?_; dsimp only)); refine Sq.box 1 #[.int .i64 ax, .int .i64 av, .int .i64 aw, .string ay, .int .i64 az, .int .i64 aH, .string aE, .int .i64 aA, .int .i64 aD, .string aC, .int .i64 au, .string an, .int .i64 al, .int .i64 ak, .int .i64 ar, .int .i64 af, .int .i64 ai, .int .i64 am, .int .i64 ao, .string aa, .string ac, .slice bg ab.length bb, .int .i64 ap, .string aq, .slice aZ ah.length ba] 25 ?_; intro ag hg w3 hbox hb; have ae := Aside0.mk (hbox); have cp := Aside0.mk (Sq.ge hg Z1); have bm := Aside0.mk (Sq.ge hg Z1); replace HB := Aside0.mk (below_step Z1 hb); clear hb hbox hg))
 (try simp only [Act.put, Sq.s1, Sq.s2, Sq.s3])
 go_cut [34] (fun sr wc => ∃ (kq : Nat) (gM : Bool), sr = .bool gM ∧ Aside0 (rerr_Right.j0 kq gM ax av aw ay az aH aE aA aD aC au an al ak ar af ai am ao aa ac ab ap aq ah = some r) ∧ Aside0 (kq ≤ k) ∧ Aside0 (wc.heap[ag]? = some (.cells #[.int .i64 ax, .int .i64 av, .int .i64 aw, .string ay, .int .i64 az, .int .i64 aH, .string aE, .int .i64 aA, .int .i64 aD, .string aC, .int .i64 au, .string an, .int .i64 al, .int .i64 ak, .int .i64 ar, .int .i64 af, .int .i64 ai, .int .i64 am, .int .i64 ao, .string aa, .string ac, (.slice bg ab.length bb), .int .i64 ap, .string aq, (.slice aZ ah.length ba)] 25 (0, 0))) ∧ Aside0 (Below w.heap.size w wc))
 case first =>
  have H := iR.out
  clear iR
  by_cases c4 : ax = 5
  ·rw [if_pos c4] at H
   have dg : (ax == 5) = true := beq_iff_eq.mpr c4
   have gi : (ax != 5) = false := bne_eq_false_iff_eq.mpr c4
   clear c4
   (first | rw [dg] | (simp only [i64_w, i32_w]; rw [dg]) | skip)
   replace H := Option.bind_eq_some_iff.mp H
   obtain ⟨aM, jc, H⟩ := H
   replace H : (if aM = true then (if af = 0 then (if (ab.length : Int) = 0 then (rerr_Right.j0 k true ax av aw ay az aH aE aA aD aC au an al ak ar af ai am ao aa ac ab ap aq ah) else (rerr_Right.j0 k (decide ((ab.length : Int) > 255)) ax av aw ay az aH aE aA aD aC au an al ak ar af ai am ao aa ac ab ap aq ah)) else (if af = 1 then (if (ab.length : Int) = 0 then (rerr_Right.j0 k true ax av aw ay az aH aE aA aD aC au an al ak ar af ai am ao aa ac ab ap aq ah) else (rerr_Right.j0 k (decide ((ab.length : Int) > 255)) ax av aw ay az aH aE aA aD aC au an al ak ar af ai am ao aa ac ab ap aq ah)) else (rerr_Right.j0 k true ax av aw ay az aH aE aA aD aC au an al ak ar af ai am ao aa ac ab ap aq ah))) else (rerr_Right.j0 k true ax av aw ay az aH aE aA aD aC au an al ak ar af ai am ao aa ac ab ap aq ah)) = some r := H
   have A5 := Aside0.mk jc
   clear jc
   by_cases c6 : aM = true
   ·subst c6
    replace H := Sq.itT H
    by_cases c7 : af = 0
    ·rw [if_pos c7] at H
     have fp : (af == 0) = true := beq_iff_eq.mpr c7
     have jF : (af != 0) = false := bne_eq_false_iff_eq.mpr c7
     clear c7
     by_cases c8 : (ab.length : Int) = 0
     ·rw [if_pos c8] at H
      have hC : ((ab.length : Int) == 0) = true := beq_iff_eq.mpr c8
      have jg : ((ab.length : Int) != 0) = false := bne_eq_false_iff_eq.mpr c8
      clear c8
      have H' := Aside0.mk H
      clear H
      have kt := cells_25 ae.out
      go_wp2_with (first | ((with_reducible refine Pre.gate_load 25 rfl ?_); (try (refine gate_guard Z23 ?_; dsimp only)); refine Pre.load_event rfl rfl rfl Z23 Z8 Try.underlying25 rfl Z14 ?_) | ((with_reducible refine Pre.gate_load 25 rfl ?_); (try (refine gate_guard Z23 ?_; dsimp only)); refine Pre.load_event_a rfl rfl rfl Z23 Pre.range25 Try.underlying25 rfl Z14 ?_) | (go_at_call 53; (with_reducible refine (msg_Bare.calls ax av aw ay az aH aE aA aD aC au an al ak ar af ai am ao aa ac _ _ ab ap aq _ _ ah true _ ?side1 ?side2 ?side3 ?side4 A5.out).mono ?_); (case side1 => exact Z10); (case side2 => exact bM.out); (case side3 => exact Z7); (case side4 => exact br.out); rintro e rN ⟨rfl, hb⟩; replace ae := Aside0.mk (blk_below (g := ag) Z2 hb); replace HB := Aside0.mk (below_step Z0 hb); clear hb; have jY := cells_25 ae.out))
      go_meet
      case rel => exact ⟨_, (true), Z16, H', ⟨Z39⟩, ⟨Z2⟩, ⟨Z0⟩⟩
     ·rw [if_neg c8] at H
      have hC : ((ab.length : Int) == 0) = false := beq_eq_false_iff_ne.mpr c8
      have jg : ((ab.length : Int) != 0) = true := bne_iff_ne.mpr c8
      have c8b2 : ¬ (ab = []) := fun h_ => c8 (by rw [h_]; rfl)
      have H' := Aside0.mk H
      clear H
      have jU := cells_25 ae.out
      go_wp2_with (first | ((with_reducible refine Pre.gate_load 25 rfl ?_); (try (refine gate_guard Z23 ?_; dsimp only)); refine Pre.load_event rfl rfl rfl Z23 Z8 Try.underlying25 rfl Z14 ?_) | ((with_reducible refine Pre.gate_load 25 rfl ?_); (try (refine gate_guard Z23 ?_; dsimp only)); refine Pre.load_event_a rfl rfl rfl Z23 Pre.range25 Try.underlying25 rfl Z14 ?_) | (go_at_call 53; (with_reducible refine (msg_Bare.calls ax av aw ay az aH aE aA aD aC au an al ak ar af ai am ao aa ac _ _ ab ap aq _ _ ah true _ ?side1 ?side2 ?side3 ?side4 A5.out).mono ?_); (case side1 => exact Z10); (case side2 => exact bM.out); (case side3 => exact Z7); (case side4 => exact br.out); rintro e ja ⟨rfl, hb⟩; replace ae := Aside0.mk (blk_below (g := ag) Z2 hb); replace HB := Aside0.mk (below_step Z0 hb); clear hb; have iH := cells_25 ae.out))
      go_meet
      case rel => exact ⟨_, (decide ((ab.length : Int) > 255)), Z16, H', ⟨Z39⟩, ⟨Z2⟩, ⟨Z0⟩⟩
    ·rw [if_neg c7] at H
     have fp : (af == 0) = false := beq_eq_false_iff_ne.mpr c7
     have jF : (af != 0) = true := bne_iff_ne.mpr c7
     by_cases eB : af = 1
     ·rw [if_pos eB] at H
      have hL : (af == 1) = true := beq_iff_eq.mpr eB
      have jm : (af != 1) = false := bne_eq_false_iff_eq.mpr eB
      clear eB
      by_cases fL : (ab.length : Int) = 0
      ·rw [if_pos fL] at H
       have hQ : ((ab.length : Int) == 0) = true := beq_iff_eq.mpr fL
       have ke : ((ab.length : Int) != 0) = false := bne_eq_false_iff_eq.mpr fL
       clear fL
       have H' := Aside0.mk H
       clear H
       have nh := cells_25 ae.out
       go_wp2_with (first | ((with_reducible refine Pre.gate_load 25 rfl ?_); (try (refine gate_guard Z23 ?_; dsimp only)); refine Pre.load_event rfl rfl rfl Z23 Z8 Try.underlying25 rfl Z14 ?_) | ((with_reducible refine Pre.gate_load 25 rfl ?_); (try (refine gate_guard Z23 ?_; dsimp only)); refine Pre.load_event_a rfl rfl rfl Z23 Pre.range25 Try.underlying25 rfl Z14 ?_) | (go_at_call 53; (with_reducible refine (msg_Bare.calls ax av aw ay az aH aE aA aD aC au an al ak ar af ai am ao aa ac _ _ ab ap aq _ _ ah true _ ?side1 ?side2 ?side3 ?side4 A5.out).mono ?_); (case side1 => exact Z10); (case side2 => exact bM.out); (case side3 => exact Z7); (case side4 => exact br.out); rintro e li ⟨rfl, hb⟩; replace ae := Aside0.mk (blk_below (g := ag) Z2 hb); replace HB := Aside0.mk (below_step Z0 hb); clear hb; have jo := cells_25 ae.out))
       go_meet
       case rel => exact ⟨_, (true), Z16, H', ⟨Z39⟩, ⟨Z2⟩, ⟨Z0⟩⟩
      ·rw [if_neg fL] at H
       have hQ : ((ab.length : Int) == 0) = false := beq_eq_false_iff_ne.mpr fL
       have ke : ((ab.length : Int) != 0) = true := bne_iff_ne.mpr fL
       have ni : ¬ (ab = []) := fun h_ => fL (by rw [h_]; rfl)
       have H' := Aside0.mk H
       clear H
       have kb := cells_25 ae.out
       go_wp2_with (first | ((with_reducible refine Pre.gate_load 25 rfl ?_); (try (refine gate_guard Z23 ?_; dsimp only)); refine Pre.load_event rfl rfl rfl Z23 Z8 Try.underlying25 rfl Z14 ?_) | ((with_reducible refine Pre.gate_load 25 rfl ?_); (try (refine gate_guard Z23 ?_; dsimp only)); refine Pre.load_event_a rfl rfl rfl Z23 Pre.range25 Try.underlying25 rfl Z14 ?_) | (go_at_call 53; (with_reducible refine (msg_Bare.calls ax av aw ay az aH aE aA aD aC au an al ak ar af ai am ao aa ac _ _ ab ap aq _ _ ah true _ ?side1 ?side2 ?side3 ?side4 A5.out).mono ?_); (case side1 => exact Z10); (case side2 => exact bM.out); (case side3 => exact Z7); (case side4 => exact br.out); rintro e oN ⟨rfl, hb⟩; replace ae := Aside0.mk (blk_below (g := ag) Z2 hb); replace HB := Aside0.mk (below_step Z0 hb); clear hb; have jV := cells_25 ae.out))
       go_meet
       case rel => exact ⟨_, (decide ((ab.length : Int) > 255)), Z16, H', ⟨Z39⟩, ⟨Z2⟩, ⟨Z0⟩⟩
     ·rw [if_neg eB] at H
      have hL : (af == 1) = false := beq_eq_false_iff_ne.mpr eB
      have jm : (af != 1) = true := bne_iff_ne.mpr eB
      have H' := Aside0.mk H
      clear H
      have lj := cells_25 ae.out
      go_wp2_with (first | ((with_reducible refine Pre.gate_load 25 rfl ?_); (try (refine gate_guard Z23 ?_; dsimp only)); refine Pre.load_event rfl rfl rfl Z23 Z8 Try.underlying25 rfl Z14 ?_) | ((with_reducible refine Pre.gate_load 25 rfl ?_); (try (refine gate_guard Z23 ?_; dsimp only)); refine Pre.load_event_a rfl rfl rfl Z23 Pre.range25 Try.underlying25 rfl Z14 ?_) | (go_at_call 53; (with_reducible refine (msg_Bare.calls ax av aw ay az aH aE aA aD aC au an al ak ar af ai am ao aa ac _ _ ab ap aq _ _ ah true _ ?side1 ?side2 ?side3 ?side4 A5.out).mono ?_); (case side1 => exact Z10); (case side2 => exact bM.out); (case side3 => exact Z7); (case side4 => exact br.out); rintro e oa ⟨rfl, hb⟩; replace ae := Aside0.mk (blk_below (g := ag) Z2 hb); replace HB := Aside0.mk (below_step Z0 hb); clear hb; have kd := cells_25 ae.out))
      go_meet
      case rel => exact ⟨_, (true), Z16, H', ⟨Z39⟩, ⟨Z2⟩, ⟨Z0⟩⟩
   ·replace c6 := Bool.eq_false_iff.mpr c6
    subst c6
    replace H := Sq.itF H
    have H' := Aside0.mk H
    clear H
    have hh := cells_25 ae.out
    go_wp2_with (first | ((with_reducible refine Pre.gate_load 25 rfl ?_); (try (refine gate_guard Z23 ?_; dsimp only)); refine Pre.load_event rfl rfl rfl Z23 Z8 Try.underlying25 rfl Z14 ?_) | ((with_reducible refine Pre.gate_load 25 rfl ?_); (try (refine gate_guard Z23 ?_; dsimp only)); refine Pre.load_event_a rfl rfl rfl Z23 Pre.range25 Try.underlying25 rfl Z14 ?_) | (go_at_call 53; (with_reducible refine (msg_Bare.calls ax av aw ay az aH aE aA aD aC au an al ak ar af ai am ao aa ac _ _ ab ap aq _ _ ah false _ ?side1 ?side2 ?side3 ?side4 A5.out).mono ?_); (case side1 => exact Z10); (case side2 => exact bM.out); (case side3 => exact Z7); (case side4 => exact br.out); rintro e mi ⟨rfl, hb⟩; replace ae := Aside0.mk (blk_below (g := ag) Z2 hb); replace HB := Aside0.mk (below_step Z0 hb); clear hb))
    go_meet
    case rel => exact ⟨_, (true), Z16, H', ⟨Z39⟩, ⟨Z2⟩, ⟨Z0⟩⟩
  ·rw [if_neg c4] at H
   have dg : (ax == 5) = false := beq_eq_false_iff_ne.mpr c4
   have gi : (ax != 5) = true := bne_iff_ne.mpr c4
   (first | rw [dg] | (simp only [i64_w, i32_w]; rw [dg]) | skip)
   have H' := Aside0.mk H
   clear H
   have lk := cells_25 ae.out
   go_wp2_with (first | ((with_reducible refine Pre.gate_load 25 rfl ?_); (try (refine gate_guard Z23 ?_; dsimp only)); refine Pre.load_event rfl rfl rfl Z23 Z8 Try.underlying25 rfl Z14 ?_) | ((with_reducible refine Pre.gate_load 25 rfl ?_); (try (refine gate_guard Z23 ?_; dsimp only)); refine Pre.load_event_a rfl rfl rfl Z23 Pre.range25 Try.underlying25 rfl Z14 ?_))
   go_meet
   case rel => exact ⟨_, (true), Z16, H', ⟨Z39⟩, ⟨Z2⟩, ⟨Z0⟩⟩
 case rest =>
  clear iR
  try clear c2
  try clear mf
  obtain ⟨kq, gM, rfl, HA, kJ, ae, HB⟩ := hcut
  cases kq with
  | zero => exact absurd HA.out (by simp [rerr_Right.j0])
  | succ kj1 =>
   have H := HA.out
   clear HA
   simp only [rerr_Right.j0] at H
   by_cases qn : gM = true
   ·subst qn
    replace H := Sq.itT H
    obtain rfl := Option.some.inj H
    go_wp2_with (first | ((with_reducible refine Pre.gate_load 25 rfl ?_); (try (refine gate_guard Z23 ?_; dsimp only)); refine Pre.load_event rfl rfl rfl Z23 Z8 Try.underlying25 rfl Z14 ?_) | ((with_reducible refine Pre.gate_load 25 rfl ?_); (try (refine gate_guard Z23 ?_; dsimp only)); refine Pre.load_event_a rfl rfl rfl Z23 Pre.range25 Try.underlying25 rfl Z14 ?_))
    go_ret
    exact ⟨Z5, Z0⟩
   ·replace qn := Bool.eq_false_iff.mpr qn
    subst qn
    replace H := Sq.itF H
    have H' := Aside0.mk H
    clear H
    have kV := cells_25 ae.out
    go_wp2_with (first | ((with_reducible refine Pre.gate_load 25 rfl ?_); (try (refine gate_guard Z23 ?_; dsimp only)); refine Pre.load_event rfl rfl rfl Z23 Z8 Try.underlying25 rfl Z14 ?_) | ((with_reducible refine Pre.gate_load 25 rfl ?_); (try (refine gate_guard Z23 ?_; dsimp only)); refine Pre.load_event_a rfl rfl rfl Z23 Pre.range25 Try.underlying25 rfl Z14 ?_))
    go_loopg [38] kj1 (fun kq uh w' => ∃ (dz : Int), uh = .int .i64 dz ∧ Aside0 (rerr_Right.l0 kq ab (ab.length : Int) dz ax av aw ay az aH aE aA aD aC au an al ak ar af ai am ao aa ac ab ap aq ah = some r) ∧ Aside0 (kq ≤ kj1) ∧ Aside0 (w'.heap[ag]? = some (.cells #[.int .i64 ax, .int .i64 av, .int .i64 aw, .string ay, .int .i64 az, .int .i64 aH, .string aE, .int .i64 aA, .int .i64 aD, .string aC, .int .i64 au, .string an, .int .i64 al, .int .i64 ak, .int .i64 ar, .int .i64 af, .int .i64 ai, .int .i64 am, .int .i64 ao, .string aa, .string ac, (.slice bg ab.length bb), .int .i64 ap, .string aq, (.slice aZ ah.length ba)] 25 (0, 0))) ∧ Aside0 (Below w.heap.size w w'))
    case atStart => exact ⟨(0), Z16, H', ⟨Nat.le_refl _⟩, ⟨Z2⟩, ⟨Z0⟩⟩
    case round =>
     clear H'
     try clear c2
     try clear p2
     try clear c4
     try clear dg
     try clear gi
     try clear c6
     try clear c7
     try clear mf
     try clear qn
     try clear hh
     try clear lk
     try clear kV
     obtain ⟨dz, rfl, HA, HK2, ae, HB⟩ := hrel
     cases gk with
     | zero => exact absurd HA.out (by simp [rerr_Right.l0])
     | succ k2 =>
      have H := HA.out
      clear HA
      simp only [rerr_Right.l0] at H
      by_cases kK : dz < (ab.length : Int)
      ·rw [if_pos kK] at H
       have mW : decide (dz < (ab.length : Int)) = true := decide_eq_true kK
       clear kK
       by_cases mb : 0 ≤ dz
       ·rw [if_pos mb] at H
        have pW : decide (0 ≤ dz) = true := decide_eq_true mb
        clear mb
        by_cases rW : dz < (ab.length : Int)
        ·rw [if_pos rW] at H
         have c33b0 : decide (dz < (ab.length : Int)) = true := decide_eq_true rW
         clear rW
         by_cases iS : (((rd_T46 ab dz).f0).size : Int) = 4
         ·rw [if_pos iS] at H
          have ll : ((((rd_T46 ab dz).f0).size : Int) == 4) = true := beq_iff_eq.mpr iS
          have qo : ((((rd_T46 ab dz).f0).size : Int) != 4) = false := bne_eq_false_iff_eq.mpr iS
          clear iS
          replace H := Option.bind_eq_some_iff.mp H
          obtain ⟨bq, jp, H⟩ := H
          replace H : (if bq = true then (rerr_Right.l0 k2 ab (ab.length : Int) (wrap64 (dz + 1)) ax av aw ay az aH aE aA aD aC au an al ak ar af ai am ao aa ac ab ap aq ah) else (some false)) = some r := H
          have nZ := Aside0.mk jp
          clear jp
          by_cases jf : bq = true
          ·subst jf
           replace H := Sq.itT H
           have H' := Aside0.mk H
           clear H
           have p103 : 0 ≤ (dz : Int) := of_decide_eq_true Z6
           have q103 : dz < (ab.length : Int) := of_decide_eq_true Z6
           obtain ⟨ad103, e103, hx103_0, hx103_1⟩ := at_T46 ed.out dz p103 q103
           cases e103
           replace hx103_0 := Sq.up HB.out hx103_0
           replace hx103_1 := Sq.up HB.out hx103_1
           replace p103 := eq_true p103
           replace q103 := eq_true q103
           go_wp2_with (first | ((with_reducible refine Pre.gate_load 25 rfl ?_); (try (refine gate_guard Z23 ?_; dsimp only)); refine Pre.load_event rfl rfl rfl Z23 Z8 Try.underlying25 rfl Z14 ?_) | ((with_reducible refine Pre.gate_load 25 rfl ?_); (try (refine gate_guard Z23 ?_; dsimp only)); refine Pre.load_event_a rfl rfl rfl Z23 Pre.range25 Try.underlying25 rfl Z14 ?_) | ((with_reducible refine gate_dst (N := 4) rfl ?_); (try (refine gate_guard Z23 ?_; dsimp only)); refine Sq.box 4 #[.string ⟨#[]⟩, .int .i64 0] 46 ?_; intro hl hg sx hbox hb; have eO := Aside0.mk (hbox); have nj := Aside0.mk (Sq.ge hg Z0); have lm := Aside0.mk (Sq.ge hg Z0); have eG := Aside0.mk (Sq.nl hg (blk_lt (g := ag) Z2)); have fm := Aside0.mk (Sq.ng hg (blk_lt (g := ag) Z2)); replace ae := Aside0.mk (blk_below (g := ag) Z2 hb); replace HB := Aside0.mk (below_step Z0 hb); clear hb hbox hg; have hnb38 := fm.out; have hnc38 := eG.out; have mq : sx.cell? ⟨hl, 0, none⟩ = some (.string ⟨#[]⟩) := (blk_cell eO.out 0).trans rfl; have mr : sx.cell? ⟨hl, 1, none⟩ = some (.int .i64 0) := (blk_cell eO.out 1).trans rfl; have hfz39_0 := blk_frozen eO.out 0; have hfz39_1 := blk_frozen eO.out 1) | (go_at_call 54; (with_reducible refine (octet_Fits.calls ((rd_T46 ab dz).f1) 4 true _ nZ.out).mono ?_); rintro e w' ⟨rfl, ⟨nd, rfl⟩⟩))
           go_roundg k2
           case measure => have := kJ.out; have := HK2.out; omega
           case rel => exact ⟨(wrap64 (dz + 1)), Z16, H', ⟨by have := kJ.out; have := HK2.out; omega⟩, ⟨by (with_reducible repeat (first | refine blk_drewN ?_ _ | refine blk_drew ?_ | refine blk_alloc ?_ _)); refine blk_far ?_ eG.out _; (with_reducible repeat (first | refine blk_drewN ?_ _ | refine blk_drew ?_ | refine blk_alloc ?_ _)); refine blk_far ?_ eG.out _; (with_reducible repeat (first | refine blk_drewN ?_ _ | refine blk_drew ?_ | refine blk_alloc ?_ _)); exact ae.out⟩, ⟨Z72⟩⟩
          ·replace jf := Bool.eq_false_iff.mpr jf
           subst jf
           replace H := Sq.itF H
           obtain rfl := Option.some.inj H
           have p103 : 0 ≤ (dz : Int) := of_decide_eq_true Z6
           have q103 : dz < (ab.length : Int) := of_decide_eq_true Z6
           obtain ⟨ad103, e103, hx103_0, hx103_1⟩ := at_T46 ed.out dz p103 q103
           cases e103
           replace hx103_0 := Sq.up HB.out hx103_0
           replace hx103_1 := Sq.up HB.out hx103_1
           replace p103 := eq_true p103
           replace q103 := eq_true q103
           go_wp2_with (first | ((with_reducible refine Pre.gate_load 25 rfl ?_); (try (refine gate_guard Z23 ?_; dsimp only)); refine Pre.load_event rfl rfl rfl Z23 Z8 Try.underlying25 rfl Z14 ?_) | ((with_reducible refine Pre.gate_load 25 rfl ?_); (try (refine gate_guard Z23 ?_; dsimp only)); refine Pre.load_event_a rfl rfl rfl Z23 Pre.range25 Try.underlying25 rfl Z14 ?_) | ((with_reducible refine gate_dst (N := 4) rfl ?_); (try (refine gate_guard Z23 ?_; dsimp only)); refine Sq.box 4 #[.string ⟨#[]⟩, .int .i64 0] 46 ?_; intro hl hg tD hbox hb; have eO := Aside0.mk (hbox); have nj := Aside0.mk (Sq.ge hg Z0); have lm := Aside0.mk (Sq.ge hg Z0); have eG := Aside0.mk (Sq.nl hg (blk_lt (g := ag) Z2)); have fm := Aside0.mk (Sq.ng hg (blk_lt (g := ag) Z2)); replace ae := Aside0.mk (blk_below (g := ag) Z2 hb); replace HB := Aside0.mk (below_step Z0 hb); clear hb hbox hg; have qp := fm.out; have qq := eG.out; have hcz42_0 : tD.cell? ⟨hl, 0, none⟩ = some (.string ⟨#[]⟩) := (blk_cell eO.out 0).trans rfl; have hcz42_1 : tD.cell? ⟨hl, 1, none⟩ = some (.int .i64 0) := (blk_cell eO.out 1).trans rfl; have hfz42_0 := blk_frozen eO.out 0; have hfz42_1 := blk_frozen eO.out 1) | (go_at_call 54; (with_reducible refine (octet_Fits.calls ((rd_T46 ab dz).f1) 4 false _ nZ.out).mono ?_); rintro e w' ⟨rfl, ⟨nd, rfl⟩⟩))
           go_ret
           exact ⟨Z5, Z72⟩
         ·rw [if_neg iS] at H
          have ll : ((((rd_T46 ab dz).f0).size : Int) == 4) = false := beq_eq_false_iff_ne.mpr iS
          have qo : ((((rd_T46 ab dz).f0).size : Int) != 4) = true := bne_iff_ne.mpr iS
          obtain rfl := Option.some.inj H
          have p103 : 0 ≤ (dz : Int) := of_decide_eq_true Z6
          have q103 : dz < (ab.length : Int) := of_decide_eq_true Z6
          obtain ⟨ad103, e103, hx103_0, hx103_1⟩ := at_T46 ed.out dz p103 q103
          cases e103
          replace hx103_0 := Sq.up HB.out hx103_0
          replace hx103_1 := Sq.up HB.out hx103_1
          replace p103 := eq_true p103
          replace q103 := eq_true q103
          go_wp2_with (first | ((with_reducible refine Pre.gate_load 25 rfl ?_); (try (refine gate_guard Z23 ?_; dsimp only)); refine Pre.load_event rfl rfl rfl Z23 Z8 Try.underlying25 rfl Z14 ?_) | ((with_reducible refine Pre.gate_load 25 rfl ?_); (try (refine gate_guard Z23 ?_; dsimp only)); refine Pre.load_event_a rfl rfl rfl Z23 Pre.range25 Try.underlying25 rfl Z14 ?_) | ((with_reducible refine gate_dst (N := 4) rfl ?_); (try (refine gate_guard Z23 ?_; dsimp only)); refine Sq.box 4 #[.string ⟨#[]⟩, .int .i64 0] 46 ?_; intro hl hg oO hbox hb; have eO := Aside0.mk (hbox); have nj := Aside0.mk (Sq.ge hg Z0); have lm := Aside0.mk (Sq.ge hg Z0); have eG := Aside0.mk (Sq.nl hg (blk_lt (g := ag) Z2)); have fm := Aside0.mk (Sq.ng hg (blk_lt (g := ag) Z2)); replace ae := Aside0.mk (blk_below (g := ag) Z2 hb); replace HB := Aside0.mk (below_step Z0 hb); clear hb hbox hg; have nk := fm.out; have nm := eG.out; have hcz45_0 : oO.cell? ⟨hl, 0, none⟩ = some (.string ⟨#[]⟩) := (blk_cell eO.out 0).trans rfl; have hcz45_1 : oO.cell? ⟨hl, 1, none⟩ = some (.int .i64 0) := (blk_cell eO.out 1).trans rfl; have hfz45_0 := blk_frozen eO.out 0; have hfz45_1 := blk_frozen eO.out 1))
          go_ret
          exact ⟨Z5, Z72⟩
        ·rw [if_neg rW] at H
         exact absurd H Z71
       ·rw [if_neg mb] at H
        exact absurd H Z71
      ·rw [if_neg kK] at H
       have mW : decide (dz < (ab.length : Int)) = false := decide_eq_false kK
       clear kK
       replace H := Option.bind_eq_some_iff.mp H
       obtain ⟨aT, qr, H⟩ := H
       replace H : (some aT) = some r := H
       have ui := Aside0.mk qr
       clear qr
       obtain rfl := Option.some.inj H
       have nn := cells_25 ae.out
       go_wp2_with (first | ((with_reducible refine Pre.gate_load 25 rfl ?_); (try (refine gate_guard Z23 ?_; dsimp only)); refine Pre.load_event rfl rfl rfl Z23 Z8 Try.underlying25 rfl Z14 ?_) | ((with_reducible refine Pre.gate_load 25 rfl ?_); (try (refine gate_guard Z23 ?_; dsimp only)); refine Pre.load_event_a rfl rfl rfl Z23 Pre.range25 Try.underlying25 rfl Z14 ?_) | ((with_reducible refine gate_callee (f := 55) rfl ?_); refine goesL_ (some 55) rfl rfl Try.func55 Z14 rfl #[.slice aZ ah.length ba] rfl Z4 ?_; (with_reducible refine (ext_Right.calls k2 _ _ ah aT _ ?side1 ?side2 ui.out).mono ?_); (case side1 => exact Z7); (case side2 => exact br.out); rintro e pj ⟨rfl, hb⟩; refine ⟨_, rfl, ?_⟩; replace ae := Aside0.mk (blk_below (g := ag) Z2 hb); replace HB := Aside0.mk (below_step Z0 hb); clear hb))
       go_ret
       exact ⟨Z5, Z0⟩

/-! ### rerr_Put: function 26 -/
def rerr_Put.l0 : Nat → List Int → List (S46) → Int → Int → Int → Int → Int → ByteArray → Int → Int → ByteArray → Int → Int → ByteArray → Int → ByteArray → Int → Int → Int → Int → Int → Int → Int → ByteArray → ByteArray → List (S46) → Int → ByteArray → List (S48) → Option (ByteArray × Bool)
 | 0, _, _, _, _, _, _, _, _, _, _, _, _, _, _, _, _, _, _, _, _, _, _, _, _, _, _, _, _, _ => none
 | k + 1, x4, nK, sT, nR, bB, bN, bO, bP, bQ, bR, bS, bC, bT, bU, bV, bI, bw, bD, bE, bx, bA, bF, bJ, bG, bH, bs, bK, bL, bp => if nR < sT then (if 0 ≤ nR then (if nR < (nK.length : Int) then ((octet_Put.f k ((rd_T46 nK nR).f1) 4).bind fun dh => (if x4.length + ((rd_T46 nK nR).f0).size < 140737488355328 then ((some (x4 ++ bytesOf ((rd_T46 nK nR).f0) : List Int)).bind fun hm => (if hm.length + dh.1.size < 140737488355328 then (rerr_Put.l0 k (hm ++ bytesOf dh.1) nK sT (wrap64 (nR + 1)) bB bN bO bP bQ bR bS bC bT bU bV bI bw bD bE bx bA bF bJ bG bH bs bK bL bp) else (none))) else (none))) else (none)) else (none)) else ((ext_Put.f k bp).bind fun mQ => (if (strOfNums x4).size + mQ.1.size ≤ 9223372036854775807 then (some ((strOfNums x4) ++ mQ.1, true)) else (none)))
def rerr_Put.f (k : Nat) (ax : Int) (av : Int) (aw : Int) (ay : ByteArray) (az : Int) (aH : Int) (aE : ByteArray) (aA : Int) (aD : Int) (aC : ByteArray) (au : Int) (an : ByteArray) (al : Int) (ak : Int) (ar : Int) (af : Int) (ai : Int) (am : Int) (ao : Int) (aa : ByteArray) (ac : ByteArray) (ab : List (S46)) (ap : Int) (aq : ByteArray) (ah : List (S48)) : Option (ByteArray × Bool) := (rerr_Right.f k ax av aw ay az aH aE aA aD aC au an al ak ar af ai am ao aa ac ab ap aq ah).bind fun aM => (if aM = true then (rerr_Put.l0 k (([3, (wrap64 (af * 128)) % 256, 0, ((ab.length : Int)) % 256] : List Int)) ab (ab.length : Int) 0 ax av aw ay az aH aE aA aD aC au an al ak ar af ai am ao aa ac ab ap aq ah) else (some ((⟨#[]⟩ : ByteArray), false)))
theorem rerr_Put.mono_l : ∀ k, (∀ y0 y1 y2 y3 y4 y5 y6 y7 y8 y9 fr fs ft fu fv fw fx fy fz fA fB fC fD fE fF fG iE jh kU, LeO (rerr_Put.l0 k y0 y1 y2 y3 y4 y5 y6 y7 y8 y9 fr fs ft fu fv fw fx fy fz fA fB fC fD fE fF fG iE jh kU) (rerr_Put.l0 (k + 1) y0 y1 y2 y3 y4 y5 y6 y7 y8 y9 fr fs ft fu fv fw fx fy fz fA fB fC fD fE fF fG iE jh kU))
 | 0 => Sq.mz
 | k + 1 => by
  have ih0 := rerr_Put.mono_l k
  ·intros
   unfold rerr_Put.l0
   have m0 := ext_Put.mono
   have m1 := octet_Put.mono
   have m2 := rerr_Right.mono
   exact Sq.mo
theorem rerr_Put.mono : ∀ a0 a1 a2 a3 a4 a5 a6 a7 a8 a9 gs gu gv gw gy gz gA gB gC gD gE gF gG gH gI k, LeO (rerr_Put.f k a0 a1 a2 a3 a4 a5 a6 a7 a8 a9 gs gu gv gw gy gz gA gB gC gD gE gF gG gH gI) (rerr_Put.f (k + 1) a0 a1 a2 a3 a4 a5 a6 a7 a8 a9 gs gu gv gw gy gz gA gB gC gD gE gF gG gH gI) := by
 intro a0 a1 a2 a3 a4 a5 a6 a7 a8 a9 gs gu gv gw gy gz gA gB gC gD gE gF gG gH gI k
 have ih0 := rerr_Put.mono_l k
 unfold rerr_Put.f
 have m0 := ext_Put.mono
 have m1 := octet_Put.mono
 have m2 := rerr_Right.mono
 exact Sq.mo

set_option maxHeartbeats 8000000 in
set_option maxRecDepth 100000 in
theorem rerr_Put.calls (k : Nat) (ax : Int) (av : Int) (aw : Int) (ay : ByteArray) (az : Int) (aH : Int) (aE : ByteArray) (aA : Int) (aD : Int) (aC : ByteArray) (au : Int) (an : ByteArray) (al : Int) (ak : Int) (ar : Int) (af : Int) (ai : Int) (am : Int) (ao : Int) (aa : ByteArray) (ac : ByteArray) (bg : Option Addr) (bb : Nat) (ab : List (S46)) (ap : Int) (aq : ByteArray) (aZ : Option Addr) (ba : Nat) (ah : List (S48)) (r1 : ByteArray) (r2 : Bool) (w : World) (cf : Kd.C k46 w bg ab.length ab) (cg : ab.length ≤ bb) (ch : Kd.C k48 w aZ ah.length ah) (ci : ah.length ≤ ba) (h : rerr_Put.f k ax av aw ay az aH aE aA aD aC au an al ak ar af ai am ao aa ac ab ap aq ah = some (r1, r2)) :
  Calls Try.prog 26 #[.agg #[.int .i64 ax, .int .i64 av, .int .i64 aw, .string ay, .int .i64 az, .int .i64 aH, .string aE, .int .i64 aA, .int .i64 aD, .string aC, .int .i64 au, .string an, .int .i64 al, .int .i64 ak, .int .i64 ar, .int .i64 af, .int .i64 ai, .int .i64 am, .int .i64 ao, .string aa, .string ac, .slice bg ab.length bb, .int .i64 ap, .string aq, .slice aZ ah.length ba]] w fun e w' => e = .returned (.tuple #[.string r1, .bool r2]) ∧ Below w.heap.size w w' := by
 have fi := Try.underlying25
 have nS := Try.underlying46
 have ed := Aside0.mk cf
 have bM := Aside0.mk cg
 clear cf cg
 have er := Aside0.mk ch
 have br := Aside0.mk ci
 clear ch ci
 have HB := Aside0.mk (Below.refl w.heap.size w)
 have H : ((rerr_Right.f k ax av aw ay az aH aE aA aD aC au an al ak ar af ai am ao aa ac ab ap aq ah).bind fun aM => (if aM = true then (rerr_Put.l0 k (([3, (wrap64 (af * 128)) % 256, 0, ((ab.length : Int)) % 256] : List Int)) ab (ab.length : Int) 0 ax av aw ay az aH aE aA aD aC au an al ak ar af ai am ao aa ac ab ap aq ah) else (some ((⟨#[]⟩ : ByteArray), false)))) = some (r1, r2) := h
 clear h
 replace H := Option.bind_eq_some_iff.mp H
 obtain ⟨aM, gb, H⟩ := H
 replace H : (if aM = true then (rerr_Put.l0 k (([3, (wrap64 (af * 128)) % 256, 0, ((ab.length : Int)) % 256] : List Int)) ab (ab.length : Int) 0 ax av aw ay az aH aE aA aD aC au an al ak ar af ai am ao aa ac ab ap aq ah) else (some ((⟨#[]⟩ : ByteArray), false))) = some (r1, r2) := H
 have A2 := Aside0.mk gb
 clear gb
 by_cases c3 : aM = true
 ·subst c3
  have H1 : (rerr_Put.l0 k (([3, (wrap64 (af * 128)) % 256, 0, ((ab.length : Int)) % 256] : List Int)) ab (ab.length : Int) 0 ax av aw ay az aH aE aA aD aC au an al ak ar af ai am ao aa ac ab ap aq ah) = some (r1, r2) := by rw [if_pos rfl] at H; exact H
  clear H
  have H := H1
  clear H1
  obtain ⟨eC, hy103⟩ : ∃ y_ : List Int, y_ = (([3, (wrap64 (af * 128)) % 256, 0, ((ab.length : Int)) % 256] : List Int)) := ⟨_, rfl⟩
  replace H : (rerr_Put.l0 k eC ab (ab.length : Int) 0 ax av aw ay az aH aE aA aD aC au an al ak ar af ai am ao aa ac ab ap aq ah) = some (r1, r2) := by first | (rw [hy103]; with_reducible exact H) | (have H2_ := (Option.bind_some _ _).symm.trans H; rw [hy103]; with_reducible exact H2_) | (have H2_ := (Option.bind_some _ _).symm.trans H; with_reducible exact H2_) | with_reducible exact H | (rw [hy103]; exact H) | exact H
  have Ny103 := Aside0.mk hy103
  clear hy103
  have H' := Aside0.mk H
  clear H
  go_enter Try.func26, Try.ntmps26
  go_wp2_with (first | ((with_reducible refine Pre.gate_load 25 rfl ?_); (try (refine gate_guard Z23 ?_; dsimp only)); refine Pre.load_event rfl rfl rfl Z23 Z30 Try.underlying25 rfl Z14 ?_) | ((with_reducible refine Pre.gate_load 25 rfl ?_); (try (refine gate_guard Z23 ?_; dsimp only)); refine Pre.load_event_a rfl rfl rfl Z23 Pre.range25 Try.underlying25 rfl Z14 ?_) | ((with_reducible refine gate_dst (N := 1) rfl ?_); refine Sq.box 1 #[.int .i64 ax, .int .i64 av, .int .i64 aw, .string ay, .int .i64 az, .int .i64 aH, .string aE, .int .i64 aA, .int .i64 aD, .string aC, .int .i64 au, .string an, .int .i64 al, .int .i64 ak, .int .i64 ar, .int .i64 af, .int .i64 ai, .int .i64 am, .int .i64 ao, .string aa, .string ac, .slice bg ab.length bb, .int .i64 ap, .string aq, .slice aZ ah.length ba] 25 ?_; intro ag hg w4 hbox hb; have ae := Aside0.mk (hbox); have cp := Aside0.mk (Sq.ge hg Z1); have bm := Aside0.mk (Sq.ge hg Z1); replace HB := Aside0.mk (below_step Z1 hb); clear hb hbox hg; have ji := cells_25 ae.out) | ((with_reducible refine gate_callee (f := 28) rfl ?_); refine goesL_ (some 12) rfl rfl Try.func28 Z14 rfl #[.agg #[.int .i64 ax, .int .i64 av, .int .i64 aw, .string ay, .int .i64 az, .int .i64 aH, .string aE, .int .i64 aA, .int .i64 aD, .string aC, .int .i64 au, .string an, .int .i64 al, .int .i64 ak, .int .i64 ar, .int .i64 af, .int .i64 ai, .int .i64 am, .int .i64 ao, .string aa, .string ac, .slice bg ab.length bb, .int .i64 ap, .string aq, .slice aZ ah.length ba]] rfl Z4 ?_; (with_reducible refine (rerr_Right.calls k ax av aw ay az aH aE aA aD aC au an al ak ar af ai am ao aa ac _ _ ab ap aq _ _ ah true _ ?side1 ?side2 ?side3 ?side4 A2.out).mono ?_); (case side1 => exact Z10); (case side2 => exact bM.out); (case side3 => exact Z7); (case side4 => exact br.out); rintro e w6 ⟨rfl, hb⟩; refine ⟨_, rfl, ?_⟩; replace ae := Aside0.mk (blk_below (g := ag) Z2 hb); replace HB := Aside0.mk (below_step Z0 hb); clear hb; have iO := cells_25 ae.out) | ((with_reducible refine gate_dst (N := 22) rfl ?_); refine Kd.R_lit (Kd.int .u8) _ 5 ?hg (N := 22) ?hd (xs := ([3, (wrap64 (af * 128)) % 256, 0, ((ab.length : Int)) % 256] : List Int)) (inner := [.int .u8 3, .int .u8 ((wrap64 (af * 128)) % 256), .int .u8 0, .int .u8 (((ab.length : Int)) % 256)]) (ok := fun _ => True) (okp := fun _ => True) ?hr ?hp (fun _ hk => hk) trivial (Below.refl _ _) (Nat.le_refl _) Z71 ?_; (case hd => rfl); (case hg => rfl); (case hr => first | (go_simp; done) | (go_simp; rfl)); (case hp => exact (Reps.one (show Kd.M (Kd.int .u8) _ _ _ 3 [.int .u8 3] from rfl) (Reps.one (show Kd.M (Kd.int .u8) _ _ _ ((wrap64 (af * 128)) % 256) [.int .u8 ((wrap64 (af * 128)) % 256)] from rfl) (Reps.one (show Kd.M (Kd.int .u8) _ _ _ 0 [.int .u8 0] from rfl) (Reps.one (show Kd.M (Kd.int .u8) _ _ _ (((ab.length : Int)) % 256) [.int .u8 (((ab.length : Int)) % 256)] from rfl) (Reps.none _ _)))))); intro pp w8 ho9 hb hg_ hnew_; clear hg_ hnew_; (first | rw [← Ny103.out] at ho9 | (simp only [Int.reduceToNat] at ho9; rw [← Ny103.out] at ho9)); have jP := Aside0.mk (Kd.R_lower ho9 (below_size Z0)); replace ae := Aside0.mk (blk_below (g := ag) Z2 hb); replace HB := Aside0.mk (below_step Z0 hb); clear hb ho9; have jj := cells_25 ae.out))
  go_loopg [4, 26] k (fun kq v4 tU w' => ∃ (fa : List Int) (cU : Int), tU = .int .i64 cU ∧ Aside0 (rerr_Put.l0 kq fa ab (ab.length : Int) cU ax av aw ay az aH aE aA aD aC au an al ak ar af ai am ao aa ac ab ap aq ah = some (r1, r2)) ∧ Aside0 (kq ≤ k) ∧ Aside0 (Kd.R (Kd.int .u8) 5 w' w.heap.size (fun _ => True) v4 fa) ∧ Aside0 (w'.heap[ag]? = some (.cells #[.int .i64 ax, .int .i64 av, .int .i64 aw, .string ay, .int .i64 az, .int .i64 aH, .string aE, .int .i64 aA, .int .i64 aD, .string aC, .int .i64 au, .string an, .int .i64 al, .int .i64 ak, .int .i64 ar, .int .i64 af, .int .i64 ai, .int .i64 am, .int .i64 ao, .string aa, .string ac, (.slice bg ab.length bb), .int .i64 ap, .string aq, (.slice aZ ah.length ba)] 25 (0, 0))) ∧ Aside0 (Below w.heap.size w w'))
  case atStart => exact ⟨(eC), (0), Z16, H', ⟨Nat.le_refl _⟩, ⟨Z89⟩, ⟨Z2⟩, ⟨Z0⟩⟩
  case round =>
   clear H'
   try clear c2
   try clear p2
   try clear c3
   try clear p6
   try clear jj
   try clear ji
   try clear iO
   obtain ⟨fa, cU, rfl, HA, HK1, HO_4, ae, HB⟩ := hrel
   cases gk with
   | zero => exact absurd HA.out (by simp [rerr_Put.l0])
   | succ k1 =>
    have H := HA.out
    clear HA
    simp only [rerr_Put.l0] at H
    by_cases ee : cU < (ab.length : Int)
    ·rw [if_pos ee] at H
     have eX : decide (cU < (ab.length : Int)) = true := decide_eq_true ee
     clear ee
     by_cases fR : 0 ≤ cU
     ·rw [if_pos fR] at H
      have hG : decide (0 ≤ cU) = true := decide_eq_true fR
      clear fR
      by_cases eU : cU < (ab.length : Int)
      ·rw [if_pos eU] at H
       have gL : decide (cU < (ab.length : Int)) = true := decide_eq_true eU
       clear eU
       replace H := Option.bind_eq_some_iff.mp H
       obtain ⟨⟨aV, bi⟩, hB, H⟩ := H
       replace H : (if fa.length + ((rd_T46 ab cU).f0).size < 140737488355328 then ((some (fa ++ bytesOf ((rd_T46 ab cU).f0) : List Int)).bind fun hm => (if hm.length + aV.size < 140737488355328 then (rerr_Put.l0 k1 (hm ++ bytesOf aV) ab (ab.length : Int) (wrap64 (cU + 1)) ax av aw ay az aH aE aA aD aC au an al ak ar af ai am ao aa ac ab ap aq ah) else (none))) else (none)) = some (r1, r2) := H
       have nL := Aside0.mk hB
       clear hB
       by_cases eB : fa.length + ((rd_T46 ab cU).f0).size < 140737488355328
       ·rw [if_pos eB] at H
        have LMc15 := Aside0.mk eB
        clear eB
        obtain ⟨hm, hy110⟩ : ∃ y_ : List Int, y_ = (fa ++ bytesOf ((rd_T46 ab cU).f0)) := ⟨_, rfl⟩
        replace H : (if hm.length + aV.size < 140737488355328 then (rerr_Put.l0 k1 (hm ++ bytesOf aV) ab (ab.length : Int) (wrap64 (cU + 1)) ax av aw ay az aH aE aA aD aC au an al ak ar af ai am ao aa ac ab ap aq ah) else (none)) = some (r1, r2) := by first | (rw [hy110]; with_reducible exact H) | (have H2_ := (Option.bind_some _ _).symm.trans H; rw [hy110]; with_reducible exact H2_) | (have H2_ := (Option.bind_some _ _).symm.trans H; with_reducible exact H2_) | with_reducible exact H | (rw [hy110]; exact H) | exact H
        have Ny110 := Aside0.mk hy110
        clear hy110
        by_cases fL : hm.length + aV.size < 140737488355328
        ·rw [if_pos fL] at H
         have LMc16 := Aside0.mk fL
         clear fL
         obtain ⟨nT, hy113⟩ : ∃ y_ : List Int, y_ = (hm ++ bytesOf aV) := ⟨_, rfl⟩
         replace H : (rerr_Put.l0 k1 nT ab (ab.length : Int) (wrap64 (cU + 1)) ax av aw ay az aH aE aA aD aC au an al ak ar af ai am ao aa ac ab ap aq ah) = some (r1, r2) := by first | (rw [hy113]; with_reducible exact H) | (have H2_ := (Option.bind_some _ _).symm.trans H; rw [hy113]; with_reducible exact H2_) | (have H2_ := (Option.bind_some _ _).symm.trans H; with_reducible exact H2_) | with_reducible exact H | (rw [hy113]; exact H) | exact H
         have Ny113 := Aside0.mk hy113
         clear hy113
         have H' := Aside0.mk H
         clear H
         have p106 : 0 ≤ (cU : Int) := of_decide_eq_true Z6
         have q106 : cU < (ab.length : Int) := of_decide_eq_true Z6
         obtain ⟨ad106, e106, hx106_0, hx106_1⟩ := at_T46 ed.out cU p106 q106
         cases e106
         replace hx106_0 := Sq.up HB.out hx106_0
         replace hx106_1 := Sq.up HB.out hx106_1
         replace p106 := eq_true p106
         replace q106 := eq_true q106
         go_wp2_with (first | ((with_reducible refine Pre.gate_load 25 rfl ?_); (try (refine gate_guard Z23 ?_; dsimp only)); refine Pre.load_event rfl rfl rfl Z23 Z30 Try.underlying25 rfl Z14 ?_) | ((with_reducible refine Pre.gate_load 25 rfl ?_); (try (refine gate_guard Z23 ?_; dsimp only)); refine Pre.load_event_a rfl rfl rfl Z23 Pre.range25 Try.underlying25 rfl Z14 ?_) | ((with_reducible refine gate_dst (N := 6) rfl ?_); refine Sq.box 6 #[.string ⟨#[]⟩, .int .i64 0] 46 ?_; intro bn hg iP hbox hb; have bf := Aside0.mk (hbox); have jQ := Aside0.mk (Sq.ge hg Z0); have gd := Aside0.mk (Sq.ge hg Z0); have ev := Aside0.mk (Sq.nl hg (blk_lt (g := ag) Z2)); have fW := Aside0.mk (Sq.ng hg (blk_lt (g := ag) Z2)); replace HO_4 := Aside0.mk (Kd.R_below Z79 hb); replace ae := Aside0.mk (blk_below (g := ag) Z2 hb); replace HB := Aside0.mk (below_step Z0 hb); clear hb hbox hg; have pq := fW.out; have pr := ev.out; have mg : iP.cell? ⟨bn, 0, none⟩ = some (.string ⟨#[]⟩) := (blk_cell bf.out 0).trans rfl; have mh : iP.cell? ⟨bn, 1, none⟩ = some (.int .i64 0) := (blk_cell bf.out 1).trans rfl; have hfz19_0 := blk_frozen bf.out 0; have hfz19_1 := blk_frozen bf.out 1) | ((with_reducible refine gate_callee (f := 67) rfl ?_); refine goesL_ (some 33) rfl rfl Try.func67 Z14 rfl #[.int .i64 ((rd_T46 ab cU).f1), .int .i64 4] rfl Z4 ?_; (with_reducible refine (octet_Put.calls k1 ((rd_T46 ab cU).f1) 4 aV bi _ nL.out).mono ?_); rintro e jL ⟨rfl, hb⟩; refine ⟨_, rfl, ?_⟩; replace HO_4 := Aside0.mk (Kd.R_below (by (with_reducible repeat (first | apply Kd.R_alloc | apply Kd.R_drewN | apply Kd.R_drew)); exact (Kd.R_mono (Kd.R_far (p := ⟨bn, 1, none⟩) (Kd.R_far (p := ⟨bn, 0, none⟩) (Kd.R_types HO_4.out bf.out Z29) (fun _ hk => hk.2) (.string ((rd_T46 ab cU).f0))) (fun _ hk => hk.2) (.int .i64 ((rd_T46 ab cU).f1))) (fun _ h_ => h_.1))) hb); replace ae := Aside0.mk (blk_below (g := ag) (o := .cells #[.int .i64 ax, .int .i64 av, .int .i64 aw, .string ay, .int .i64 az, .int .i64 aH, .string aE, .int .i64 aA, .int .i64 aD, .string aC, .int .i64 au, .string an, .int .i64 al, .int .i64 ak, .int .i64 ar, .int .i64 af, .int .i64 ai, .int .i64 am, .int .i64 ao, .string aa, .string ac, .slice (some ad106) ab.length bb, .int .i64 ap, .string aq, .slice aZ ah.length ba] 25 (0, 0)) (by (with_reducible repeat (first | refine blk_drewN ?_ _ | refine blk_drew ?_ | refine blk_alloc ?_ _)); refine blk_far ?_ ev.out _; (with_reducible repeat (first | refine blk_drewN ?_ _ | refine blk_drew ?_ | refine blk_alloc ?_ _)); refine blk_far ?_ ev.out _; (with_reducible repeat (first | refine blk_drewN ?_ _ | refine blk_drew ?_ | refine blk_alloc ?_ _)); exact ae.out) hb); replace bf := Aside0.mk (blk_below (g := bn) (o := .cells #[.string ((rd_T46 ab cU).f0), .int .i64 ((rd_T46 ab cU).f1)] 46 (0, 0)) (by (with_reducible repeat (first | refine blk_drewN ?_ _ | refine blk_drew ?_ | refine blk_alloc ?_ _)); refine blk_put (cs := #[.string ((rd_T46 ab cU).f0), .int .i64 0]) ?_ 1 _ rfl; (with_reducible repeat (first | refine blk_drewN ?_ _ | refine blk_drew ?_ | refine blk_alloc ?_ _)); refine blk_put (cs := #[.string ⟨#[]⟩, .int .i64 0]) ?_ 0 _ rfl; (with_reducible repeat (first | refine blk_drewN ?_ _ | refine blk_drew ?_ | refine blk_alloc ?_ _)); exact bf.out) hb); replace HB := Aside0.mk (below_step Z22 hb); clear hb; (try clear hk); have hcz21_0 : jL.cell? ⟨bn, 0, none⟩ = some (.string ((rd_T46 ab cU).f0)) := (blk_cell bf.out 0).trans rfl; have hcz21_1 : jL.cell? ⟨bn, 1, none⟩ = some (.int .i64 ((rd_T46 ab cU).f1)) := (blk_cell bf.out 1).trans rfl; have hfz21_0 := blk_frozen bf.out 0; have hfz21_1 := blk_frozen bf.out 1) | (at_builtin; refine print_append_str (w0 := w) w.heap.size rfl (.tmp 36) _ 51 9 5 rfl Try.underlying51 Try.underlying9 info5 u4 fa ((rd_T46 ab cU).f0) rfl rfl ?aO ?aB ?aS ?aL ?_; (case aB => exact Z22); (case aO => exact (Kd.own_of_R Z79)); (case aS => exact (below_size Z22)); (case aL => have := LMc15.out; omega); intro ps mN ho0 hb hg; have ho := Kd.R_of_own (h1 := fun _ => rfl) (ok := fun _ => True) ho0 (fun _ _ => trivial); clear ho0; have hat := True.intro; rw [← Ny110.out] at ho; change Kd.R (Kd.int .u8) 5 mN w.heap.size (fun _ => True) ps hm at ho; have jR := Aside0.mk (ho); replace ae := Aside0.mk (blk_grown (g := ag) (o := .cells #[.int .i64 ax, .int .i64 av, .int .i64 aw, .string ay, .int .i64 az, .int .i64 aH, .string aE, .int .i64 aA, .int .i64 aD, .string aC, .int .i64 au, .string an, .int .i64 al, .int .i64 ak, .int .i64 ar, .int .i64 af, .int .i64 ai, .int .i64 am, .int .i64 ao, .string aa, .string ac, .slice (some ad106) ab.length bb, .int .i64 ap, .string aq, .slice aZ ah.length ba] 25 (0, 0)) Z2 hg (Kd.R_ne HO_4.out ae.out Z29)); replace bf := Aside0.mk (blk_grown (g := bn) (o := .cells #[.string ((rd_T46 ab cU).f0), .int .i64 ((rd_T46 ab cU).f1)] 46 (0, 0)) Z25 hg (Kd.R_ne HO_4.out bf.out Z29)); replace HB := Aside0.mk (hb); clear HO_4; clear ho hb hg hat) | (at_builtin; refine print_append_str (w0 := w) w.heap.size rfl (.tmp 40) _ 51 9 5 rfl Try.underlying51 Try.underlying9 info5 ps hm aV rfl rfl ?aO ?aB ?aS ?aL ?_; (case aB => exact Z22); (case aO => exact (Kd.own_of_R (by (with_reducible repeat (first | apply Kd.R_alloc | apply Kd.R_drewN | apply Kd.R_drew)); exact jR.out))); (case aS => exact (below_size Z22)); (case aL => have := LMc16.out; omega); intro sj jS ho0 hb hg; have ho := Kd.R_of_own (h1 := fun _ => rfl) (ok := fun _ => True) ho0 (fun _ _ => trivial); clear ho0; have hat := True.intro; rw [← Ny113.out] at ho; change Kd.R (Kd.int .u8) 5 jS w.heap.size (fun _ => True) sj nT at ho; have pt := Aside0.mk (ho); replace ae := Aside0.mk (blk_grown (g := ag) (o := .cells #[.int .i64 ax, .int .i64 av, .int .i64 aw, .string ay, .int .i64 az, .int .i64 aH, .string aE, .int .i64 aA, .int .i64 aD, .string aC, .int .i64 au, .string an, .int .i64 al, .int .i64 ak, .int .i64 ar, .int .i64 af, .int .i64 ai, .int .i64 am, .int .i64 ao, .string aa, .string ac, .slice (some ad106) ab.length bb, .int .i64 ap, .string aq, .slice aZ ah.length ba] 25 (0, 0)) Z2 hg (Kd.R_ne jR.out ae.out Z29)); replace bf := Aside0.mk (blk_grown (g := bn) (o := .cells #[.string ((rd_T46 ab cU).f0), .int .i64 ((rd_T46 ab cU).f1)] 46 (0, 0)) Z25 hg (Kd.R_ne jR.out bf.out Z29)); replace HB := Aside0.mk (hb); clear jR; clear ho hb hg hat))
         go_roundg k1
         case measure => have := HK1.out; omega
         case rel => exact ⟨(nT), (wrap64 (cU + 1)), Z16, H', ⟨Z86⟩, ⟨by (with_reducible repeat (first | apply Kd.R_alloc | apply Kd.R_drewN | apply Kd.R_drew)); exact pt.out⟩, ⟨Z2⟩, ⟨Z22⟩⟩
        ·rw [if_neg fL] at H
         exact absurd H Z71
       ·rw [if_neg eB] at H
        exact absurd H Z71
      ·rw [if_neg eU] at H
       exact absurd H Z71
     ·rw [if_neg fR] at H
      exact absurd H Z71
    ·rw [if_neg ee] at H
     have eX : decide (cU < (ab.length : Int)) = false := decide_eq_false ee
     clear ee
     replace H := Option.bind_eq_some_iff.mp H
     obtain ⟨⟨cY, dZ⟩, kM, H⟩ := H
     replace H : (if (strOfNums fa).size + cY.size ≤ 9223372036854775807 then (some ((strOfNums fa) ++ cY, true)) else (none)) = some (r1, r2) := H
     have eN := Aside0.mk kM
     clear kM
     by_cases kI : (strOfNums fa).size + cY.size ≤ 9223372036854775807
     ·rw [if_pos kI] at H
      have c25b0 := eq_true kI
      have c25b1 : decide ((strOfNums fa).size + cY.size ≤ 9223372036854775807) = true := decide_eq_true kI
      try have pu : (9223372036854775807 < (strOfNums fa).size + cY.size) = False := eq_false (Nat.not_lt.2 kI)
      try (have pv := pu; simp only [ByteArray.size_append] at pv)
      simp only [Option.some.injEq, Prod.mk.injEq] at H
      obtain ⟨rfl, rfl⟩ := H
      have hh := cells_25 ae.out
      go_wp2_with (first | ((with_reducible refine Pre.gate_load 25 rfl ?_); (try (refine gate_guard Z23 ?_; dsimp only)); refine Pre.load_event rfl rfl rfl Z23 Z30 Try.underlying25 rfl Z14 ?_) | ((with_reducible refine Pre.gate_load 25 rfl ?_); (try (refine gate_guard Z23 ?_; dsimp only)); refine Pre.load_event_a rfl rfl rfl Z23 Pre.range25 Try.underlying25 rfl Z14 ?_) | ((with_reducible refine gate_callee (f := 49) rfl ?_); refine goesL_ (some 47) rfl rfl Try.func49 Z14 rfl #[.slice aZ ah.length ba] rfl Z4 ?_; (with_reducible refine (ext_Put.calls k1 _ _ ah cY dZ _ ?side1 ?side2 eN.out).mono ?_); (case side1 => exact Z7); (case side2 => exact br.out); rintro e mi ⟨rfl, hb⟩; refine ⟨_, rfl, ?_⟩; replace HO_4 := Aside0.mk (Kd.R_below Z79 hb); replace ae := Aside0.mk (blk_below (g := ag) Z2 hb); replace HB := Aside0.mk (below_step Z0 hb); clear hb; have hcv28 := own_string (P := Try.prog) Try.underlying51 Try.underlying5 Try.underlying9 (Kd.own_of_R HO_4.out)))
      go_ret2
      exact ⟨Z5, Z0⟩
     ·rw [if_neg kI] at H
      exact absurd H Z71
 ·replace c3 := Bool.eq_false_iff.mpr c3
  subst c3
  have H1 : (some ((⟨#[]⟩ : ByteArray), false)) = some (r1, r2) := by rw [if_neg (show ¬ (false = true) by decide)] at H; exact H
  clear H
  have H := H1
  clear H1
  simp only [Option.some.injEq, Prod.mk.injEq] at H
  obtain ⟨rfl, rfl⟩ := H
  go_enter Try.func26, Try.ntmps26
  go_wp2_with (first | ((with_reducible refine Pre.gate_load 25 rfl ?_); (try (refine gate_guard Z23 ?_; dsimp only)); refine Pre.load_event rfl rfl rfl Z23 Z30 Try.underlying25 rfl Z14 ?_) | ((with_reducible refine Pre.gate_load 25 rfl ?_); (try (refine gate_guard Z23 ?_; dsimp only)); refine Pre.load_event_a rfl rfl rfl Z23 Pre.range25 Try.underlying25 rfl Z14 ?_) | ((with_reducible refine gate_dst (N := 1) rfl ?_); refine Sq.box 1 #[.int .i64 ax, .int .i64 av, .int .i64 aw, .string ay, .int .i64 az, .int .i64 aH, .string aE, .int .i64 aA, .int .i64 aD, .string aC, .int .i64 au, .string an, .int .i64 al, .int .i64 ak, .int .i64 ar, .int .i64 af, .int .i64 ai, .int .i64 am, .int .i64 ao, .string aa, .string ac, .slice bg ab.length bb, .int .i64 ap, .string aq, .slice aZ ah.length ba] 25 ?_; intro ag hg rS hbox hb; have ae := Aside0.mk (hbox); have cp := Aside0.mk (Sq.ge hg Z1); have bm := Aside0.mk (Sq.ge hg Z1); replace HB := Aside0.mk (below_step Z1 hb); clear hb hbox hg; have kV := cells_25 ae.out) | ((with_reducible refine gate_callee (f := 28) rfl ?_); refine goesL_ (some 12) rfl rfl Try.func28 Z14 rfl #[.agg #[.int .i64 ax, .int .i64 av, .int .i64 aw, .string ay, .int .i64 az, .int .i64 aH, .string aE, .int .i64 aA, .int .i64 aD, .string aC, .int .i64 au, .string an, .int .i64 al, .int .i64 ak, .int .i64 ar, .int .i64 af, .int .i64 ai, .int .i64 am, .int .i64 ao, .string aa, .string ac, .slice bg ab.length bb, .int .i64 ap, .string aq, .slice aZ ah.length ba]] rfl Z4 ?_; (with_reducible refine (rerr_Right.calls k ax av aw ay az aH aE aA aD aC au an al ak ar af ai am ao aa ac _ _ ab ap aq _ _ ah false _ ?side1 ?side2 ?side3 ?side4 A2.out).mono ?_); (case side1 => exact Z10); (case side2 => exact bM.out); (case side3 => exact Z7); (case side4 => exact br.out); rintro e w31 ⟨rfl, hb⟩; refine ⟨_, rfl, ?_⟩; replace ae := Aside0.mk (blk_below (g := ag) Z2 hb); replace HB := Aside0.mk (below_step Z0 hb); clear hb))
  go_ret2
  exact ⟨Z5, Z0⟩

end Go.Proofs.Ytccjakjjaemmkaa.PAB
