-- Written by mp.py, a program of this work (wip/tools), out of the translation; Lean checks it.
import Derived.Test.YtccjakjjaemmkaaPABxZ
import Derived.Test.YtccjakjjaemmkaaPABxext
import Derived.Test.YtccjakjjaemmkaaPABxmsgBare
import Derived.Test.YtccjakjjaemmkaaPABxoctet
namespace Go.Proofs.Ytccjakjjaemmkaa.PAB
open Go.RowKit Go.Proofs.YtccjakjjaemmkaaW.PrintWords Go.Proofs.YtccjakjjaemmkaaW.PrintLast Go.Proofs.YtccjakjjaemmkaaW.PrintMore
attribute [local go_sem] max2_int min2_int max_two min_two max_three min_three max_four min_four   -- for this text's walks alone
set_option linter.unusedVariables false
set_option linter.unusedSimpArgs false

/-! ### rreq_Right: function 20 -/
mutual
def rreq_Right.j0 : Nat → Bool → Int → Int → Int → ByteArray → Int → Int → ByteArray → Int → Int → ByteArray → Int → ByteArray → Int → Int → Int → Int → Int → Int → Int → ByteArray → ByteArray → List (S46) → Int → ByteArray → List (S48) → Option (Bool)
 | 0, _, _, _, _, _, _, _, _, _, _, _, _, _, _, _, _, _, _, _, _, _, _, _, _, _, _ => none
 | k + 1, sp, bB, bN, bO, bP, bQ, bR, bS, bC, bT, bU, bV, bI, bw, bD, bE, bx, bA, bF, bJ, bG, bH, bs, bK, bL, bp => if sp = true then (some false) else ((some (([bF, bw, bD] : List Int) : List Int)).bind fun eC => (rreq_Right.l0 k eC (eC.length : Int) 0 bB bN bO bP bQ bR bS bC bT bU bV bI bw bD bE bx bA bF bJ bG bH bs bK bL bp))
def rreq_Right.l0 : Nat → List Int → Int → Int → Int → Int → Int → ByteArray → Int → Int → ByteArray → Int → Int → ByteArray → Int → ByteArray → Int → Int → Int → Int → Int → Int → Int → ByteArray → ByteArray → List (S46) → Int → ByteArray → List (S48) → Option (Bool)
 | 0, _, _, _, _, _, _, _, _, _, _, _, _, _, _, _, _, _, _, _, _, _, _, _, _, _, _, _, _ => none
 | k + 1, sq, tu, pU, bB, bN, bO, bP, bQ, bR, bS, bC, bT, bU, bV, bI, bw, bD, bE, bx, bA, bF, bJ, bG, bH, bs, bK, bL, bp => if pU < tu then (if 0 ≤ pU then (if pU < (sq.length : Int) then ((octet_Fits.f (rd sq pU) 4).bind fun cu => (if cu = true then (rreq_Right.l0 k sq tu (wrap64 (pU + 1)) bB bN bO bP bQ bR bS bC bT bU bV bI bw bD bE bx bA bF bJ bG bH bs bK bL bp) else (some false))) else (none)) else (none)) else ((octet_Fits.f bA 1).bind fun aV => (if aV = true then ((ext_Right.f k bp).bind fun bi => (some bi)) else (some false)))
end
def rreq_Right.f (k : Nat) (ax : Int) (av : Int) (aw : Int) (ay : ByteArray) (az : Int) (aH : Int) (aE : ByteArray) (aA : Int) (aD : Int) (aC : ByteArray) (au : Int) (an : ByteArray) (al : Int) (ak : Int) (ar : Int) (af : Int) (ai : Int) (am : Int) (ao : Int) (aa : ByteArray) (ac : ByteArray) (ab : List (S46)) (ap : Int) (aq : ByteArray) (ah : List (S48)) : Option (Bool) := if ax = 3 then ((msg_Bare.f ax av aw ay az aH aE aA aD aC au an al ak ar af ai am ao aa ac ab ap aq ah).bind fun aM => (if aM = true then (if af < 0 then (rreq_Right.j0 k true ax av aw ay az aH aE aA aD aC au an al ak ar af ai am ao aa ac ab ap aq ah) else (if af > 31 then (rreq_Right.j0 k true ax av aw ay az aH aE aA aD aC au an al ak ar af ai am ao aa ac ab ap aq ah) else (if (aa.size : Int) = 4 then (rreq_Right.j0 k ((ac.size : Int) != 4) ax av aw ay az aH aE aA aD aC au an al ak ar af ai am ao aa ac ab ap aq ah) else (rreq_Right.j0 k true ax av aw ay az aH aE aA aD aC au an al ak ar af ai am ao aa ac ab ap aq ah)))) else (rreq_Right.j0 k true ax av aw ay az aH aE aA aD aC au an al ak ar af ai am ao aa ac ab ap aq ah))) else (rreq_Right.j0 k true ax av aw ay az aH aE aA aD aC au an al ak ar af ai am ao aa ac ab ap aq ah)
theorem rreq_Right.mono_l : ∀ k, (∀ y0 y1 y2 y3 y4 y5 y6 y7 y8 y9 fr fs ft fu fv fw fx fy fz fA fB fC fD fE fF fG, LeO (rreq_Right.j0 k y0 y1 y2 y3 y4 y5 y6 y7 y8 y9 fr fs ft fu fv fw fx fy fz fA fB fC fD fE fF fG) (rreq_Right.j0 (k + 1) y0 y1 y2 y3 y4 y5 y6 y7 y8 y9 fr fs ft fu fv fw fx fy fz fA fB fC fD fE fF fG)) ∧ (∀ y0 y1 y2 y3 y4 y5 y6 y7 y8 y9 fr fs ft fu fv fw fx fy fz fA fB fC fD fE fF fG iE jh, LeO (rreq_Right.l0 k y0 y1 y2 y3 y4 y5 y6 y7 y8 y9 fr fs ft fu fv fw fx fy fz fA fB fC fD fE fF fG iE jh) (rreq_Right.l0 (k + 1) y0 y1 y2 y3 y4 y5 y6 y7 y8 y9 fr fs ft fu fv fw fx fy fz fA fB fC fD fE fF fG iE jh))
 | 0 => ⟨Sq.mz, Sq.mz⟩
 | k + 1 => by
  obtain ⟨ih0, ih1⟩ := rreq_Right.mono_l k
  refine ⟨?_, ?_⟩
  ·intros
   unfold rreq_Right.j0
   have m0 := ext_Right.mono
   exact Sq.mo
  ·intros
   unfold rreq_Right.l0
   have m0 := ext_Right.mono
   exact Sq.mo
theorem rreq_Right.mono : ∀ a0 a1 a2 a3 a4 a5 a6 a7 a8 a9 gs gu gv gw gy gz gA gB gC gD gE gF gG gH gI k, LeO (rreq_Right.f k a0 a1 a2 a3 a4 a5 a6 a7 a8 a9 gs gu gv gw gy gz gA gB gC gD gE gF gG gH gI) (rreq_Right.f (k + 1) a0 a1 a2 a3 a4 a5 a6 a7 a8 a9 gs gu gv gw gy gz gA gB gC gD gE gF gG gH gI) := by
 intros
 rename_i k
 obtain ⟨ih0, ih1⟩ := rreq_Right.mono_l k
 unfold rreq_Right.f
 have m0 := ext_Right.mono
 exact Sq.mo

set_option maxHeartbeats 8000000 in
set_option maxRecDepth 100000 in
theorem rreq_Right.calls (k : Nat) (ax : Int) (av : Int) (aw : Int) (ay : ByteArray) (az : Int) (aH : Int) (aE : ByteArray) (aA : Int) (aD : Int) (aC : ByteArray) (au : Int) (an : ByteArray) (al : Int) (ak : Int) (ar : Int) (af : Int) (ai : Int) (am : Int) (ao : Int) (aa : ByteArray) (ac : ByteArray) (bg : Option Addr) (bb : Nat) (ab : List (S46)) (ap : Int) (aq : ByteArray) (aZ : Option Addr) (ba : Nat) (ah : List (S48)) (r : Bool) (w : World) (cf : Kd.C k46 w bg ab.length ab) (cg : ab.length ≤ bb) (ch : Kd.C k48 w aZ ah.length ah) (ci : ah.length ≤ ba) (h : rreq_Right.f k ax av aw ay az aH aE aA aD aC au an al ak ar af ai am ao aa ac ab ap aq ah = some r) :
  Calls Try.prog 20 #[.agg #[.int .i64 ax, .int .i64 av, .int .i64 aw, .string ay, .int .i64 az, .int .i64 aH, .string aE, .int .i64 aA, .int .i64 aD, .string aC, .int .i64 au, .string an, .int .i64 al, .int .i64 ak, .int .i64 ar, .int .i64 af, .int .i64 ai, .int .i64 am, .int .i64 ao, .string aa, .string ac, .slice bg ab.length bb, .int .i64 ap, .string aq, .slice aZ ah.length ba]] w fun e w' => e = .returned (.bool r) ∧ Below w.heap.size w w' := by
 have fi := Try.underlying25
 have ed := Aside0.mk cf
 have bM := Aside0.mk cg
 clear cf cg
 have er := Aside0.mk ch
 have br := Aside0.mk ci
 clear ch ci
 have HB := Aside0.mk (Below.refl w.heap.size w)
 have H : (if ax = 3 then ((msg_Bare.f ax av aw ay az aH aE aA aD aC au an al ak ar af ai am ao aa ac ab ap aq ah).bind fun aM => (if aM = true then (if af < 0 then (rreq_Right.j0 k true ax av aw ay az aH aE aA aD aC au an al ak ar af ai am ao aa ac ab ap aq ah) else (if af > 31 then (rreq_Right.j0 k true ax av aw ay az aH aE aA aD aC au an al ak ar af ai am ao aa ac ab ap aq ah) else (if (aa.size : Int) = 4 then (rreq_Right.j0 k ((ac.size : Int) != 4) ax av aw ay az aH aE aA aD aC au an al ak ar af ai am ao aa ac ab ap aq ah) else (rreq_Right.j0 k true ax av aw ay az aH aE aA aD aC au an al ak ar af ai am ao aa ac ab ap aq ah)))) else (rreq_Right.j0 k true ax av aw ay az aH aE aA aD aC au an al ak ar af ai am ao aa ac ab ap aq ah))) else (rreq_Right.j0 k true ax av aw ay az aH aE aA aD aC au an al ak ar af ai am ao aa ac ab ap aq ah)) = some r := h
 clear h
 have iR := Aside0.mk H
 clear H
 go_enter Try.func20, Try.ntmps20
 go_upto_region 1 with (first | ((with_reducible refine Pre.gate_load 25 rfl ?_); (try (refine gate_guard Z23 ?_; dsimp only)); refine Pre.load_event rfl rfl rfl Z23 Z3 Try.underlying25 rfl Z14 ?_) | ((with_reducible refine gate_dst (N := 1) rfl ?_); (try (refine gate_guard Z23 ?_; dsimp only)); refine Sq.box 1 #[.int .i64 ax, .int .i64 av, .int .i64 aw, .string ay, .int .i64 az, .int .i64 aH, .string aE, .int .i64 aA, .int .i64 aD, .string aC, .int .i64 au, .string an, .int .i64 al, .int .i64 ak, .int .i64 ar, .int .i64 af, .int .i64 ai, .int .i64 am, .int .i64 ao, .string aa, .string ac, .slice bg ab.length bb, .int .i64 ap, .string aq, .slice aZ ah.length ba] 25 ?_; intro ag hg w3 hbox hb; have ae := Aside0.mk (hbox); have cp := Aside0.mk (Sq.ge hg Z1); have bm := Aside0.mk (Sq.ge hg Z1); replace HB := Aside0.mk (below_step Z1 hb); clear hb hbox hg))
 (try simp only [Act.put, Sq.s1, Sq.s2, Sq.s3])
 go_cut [34] (fun sr wc => ∃ (kq : Nat) (gM : Bool), sr = .bool gM ∧ Aside0 (rreq_Right.j0 kq gM ax av aw ay az aH aE aA aD aC au an al ak ar af ai am ao aa ac ab ap aq ah = some r) ∧ Aside0 (kq ≤ k) ∧ Aside0 (wc.heap[ag]? = some (.cells #[.int .i64 ax, .int .i64 av, .int .i64 aw, .string ay, .int .i64 az, .int .i64 aH, .string aE, .int .i64 aA, .int .i64 aD, .string aC, .int .i64 au, .string an, .int .i64 al, .int .i64 ak, .int .i64 ar, .int .i64 af, .int .i64 ai, .int .i64 am, .int .i64 ao, .string aa, .string ac, (.slice bg ab.length bb), .int .i64 ap, .string aq, (.slice aZ ah.length ba)] 25 (0, 0))) ∧ Aside0 (Below w.heap.size w wc))
 case first =>
  have H := iR.out
  clear iR
  by_cases c4 : ax = 3
  ·rw [if_pos c4] at H
   have dg : (ax == 3) = true := beq_iff_eq.mpr c4
   have gi : (ax != 3) = false := bne_eq_false_iff_eq.mpr c4
   clear c4
   (first | rw [dg] | (simp only [i64_w, i32_w]; rw [dg]) | skip)
   replace H := Option.bind_eq_some_iff.mp H
   obtain ⟨aM, jc, H⟩ := H
   replace H : (if aM = true then (if af < 0 then (rreq_Right.j0 k true ax av aw ay az aH aE aA aD aC au an al ak ar af ai am ao aa ac ab ap aq ah) else (if af > 31 then (rreq_Right.j0 k true ax av aw ay az aH aE aA aD aC au an al ak ar af ai am ao aa ac ab ap aq ah) else (if (aa.size : Int) = 4 then (rreq_Right.j0 k ((ac.size : Int) != 4) ax av aw ay az aH aE aA aD aC au an al ak ar af ai am ao aa ac ab ap aq ah) else (rreq_Right.j0 k true ax av aw ay az aH aE aA aD aC au an al ak ar af ai am ao aa ac ab ap aq ah)))) else (rreq_Right.j0 k true ax av aw ay az aH aE aA aD aC au an al ak ar af ai am ao aa ac ab ap aq ah)) = some r := H
   have A5 := Aside0.mk jc
   clear jc
   by_cases c6 : aM = true
   ·subst c6
    replace H := Sq.itT H
    by_cases c7 : af < 0
    ·rw [if_pos c7] at H
     have fp : decide (af < 0) = true := decide_eq_true c7
     clear c7
     have H' := Aside0.mk H
     clear H
     have nX := cells_25 ae.out
     go_wp2_with (first | ((with_reducible refine Pre.gate_load 25 rfl ?_); (try (refine gate_guard Z23 ?_; dsimp only)); refine Pre.load_event rfl rfl rfl Z23 Z3 Try.underlying25 rfl Z14 ?_) | (go_at_call 53; (with_reducible refine (msg_Bare.calls ax av aw ay az aH aE aA aD aC au an al ak ar af ai am ao aa ac _ _ ab ap aq _ _ ah true _ ?side1 ?side2 ?side3 ?side4 A5.out).mono ?_); (case side1 => exact Z10); (case side2 => exact bM.out); (case side3 => exact Z7); (case side4 => exact br.out); rintro e w9 ⟨rfl, hb⟩; replace ae := Aside0.mk (blk_below (g := ag) Z2 hb); replace HB := Aside0.mk (below_step Z0 hb); clear hb; have jj := cells_25 ae.out))
     go_meet
     case rel => exact ⟨_, (true), Z16, H', ⟨Z39⟩, ⟨Z2⟩, ⟨Z0⟩⟩
    ·rw [if_neg c7] at H
     have fp : decide (af < 0) = false := decide_eq_false c7
     clear c7
     by_cases ee : af > 31
     ·rw [if_pos ee] at H
      have eX : decide (31 < af) = true := decide_eq_true ee
      clear ee
      have H' := Aside0.mk H
      clear H
      have jU := cells_25 ae.out
      go_wp2_with (first | ((with_reducible refine Pre.gate_load 25 rfl ?_); (try (refine gate_guard Z23 ?_; dsimp only)); refine Pre.load_event rfl rfl rfl Z23 Z3 Try.underlying25 rfl Z14 ?_) | (go_at_call 53; (with_reducible refine (msg_Bare.calls ax av aw ay az aH aE aA aD aC au an al ak ar af ai am ao aa ac _ _ ab ap aq _ _ ah true _ ?side1 ?side2 ?side3 ?side4 A5.out).mono ?_); (case side1 => exact Z10); (case side2 => exact bM.out); (case side3 => exact Z7); (case side4 => exact br.out); rintro e ja ⟨rfl, hb⟩; replace ae := Aside0.mk (blk_below (g := ag) Z2 hb); replace HB := Aside0.mk (below_step Z0 hb); clear hb; have iH := cells_25 ae.out))
      go_meet
      case rel => exact ⟨_, (true), Z16, H', ⟨Z39⟩, ⟨Z2⟩, ⟨Z0⟩⟩
     ·rw [if_neg ee] at H
      have eX : decide (31 < af) = false := decide_eq_false ee
      clear ee
      by_cases eB : (aa.size : Int) = 4
      ·rw [if_pos eB] at H
       have hL : ((aa.size : Int) == 4) = true := beq_iff_eq.mpr eB
       have jm : ((aa.size : Int) != 4) = false := bne_eq_false_iff_eq.mpr eB
       clear eB
       have H' := Aside0.mk H
       clear H
       have jn := cells_25 ae.out
       go_wp2_with (first | ((with_reducible refine Pre.gate_load 25 rfl ?_); (try (refine gate_guard Z23 ?_; dsimp only)); refine Pre.load_event rfl rfl rfl Z23 Z3 Try.underlying25 rfl Z14 ?_) | (go_at_call 53; (with_reducible refine (msg_Bare.calls ax av aw ay az aH aE aA aD aC au an al ak ar af ai am ao aa ac _ _ ab ap aq _ _ ah true _ ?side1 ?side2 ?side3 ?side4 A5.out).mono ?_); (case side1 => exact Z10); (case side2 => exact bM.out); (case side3 => exact Z7); (case side4 => exact br.out); rintro e iP ⟨rfl, hb⟩; replace ae := Aside0.mk (blk_below (g := ag) Z2 hb); replace HB := Aside0.mk (below_step Z0 hb); clear hb; have mU := cells_25 ae.out))
       go_meet
       case rel => exact ⟨_, (((ac.size : Int) != 4)), Z16, H', ⟨Z39⟩, ⟨Z2⟩, ⟨Z0⟩⟩
      ·rw [if_neg eB] at H
       have hL : ((aa.size : Int) == 4) = false := beq_eq_false_iff_ne.mpr eB
       have jm : ((aa.size : Int) != 4) = true := bne_iff_ne.mpr eB
       have H' := Aside0.mk H
       clear H
       have jo := cells_25 ae.out
       go_wp2_with (first | ((with_reducible refine Pre.gate_load 25 rfl ?_); (try (refine gate_guard Z23 ?_; dsimp only)); refine Pre.load_event rfl rfl rfl Z23 Z3 Try.underlying25 rfl Z14 ?_) | (go_at_call 53; (with_reducible refine (msg_Bare.calls ax av aw ay az aH aE aA aD aC au an al ak ar af ai am ao aa ac _ _ ab ap aq _ _ ah true _ ?side1 ?side2 ?side3 ?side4 A5.out).mono ?_); (case side1 => exact Z10); (case side2 => exact bM.out); (case side3 => exact Z7); (case side4 => exact br.out); rintro e jL ⟨rfl, hb⟩; replace ae := Aside0.mk (blk_below (g := ag) Z2 hb); replace HB := Aside0.mk (below_step Z0 hb); clear hb; have iF := cells_25 ae.out))
       go_meet
       case rel => exact ⟨_, (true), Z16, H', ⟨Z39⟩, ⟨Z2⟩, ⟨Z0⟩⟩
   ·replace c6 := Bool.eq_false_iff.mpr c6
    subst c6
    replace H := Sq.itF H
    have H' := Aside0.mk H
    clear H
    have jV := cells_25 ae.out
    go_wp2_with (first | ((with_reducible refine Pre.gate_load 25 rfl ?_); (try (refine gate_guard Z23 ?_; dsimp only)); refine Pre.load_event rfl rfl rfl Z23 Z3 Try.underlying25 rfl Z14 ?_) | (go_at_call 53; (with_reducible refine (msg_Bare.calls ax av aw ay az aH aE aA aD aC au an al ak ar af ai am ao aa ac _ _ ab ap aq _ _ ah false _ ?side1 ?side2 ?side3 ?side4 A5.out).mono ?_); (case side1 => exact Z10); (case side2 => exact bM.out); (case side3 => exact Z7); (case side4 => exact br.out); rintro e jS ⟨rfl, hb⟩; replace ae := Aside0.mk (blk_below (g := ag) Z2 hb); replace HB := Aside0.mk (below_step Z0 hb); clear hb))
    go_meet
    case rel => exact ⟨_, (true), Z16, H', ⟨Z39⟩, ⟨Z2⟩, ⟨Z0⟩⟩
  ·rw [if_neg c4] at H
   have dg : (ax == 3) = false := beq_eq_false_iff_ne.mpr c4
   have gi : (ax != 3) = true := bne_iff_ne.mpr c4
   (first | rw [dg] | (simp only [i64_w, i32_w]; rw [dg]) | skip)
   have H' := Aside0.mk H
   clear H
   have mV := cells_25 ae.out
   go_wp2_with (first | ((with_reducible refine Pre.gate_load 25 rfl ?_); (try (refine gate_guard Z23 ?_; dsimp only)); refine Pre.load_event rfl rfl rfl Z23 Z3 Try.underlying25 rfl Z14 ?_))
   go_meet
   case rel => exact ⟨_, (true), Z16, H', ⟨Z39⟩, ⟨Z2⟩, ⟨Z0⟩⟩
 case rest =>
  clear iR
  try clear c2
  try clear kw
  obtain ⟨kq, gM, rfl, HA, kJ, ae, HB⟩ := hcut
  cases kq with
  | zero => exact absurd HA.out (by simp [rreq_Right.j0])
  | succ kj1 =>
   have H := HA.out
   clear HA
   simp only [rreq_Right.j0] at H
   by_cases kI : gM = true
   ·subst kI
    replace H := Sq.itT H
    obtain rfl := Option.some.inj H
    go_wp2_with (first | ((with_reducible refine Pre.gate_load 25 rfl ?_); (try (refine gate_guard Z23 ?_; dsimp only)); refine Pre.load_event rfl rfl rfl Z23 Z3 Try.underlying25 rfl Z14 ?_))
    go_ret
    exact ⟨Z5, Z0⟩
   ·replace kI := Bool.eq_false_iff.mpr kI
    subst kI
    replace H := Sq.itF H
    obtain ⟨eC, hy103⟩ : ∃ y_ : List Int, y_ = (([am, al, ak] : List Int)) := ⟨_, rfl⟩
    replace H : (rreq_Right.l0 kj1 eC (eC.length : Int) 0 ax av aw ay az aH aE aA aD aC au an al ak ar af ai am ao aa ac ab ap aq ah) = some r := by first | (rw [hy103]; with_reducible exact H) | (have H2_ := (Option.bind_some _ _).symm.trans H; rw [hy103]; with_reducible exact H2_) | (have H2_ := (Option.bind_some _ _).symm.trans H; with_reducible exact H2_) | with_reducible exact H | (rw [hy103]; exact H) | exact H
    have Ny103 := Aside0.mk hy103
    clear hy103
    have H' := Aside0.mk H
    clear H
    have hh := cells_25 ae.out
    go_wp2_with (first | ((with_reducible refine Pre.gate_load 25 rfl ?_); (try (refine gate_guard Z23 ?_; dsimp only)); refine Pre.load_event rfl rfl rfl Z23 Z3 Try.underlying25 rfl Z14 ?_) | ((with_reducible refine gate_dst (N := 41) rfl ?_); (try (refine gate_guard Z23 ?_; dsimp only)); refine Kd.R_lit (Kd.int .i64) _ 3 ?hg (N := 41) ?hd (xs := ([am, al, ak] : List Int)) (inner := [.int .i64 am, .int .i64 al, .int .i64 ak]) (ok := fun _ => True) (okp := fun _ => True) ?hr ?hp (fun _ hk => hk) trivial (Below.refl _ _) (Nat.le_refl _) Z71 ?_; (case hd => rfl); (case hg => rfl); (case hr => first | (go_simp; done) | (go_simp; rfl)); (case hp => exact (Reps.one (show Kd.M (Kd.int .i64) _ _ _ am [.int .i64 am] from rfl) (Reps.one (show Kd.M (Kd.int .i64) _ _ _ al [.int .i64 al] from rfl) (Reps.one (show Kd.M (Kd.int .i64) _ _ _ ak [.int .i64 ak] from rfl) (Reps.none _ _))))); intro pp mi ho28 hb hg_ hnew_; clear hg_ hnew_; (first | rw [← Ny103.out] at ho28 | (simp only [Int.reduceToNat] at ho28; rw [← Ny103.out] at ho28)); have jP := Aside0.mk (Kd.R_lower ho28 (below_size Z0)); replace ae := Aside0.mk (blk_below (g := ag) Z2 hb); replace HB := Aside0.mk (below_step Z0 hb); clear hb ho28; obtain ⟨ss, st, eo29⟩ := Kd.R_slice jP.out; subst eo29))
    go_loopg [43] kj1 (fun kq tX w' => ∃ (ep : Int), tX = .int .i64 ep ∧ Aside0 (rreq_Right.l0 kq eC (eC.length : Int) ep ax av aw ay az aH aE aA aD aC au an al ak ar af ai am ao aa ac ab ap aq ah = some r) ∧ Aside0 (kq ≤ kj1) ∧ Aside0 (Kd.R (Kd.int .i64) 3 w' w.heap.size (fun _ => True) (.slice ss eC.length st) eC) ∧ Aside0 (w'.heap[ag]? = some (.cells #[.int .i64 ax, .int .i64 av, .int .i64 aw, .string ay, .int .i64 az, .int .i64 aH, .string aE, .int .i64 aA, .int .i64 aD, .string aC, .int .i64 au, .string an, .int .i64 al, .int .i64 ak, .int .i64 ar, .int .i64 af, .int .i64 ai, .int .i64 am, .int .i64 ao, .string aa, .string ac, (.slice bg ab.length bb), .int .i64 ap, .string aq, (.slice aZ ah.length ba)] 25 (0, 0))) ∧ Aside0 (Below w.heap.size w w'))
    case atStart => exact ⟨(0), Z16, H', ⟨Nat.le_refl _⟩, ⟨Z89⟩, ⟨Z2⟩, ⟨Z0⟩⟩
    case round =>
     clear H'
     try clear c2
     try clear p2
     try clear c4
     try clear dg
     try clear gi
     try clear c6
     try clear c7
     try clear kw
     try clear kI
     try clear jV
     try clear mV
     try clear hh
     obtain ⟨ep, rfl, HA, HK2, HO_41, ae, HB⟩ := hrel
     cases gk with
     | zero => exact absurd HA.out (by simp [rreq_Right.l0])
     | succ k2 =>
      have H := HA.out
      clear HA
      simp only [rreq_Right.l0] at H
      by_cases nY : ep < (eC.length : Int)
      ·rw [if_pos nY] at H
       have pV : decide (ep < (eC.length : Int)) = true := decide_eq_true nY
       clear nY
       by_cases kK : 0 ≤ ep
       ·rw [if_pos kK] at H
        have mW : decide (0 ≤ ep) = true := decide_eq_true kK
        clear kK
        by_cases mb : ep < (eC.length : Int)
        ·rw [if_pos mb] at H
         have pW : decide (ep < (eC.length : Int)) = true := decide_eq_true mb
         clear mb
         replace H := Option.bind_eq_some_iff.mp H
         obtain ⟨cu, lb, H⟩ := H
         replace H : (if cu = true then (rreq_Right.l0 k2 eC (eC.length : Int) (wrap64 (ep + 1)) ax av aw ay az aH aE aA aD aC au an al ak ar af ai am ao aa ac ab ap aq ah) else (some false)) = some r := H
         have rU := Aside0.mk lb
         clear lb
         by_cases iS : cu = true
         ·subst iS
          replace H := Sq.itT H
          have H' := Aside0.mk H
          clear H
          have p106 : 0 ≤ (ep : Int) := of_decide_eq_true Z6
          have q106 : ep < (eC.length : Int) := of_decide_eq_true Z6
          obtain ⟨ad106, e106, hx106_0⟩ := Kd.at_int (Kd.R_reads' HO_41.out).2.2 ep p106 q106
          cases e106
          replace p106 := eq_true p106
          replace q106 := eq_true q106
          go_wp2_with (first | ((with_reducible refine Pre.gate_load 25 rfl ?_); (try (refine gate_guard Z23 ?_; dsimp only)); refine Pre.load_event rfl rfl rfl Z23 Z3 Try.underlying25 rfl Z14 ?_) | ((with_reducible refine gate_callee (f := 54) rfl ?_); refine goesL_ (some 48) rfl rfl Try.func54 Z14 rfl #[.int .i64 (rd eC ep), .int .i64 4] rfl Z4 ?_; (with_reducible refine (octet_Fits.calls (rd eC ep) 4 true _ rU.out).mono ?_); rintro e w' ⟨rfl, ⟨nd, rfl⟩⟩; refine ⟨_, rfl, ?_⟩))
          go_roundg k2
          case measure => have := kJ.out; have := HK2.out; omega
          case rel => exact ⟨(wrap64 (ep + 1)), Z16, H', ⟨by have := kJ.out; have := HK2.out; omega⟩, ⟨by (with_reducible repeat (first | apply Kd.R_alloc | apply Kd.R_drewN | apply Kd.R_drew)); exact HO_41.out⟩, ⟨Z2⟩, ⟨Z0⟩⟩
         ·replace iS := Bool.eq_false_iff.mpr iS
          subst iS
          replace H := Sq.itF H
          obtain rfl := Option.some.inj H
          have p106 : 0 ≤ (ep : Int) := of_decide_eq_true Z6
          have q106 : ep < (eC.length : Int) := of_decide_eq_true Z6
          obtain ⟨ad106, e106, hx106_0⟩ := Kd.at_int (Kd.R_reads' HO_41.out).2.2 ep p106 q106
          cases e106
          replace p106 := eq_true p106
          replace q106 := eq_true q106
          go_wp2_with (first | ((with_reducible refine Pre.gate_load 25 rfl ?_); (try (refine gate_guard Z23 ?_; dsimp only)); refine Pre.load_event rfl rfl rfl Z23 Z3 Try.underlying25 rfl Z14 ?_) | ((with_reducible refine gate_callee (f := 54) rfl ?_); refine goesL_ (some 48) rfl rfl Try.func54 Z14 rfl #[.int .i64 (rd eC ep), .int .i64 4] rfl Z4 ?_; (with_reducible refine (octet_Fits.calls (rd eC ep) 4 false _ rU.out).mono ?_); rintro e w' ⟨rfl, ⟨nd, rfl⟩⟩; refine ⟨_, rfl, ?_⟩))
          go_ret
          exact ⟨Z5, Z0⟩
        ·rw [if_neg mb] at H
         exact absurd H Z71
       ·rw [if_neg kK] at H
        exact absurd H Z71
      ·rw [if_neg nY] at H
       have pV : decide (ep < (eC.length : Int)) = false := decide_eq_false nY
       clear nY
       replace H := Option.bind_eq_some_iff.mp H
       obtain ⟨aV, jp, H⟩ := H
       replace H : (if aV = true then ((ext_Right.f k2 ah).bind fun bi => (some bi)) else (some false)) = some r := H
       have nZ := Aside0.mk jp
       clear jp
       by_cases jf : aV = true
       ·subst jf
        replace H := Sq.itT H
        replace H := Option.bind_eq_some_iff.mp H
        obtain ⟨bi, pX, H⟩ := H
        replace H : (some bi) = some r := H
        have tY := Aside0.mk pX
        clear pX
        obtain rfl := Option.some.inj H
        have hcz38 := cells_25 ae.out
        go_wp2_with (first | ((with_reducible refine Pre.gate_load 25 rfl ?_); (try (refine gate_guard Z23 ?_; dsimp only)); refine Pre.load_event rfl rfl rfl Z23 Z3 Try.underlying25 rfl Z14 ?_) | ((with_reducible refine gate_callee (f := 54) rfl ?_); refine goesL_ (some 53) rfl rfl Try.func54 Z14 rfl #[.int .i64 ai, .int .i64 1] rfl Z4 ?_; (with_reducible refine (octet_Fits.calls ai 1 true _ nZ.out).mono ?_); rintro e w' ⟨rfl, ⟨nd, rfl⟩⟩; refine ⟨_, rfl, ?_⟩) | (go_at_call 55; (with_reducible refine (ext_Right.calls k2 _ _ ah bi _ ?side1 ?side2 tY.out).mono ?_); (case side1 => exact (by repeat (first | exact (Kd.C_below er.out Z0) | (with_reducible refine Kd.C_alloc ?_ _) | (with_reducible refine Kd.C_drewN ?_ _) | (with_reducible refine Kd.C_drew ?_)))); (case side2 => exact br.out); rintro e tv ⟨rfl, hb⟩; replace HO_41 := Aside0.mk (Kd.R_below (by (with_reducible repeat (first | apply Kd.R_alloc | apply Kd.R_drewN | apply Kd.R_drew)); exact HO_41.out) hb); replace ae := Aside0.mk (blk_below (g := ag) Z2 hb); replace HB := Aside0.mk (below_step Z0 hb); clear hb))
        go_ret
        exact ⟨Z5, Z0⟩
       ·replace jf := Bool.eq_false_iff.mpr jf
        subst jf
        replace H := Sq.itF H
        obtain rfl := Option.some.inj H
        have pY := cells_25 ae.out
        go_wp2_with (first | ((with_reducible refine Pre.gate_load 25 rfl ?_); (try (refine gate_guard Z23 ?_; dsimp only)); refine Pre.load_event rfl rfl rfl Z23 Z3 Try.underlying25 rfl Z14 ?_) | ((with_reducible refine gate_callee (f := 54) rfl ?_); refine goesL_ (some 53) rfl rfl Try.func54 Z14 rfl #[.int .i64 ai, .int .i64 1] rfl Z4 ?_; (with_reducible refine (octet_Fits.calls ai 1 false _ nZ.out).mono ?_); rintro e w' ⟨rfl, ⟨nd, rfl⟩⟩; refine ⟨_, rfl, ?_⟩))
        go_ret
        exact ⟨Z5, Z0⟩

/-! ### rreq_word: function 50 -/
def rreq_word.f (k : Nat) (a0 : Int) : Option (ByteArray) := (octet_Put.f k a0 4).bind fun bk => (some bk.1)
theorem rreq_word.mono : ∀ a0 k, LeO (rreq_word.f k a0) (rreq_word.f (k + 1) a0) := by
 intro a0 k
 unfold rreq_word.f
 have m0 := octet_Put.mono
 exact Sq.mo
set_option maxHeartbeats 8000000 in
set_option maxRecDepth 100000 in
theorem rreq_word.calls (k : Nat) (a0 : Int) (r : ByteArray) (w : World) (h : rreq_word.f k a0 = some r) :
  Calls Try.prog 50 #[.int .i64 a0] w fun e w' => e = .returned (.string r) ∧ Below w.heap.size w w' := by
 have HB := Aside0.mk (Below.refl w.heap.size w)
 have H : ((octet_Put.f k a0 4).bind fun bk => (some bk.1)) = some r := h
 clear h
 replace H := Option.bind_eq_some_iff.mp H
 obtain ⟨⟨ck, aM⟩, gb, H⟩ := H
 replace H : (some ck) = some r := H
 have A2 := Aside0.mk gb
 clear gb
 obtain rfl := Option.some.inj H
 go_enter Try.func50, Try.ntmps50
 go_wp2_with (first | ((with_reducible refine gate_callee (f := 67) rfl ?_); refine goesL_ (some 7) rfl rfl Try.func67 Z14 rfl #[.int .i64 a0, .int .i64 4] rfl Z4 ?_; (with_reducible refine (octet_Put.calls k a0 4 ck aM _ A2.out).mono ?_); rintro e w3 ⟨rfl, hb⟩; refine ⟨_, rfl, ?_⟩; replace HB := Aside0.mk (below_step Z1 hb); clear hb))
 go_ret
 exact ⟨Z5, Z1⟩

/-! ### rreq_Put: function 18 -/
def rreq_Put.f (k : Nat) (ax : Int) (av : Int) (aw : Int) (ay : ByteArray) (az : Int) (aH : Int) (aE : ByteArray) (aA : Int) (aD : Int) (aC : ByteArray) (au : Int) (an : ByteArray) (al : Int) (ak : Int) (ar : Int) (af : Int) (ai : Int) (am : Int) (ao : Int) (aa : ByteArray) (ac : ByteArray) (ab : List (S46)) (ap : Int) (aq : ByteArray) (ah : List (S48)) : Option (ByteArray × Bool) := (rreq_Right.f k ax av aw ay az aH aE aA aD aC au an al ak ar af ai am ao aa ac ab ap aq ah).bind fun aM => (if aM = true then ((ext_Put.f k ah).bind fun bu => ((some (([1, (wrap64 (af * 8)) % 256, 0, (ai) % 256] : List Int) : List Int)).bind fun bZ => ((rreq_word.f k am).bind fun aV => (if (strOfNums bZ).size + aV.size ≤ 9223372036854775807 then (if ((strOfNums bZ) ++ aV).size + aa.size ≤ 9223372036854775807 then ((rreq_word.f k al).bind fun bi => (if (((strOfNums bZ) ++ aV) ++ aa).size + bi.size ≤ 9223372036854775807 then (if ((((strOfNums bZ) ++ aV) ++ aa) ++ bi).size + ac.size ≤ 9223372036854775807 then ((rreq_word.f k ak).bind fun bl => (if (((((strOfNums bZ) ++ aV) ++ aa) ++ bi) ++ ac).size + bl.size ≤ 9223372036854775807 then (if ((((((strOfNums bZ) ++ aV) ++ aa) ++ bi) ++ ac) ++ bl).size + bu.1.size ≤ 9223372036854775807 then (some (((((((strOfNums bZ) ++ aV) ++ aa) ++ bi) ++ ac) ++ bl) ++ bu.1, true)) else (none)) else (none))) else (none)) else (none))) else (none)) else (none))))) else (some ((⟨#[]⟩ : ByteArray), false)))
theorem rreq_Put.mono : ∀ a0 a1 a2 a3 a4 a5 a6 a7 a8 a9 gs gu gv gw gy gz gA gB gC gD gE gF gG gH gI k, LeO (rreq_Put.f k a0 a1 a2 a3 a4 a5 a6 a7 a8 a9 gs gu gv gw gy gz gA gB gC gD gE gF gG gH gI) (rreq_Put.f (k + 1) a0 a1 a2 a3 a4 a5 a6 a7 a8 a9 gs gu gv gw gy gz gA gB gC gD gE gF gG gH gI) := by
 intros
 rename_i k
 unfold rreq_Put.f
 have m0 := ext_Put.mono
 have m1 := rreq_Right.mono
 have m2 := rreq_word.mono
 exact Sq.mo
def rreq_Put.T5 : Bool × List (List Nat × List Nat) := (true, [([], []), ([], []), ([1], [1]), ([2], [2]), ([0, 3], [0, 3]), ([], []), ([5], [5]), ([4, 6], [4, 6]), ([], []), ([8], [8]), ([9, 3], [9]), ([7, 10], [7, 10]), ([], []), ([12], [12]), ([11, 13], [11, 13]), ([], []), ([15], [15]), ([16, 10], [16]), ([14, 17], [14, 17]), ([], []), ([18, 19], [18, 19]), ([20, 17, 0, 1, 2, 3, 4, 5, 6, 7, 8, 9, 10, 11, 12, 13, 14, 15, 16, 17, 18, 19, 20], [20]), ([21, 0, 1, 2, 3, 4, 5, 6, 7, 8, 9, 10, 11, 12, 13, 14, 15, 16, 17, 18, 19, 20, 21], [])])
def rreq_Put.B5 : List Nat := [0, 0, 2, 6, 15, 0, 32, 127, 0, 256, 782, 2047, 0, 4096, 16383, 0, 32768, 100110, 262143, 0, 1048575, 2097151, 4194303]
theorem rreq_Put.tab5 : rtab .any (opsOf Try.f18 5) = rreq_Put.T5 := by kernel_rfl
theorem rreq_Put.bits5 : waitsOk rreq_Put.T5.2 rreq_Put.B5 = true := by kernel_rfl

set_option maxHeartbeats 8000000 in
set_option maxRecDepth 100000 in
theorem rreq_Put.calls (k : Nat) (ax : Int) (av : Int) (aw : Int) (ay : ByteArray) (az : Int) (aH : Int) (aE : ByteArray) (aA : Int) (aD : Int) (aC : ByteArray) (au : Int) (an : ByteArray) (al : Int) (ak : Int) (ar : Int) (af : Int) (ai : Int) (am : Int) (ao : Int) (aa : ByteArray) (ac : ByteArray) (bg : Option Addr) (bb : Nat) (ab : List (S46)) (ap : Int) (aq : ByteArray) (aZ : Option Addr) (ba : Nat) (ah : List (S48)) (r1 : ByteArray) (r2 : Bool) (w : World) (cf : Kd.C k46 w bg ab.length ab) (cg : ab.length ≤ bb) (ch : Kd.C k48 w aZ ah.length ah) (ci : ah.length ≤ ba) (h : rreq_Put.f k ax av aw ay az aH aE aA aD aC au an al ak ar af ai am ao aa ac ab ap aq ah = some (r1, r2)) :
  Calls Try.prog 18 #[.agg #[.int .i64 ax, .int .i64 av, .int .i64 aw, .string ay, .int .i64 az, .int .i64 aH, .string aE, .int .i64 aA, .int .i64 aD, .string aC, .int .i64 au, .string an, .int .i64 al, .int .i64 ak, .int .i64 ar, .int .i64 af, .int .i64 ai, .int .i64 am, .int .i64 ao, .string aa, .string ac, .slice bg ab.length bb, .int .i64 ap, .string aq, .slice aZ ah.length ba]] w fun e w' => e = .returned (.tuple #[.string r1, .bool r2]) ∧ Below w.heap.size w w' := by
 have fi := Try.underlying25
 have ed := Aside0.mk cf
 have bM := Aside0.mk cg
 clear cf cg
 have er := Aside0.mk ch
 have br := Aside0.mk ci
 clear ch ci
 have HB := Aside0.mk (Below.refl w.heap.size w)
 have H : ((rreq_Right.f k ax av aw ay az aH aE aA aD aC au an al ak ar af ai am ao aa ac ab ap aq ah).bind fun aM => (if aM = true then ((ext_Put.f k ah).bind fun bu => ((some (([1, (wrap64 (af * 8)) % 256, 0, (ai) % 256] : List Int) : List Int)).bind fun bZ => ((rreq_word.f k am).bind fun aV => (if (strOfNums bZ).size + aV.size ≤ 9223372036854775807 then (if ((strOfNums bZ) ++ aV).size + aa.size ≤ 9223372036854775807 then ((rreq_word.f k al).bind fun bi => (if (((strOfNums bZ) ++ aV) ++ aa).size + bi.size ≤ 9223372036854775807 then (if ((((strOfNums bZ) ++ aV) ++ aa) ++ bi).size + ac.size ≤ 9223372036854775807 then ((rreq_word.f k ak).bind fun bl => (if (((((strOfNums bZ) ++ aV) ++ aa) ++ bi) ++ ac).size + bl.size ≤ 9223372036854775807 then (if ((((((strOfNums bZ) ++ aV) ++ aa) ++ bi) ++ ac) ++ bl).size + bu.1.size ≤ 9223372036854775807 then (some (((((((strOfNums bZ) ++ aV) ++ aa) ++ bi) ++ ac) ++ bl) ++ bu.1, true)) else (none)) else (none))) else (none)) else (none))) else (none)) else (none))))) else (some ((⟨#[]⟩ : ByteArray), false)))) = some (r1, r2) := h
 clear h
 replace H := Option.bind_eq_some_iff.mp H
 obtain ⟨aM, gb, H⟩ := H
 replace H : (if aM = true then ((ext_Put.f k ah).bind fun bu => ((some (([1, (wrap64 (af * 8)) % 256, 0, (ai) % 256] : List Int) : List Int)).bind fun bZ => ((rreq_word.f k am).bind fun aV => (if (strOfNums bZ).size + aV.size ≤ 9223372036854775807 then (if ((strOfNums bZ) ++ aV).size + aa.size ≤ 9223372036854775807 then ((rreq_word.f k al).bind fun bi => (if (((strOfNums bZ) ++ aV) ++ aa).size + bi.size ≤ 9223372036854775807 then (if ((((strOfNums bZ) ++ aV) ++ aa) ++ bi).size + ac.size ≤ 9223372036854775807 then ((rreq_word.f k ak).bind fun bl => (if (((((strOfNums bZ) ++ aV) ++ aa) ++ bi) ++ ac).size + bl.size ≤ 9223372036854775807 then (if ((((((strOfNums bZ) ++ aV) ++ aa) ++ bi) ++ ac) ++ bl).size + bu.1.size ≤ 9223372036854775807 then (some (((((((strOfNums bZ) ++ aV) ++ aa) ++ bi) ++ ac) ++ bl) ++ bu.1, true)) else (none)) else (none))) else (none)) else (none))) else (none)) else (none))))) else (some ((⟨#[]⟩ : ByteArray), false))) = some (r1, r2) := H
 have A2 := Aside0.mk gb
 clear gb
 by_cases c3 : aM = true
 ·subst c3
  have H1 : ((ext_Put.f k ah).bind fun bu => ((some (([1, (wrap64 (af * 8)) % 256, 0, (ai) % 256] : List Int) : List Int)).bind fun bZ => ((rreq_word.f k am).bind fun aV => (if (strOfNums bZ).size + aV.size ≤ 9223372036854775807 then (if ((strOfNums bZ) ++ aV).size + aa.size ≤ 9223372036854775807 then ((rreq_word.f k al).bind fun bi => (if (((strOfNums bZ) ++ aV) ++ aa).size + bi.size ≤ 9223372036854775807 then (if ((((strOfNums bZ) ++ aV) ++ aa) ++ bi).size + ac.size ≤ 9223372036854775807 then ((rreq_word.f k ak).bind fun bl => (if (((((strOfNums bZ) ++ aV) ++ aa) ++ bi) ++ ac).size + bl.size ≤ 9223372036854775807 then (if ((((((strOfNums bZ) ++ aV) ++ aa) ++ bi) ++ ac) ++ bl).size + bu.1.size ≤ 9223372036854775807 then (some (((((((strOfNums bZ) ++ aV) ++ aa) ++ bi) ++ ac) ++ bl) ++ bu.1, true)) else (none)) else (none))) else (none)) else (none))) else (none)) else (none))))) = some (r1, r2) := by rw [if_pos rfl] at H; exact H
  clear H
  have H := H1
  clear H1
  replace H := Option.bind_eq_some_iff.mp H
  obtain ⟨⟨aW, aY⟩, ku, H⟩ := H
  replace H : ((some (([1, (wrap64 (af * 8)) % 256, 0, (ai) % 256] : List Int) : List Int)).bind fun bZ => ((rreq_word.f k am).bind fun aV => (if (strOfNums bZ).size + aV.size ≤ 9223372036854775807 then (if ((strOfNums bZ) ++ aV).size + aa.size ≤ 9223372036854775807 then ((rreq_word.f k al).bind fun bi => (if (((strOfNums bZ) ++ aV) ++ aa).size + bi.size ≤ 9223372036854775807 then (if ((((strOfNums bZ) ++ aV) ++ aa) ++ bi).size + ac.size ≤ 9223372036854775807 then ((rreq_word.f k ak).bind fun bl => (if (((((strOfNums bZ) ++ aV) ++ aa) ++ bi) ++ ac).size + bl.size ≤ 9223372036854775807 then (if ((((((strOfNums bZ) ++ aV) ++ aa) ++ bi) ++ ac) ++ bl).size + aW.size ≤ 9223372036854775807 then (some (((((((strOfNums bZ) ++ aV) ++ aa) ++ bi) ++ ac) ++ bl) ++ aW, true)) else (none)) else (none))) else (none)) else (none))) else (none)) else (none)))) = some (r1, r2) := H
  have A4 := Aside0.mk ku
  clear ku
  obtain ⟨bZ, hy105⟩ : ∃ y_ : List Int, y_ = (([1, (wrap64 (af * 8)) % 256, 0, (ai) % 256] : List Int)) := ⟨_, rfl⟩
  replace H : ((rreq_word.f k am).bind fun aV => (if (strOfNums bZ).size + aV.size ≤ 9223372036854775807 then (if ((strOfNums bZ) ++ aV).size + aa.size ≤ 9223372036854775807 then ((rreq_word.f k al).bind fun bi => (if (((strOfNums bZ) ++ aV) ++ aa).size + bi.size ≤ 9223372036854775807 then (if ((((strOfNums bZ) ++ aV) ++ aa) ++ bi).size + ac.size ≤ 9223372036854775807 then ((rreq_word.f k ak).bind fun bl => (if (((((strOfNums bZ) ++ aV) ++ aa) ++ bi) ++ ac).size + bl.size ≤ 9223372036854775807 then (if ((((((strOfNums bZ) ++ aV) ++ aa) ++ bi) ++ ac) ++ bl).size + aW.size ≤ 9223372036854775807 then (some (((((((strOfNums bZ) ++ aV) ++ aa) ++ bi) ++ ac) ++ bl) ++ aW, true)) else (none)) else (none))) else (none)) else (none))) else (none)) else (none))) = some (r1, r2) := by first | (rw [hy105]; with_reducible exact H) | (have H2_ := (Option.bind_some _ _).symm.trans H; rw [hy105]; with_reducible exact H2_) | (have H2_ := (Option.bind_some _ _).symm.trans H; with_reducible exact H2_) | with_reducible exact H | (rw [hy105]; exact H) | exact H
  have Ny105 := Aside0.mk hy105
  clear hy105
  replace H := Option.bind_eq_some_iff.mp H
  obtain ⟨aV, jc, H⟩ := H
  replace H : (if (strOfNums bZ).size + aV.size ≤ 9223372036854775807 then (if ((strOfNums bZ) ++ aV).size + aa.size ≤ 9223372036854775807 then ((rreq_word.f k al).bind fun bi => (if (((strOfNums bZ) ++ aV) ++ aa).size + bi.size ≤ 9223372036854775807 then (if ((((strOfNums bZ) ++ aV) ++ aa) ++ bi).size + ac.size ≤ 9223372036854775807 then ((rreq_word.f k ak).bind fun bl => (if (((((strOfNums bZ) ++ aV) ++ aa) ++ bi) ++ ac).size + bl.size ≤ 9223372036854775807 then (if ((((((strOfNums bZ) ++ aV) ++ aa) ++ bi) ++ ac) ++ bl).size + aW.size ≤ 9223372036854775807 then (some (((((((strOfNums bZ) ++ aV) ++ aa) ++ bi) ++ ac) ++ bl) ++ aW, true)) else (none)) else (none))) else (none)) else (none))) else (none)) else (none)) = some (r1, r2) := H
  have A5 := Aside0.mk jc
  clear jc
  by_cases c6 : (strOfNums bZ).size + aV.size ≤ 9223372036854775807
  ·rw [if_pos c6] at H
   have fg := eq_true c6
   have fQ : decide ((strOfNums bZ).size + aV.size ≤ 9223372036854775807) = true := decide_eq_true c6
   try have oB : (9223372036854775807 < (strOfNums bZ).size + aV.size) = False := eq_false (Nat.not_lt.2 c6)
   try (have oC := oB; simp only [ByteArray.size_append] at oC)
   by_cases c7 : ((strOfNums bZ) ++ aV).size + aa.size ≤ 9223372036854775807
   ·rw [if_pos c7] at H
    have fp := eq_true c7
    have jF : decide (((strOfNums bZ) ++ aV).size + aa.size ≤ 9223372036854775807) = true := decide_eq_true c7
    try have sG : (9223372036854775807 < ((strOfNums bZ) ++ aV).size + aa.size) = False := eq_false (Nat.not_lt.2 c7)
    try (have sH := sG; simp only [ByteArray.size_append] at sH)
    replace H := Option.bind_eq_some_iff.mp H
    obtain ⟨bi, nA, H⟩ := H
    replace H : (if (((strOfNums bZ) ++ aV) ++ aa).size + bi.size ≤ 9223372036854775807 then (if ((((strOfNums bZ) ++ aV) ++ aa) ++ bi).size + ac.size ≤ 9223372036854775807 then ((rreq_word.f k ak).bind fun bl => (if (((((strOfNums bZ) ++ aV) ++ aa) ++ bi) ++ ac).size + bl.size ≤ 9223372036854775807 then (if ((((((strOfNums bZ) ++ aV) ++ aa) ++ bi) ++ ac) ++ bl).size + aW.size ≤ 9223372036854775807 then (some (((((((strOfNums bZ) ++ aV) ++ aa) ++ bi) ++ ac) ++ bl) ++ aW, true)) else (none)) else (none))) else (none)) else (none)) = some (r1, r2) := H
    have A8 := Aside0.mk nA
    clear nA
    by_cases c9 : (((strOfNums bZ) ++ aV) ++ aa).size + bi.size ≤ 9223372036854775807
    ·rw [if_pos c9] at H
     have ic := eq_true c9
     have kv : decide ((((strOfNums bZ) ++ aV) ++ aa).size + bi.size ≤ 9223372036854775807) = true := decide_eq_true c9
     try have oD : (9223372036854775807 < (((strOfNums bZ) ++ aV) ++ aa).size + bi.size) = False := eq_false (Nat.not_lt.2 c9)
     try (have sI := oD; simp only [ByteArray.size_append] at sI)
     by_cases ey : ((((strOfNums bZ) ++ aV) ++ aa) ++ bi).size + ac.size ≤ 9223372036854775807
     ·rw [if_pos ey] at H
      have eW := eq_true ey
      have gK : decide (((((strOfNums bZ) ++ aV) ++ aa) ++ bi).size + ac.size ≤ 9223372036854775807) = true := decide_eq_true ey
      try have qL : (9223372036854775807 < ((((strOfNums bZ) ++ aV) ++ aa) ++ bi).size + ac.size) = False := eq_false (Nat.not_lt.2 ey)
      try (have qM := qL; simp only [ByteArray.size_append] at qM)
      replace H := Option.bind_eq_some_iff.mp H
      obtain ⟨bl, kP, H⟩ := H
      replace H : (if (((((strOfNums bZ) ++ aV) ++ aa) ++ bi) ++ ac).size + bl.size ≤ 9223372036854775807 then (if ((((((strOfNums bZ) ++ aV) ++ aa) ++ bi) ++ ac) ++ bl).size + aW.size ≤ 9223372036854775807 then (some (((((((strOfNums bZ) ++ aV) ++ aa) ++ bi) ++ ac) ++ bl) ++ aW, true)) else (none)) else (none)) = some (r1, r2) := H
      have sh := Aside0.mk kP
      clear kP
      by_cases fR : (((((strOfNums bZ) ++ aV) ++ aa) ++ bi) ++ ac).size + bl.size ≤ 9223372036854775807
      ·rw [if_pos fR] at H
       have hG := eq_true fR
       have np : decide ((((((strOfNums bZ) ++ aV) ++ aa) ++ bi) ++ ac).size + bl.size ≤ 9223372036854775807) = true := decide_eq_true fR
       try have qN : (9223372036854775807 < (((((strOfNums bZ) ++ aV) ++ aa) ++ bi) ++ ac).size + bl.size) = False := eq_false (Nat.not_lt.2 fR)
       try (have qO := qN; simp only [ByteArray.size_append] at qO)
       by_cases eU : ((((((strOfNums bZ) ++ aV) ++ aa) ++ bi) ++ ac) ++ bl).size + aW.size ≤ 9223372036854775807
       ·rw [if_pos eU] at H
        have gL := eq_true eU
        have hM : decide (((((((strOfNums bZ) ++ aV) ++ aa) ++ bi) ++ ac) ++ bl).size + aW.size ≤ 9223372036854775807) = true := decide_eq_true eU
        try have qP : (9223372036854775807 < ((((((strOfNums bZ) ++ aV) ++ aa) ++ bi) ++ ac) ++ bl).size + aW.size) = False := eq_false (Nat.not_lt.2 eU)
        try (have qQ := qP; simp only [ByteArray.size_append] at qQ)
        simp only [Option.some.injEq, Prod.mk.injEq] at H
        obtain ⟨rfl, rfl⟩ := H
        go_enter Try.func18, Try.ntmps18
        try go_wp2_with (first | ((with_reducible refine Pre.gate_load 25 rfl ?_); (try (refine gate_guard Z23 ?_; dsimp only)); refine Pre.load_event rfl rfl rfl Z23 Z3 Try.underlying25 rfl Z14 ?_) | ((with_reducible refine gate_dst (N := 1) rfl ?_); refine Sq.box 1 #[.int .i64 ax, .int .i64 av, .int .i64 aw, .string ay, .int .i64 az, .int .i64 aH, .string aE, .int .i64 aA, .int .i64 aD, .string aC, .int .i64 au, .string an, .int .i64 al, .int .i64 ak, .int .i64 ar, .int .i64 af, .int .i64 ai, .int .i64 am, .int .i64 ao, .string aa, .string ac, .slice bg ab.length bb, .int .i64 ap, .string aq, .slice aZ ah.length ba] 25 ?_; intro ag hg lr hbox hb; have ae := Aside0.mk (hbox); have cp := Aside0.mk (Sq.ge hg Z1); have bm := Aside0.mk (Sq.ge hg Z1); replace HB := Aside0.mk (below_step Z1 hb); clear hb hbox hg; have lH := cells_25 ae.out) | ((with_reducible refine gate_callee (f := 20) rfl ?_); refine goesL_ (some 8) rfl rfl Try.func20 Z14 rfl #[.agg #[.int .i64 ax, .int .i64 av, .int .i64 aw, .string ay, .int .i64 az, .int .i64 aH, .string aE, .int .i64 aA, .int .i64 aD, .string aC, .int .i64 au, .string an, .int .i64 al, .int .i64 ak, .int .i64 ar, .int .i64 af, .int .i64 ai, .int .i64 am, .int .i64 ao, .string aa, .string ac, .slice bg ab.length bb, .int .i64 ap, .string aq, .slice aZ ah.length ba]] rfl Z4 ?_; (with_reducible refine (rreq_Right.calls k ax av aw ay az aH aE aA aD aC au an al ak ar af ai am ao aa ac _ _ ab ap aq _ _ ah true _ ?side1 ?side2 ?side3 ?side4 A2.out).mono ?_); (case side1 => exact Z10); (case side2 => exact bM.out); (case side3 => exact Z7); (case side4 => exact br.out); rintro e jG ⟨rfl, hb⟩; refine ⟨_, rfl, ?_⟩; replace ae := Aside0.mk (blk_below (g := ag) Z2 hb); replace HB := Aside0.mk (below_step Z0 hb); clear hb; have nh := cells_25 ae.out) | ((with_reducible refine gate_callee (f := 49) rfl ?_); refine goesL_ (some 13) rfl rfl Try.func49 Z14 rfl #[.slice aZ ah.length ba] rfl Z4 ?_; (with_reducible refine (ext_Put.calls k _ _ ah aW aY _ ?side1 ?side2 A4.out).mono ?_); (case side1 => exact Z7); (case side2 => exact br.out); rintro e li ⟨rfl, hb⟩; refine ⟨_, rfl, ?_⟩; replace ae := Aside0.mk (blk_below (g := ag) Z2 hb); replace HB := Aside0.mk (below_step Z0 hb); clear hb; have jo := cells_25 ae.out) | ((with_reducible refine gate_dst (N := 23) rfl ?_); refine Kd.R_lit (Kd.int .u8) _ 5 ?hg (N := 23) ?hd (xs := ([1, (wrap64 (af * 8)) % 256, 0, (ai) % 256] : List Int)) (inner := [.int .u8 1, .int .u8 ((wrap64 (af * 8)) % 256), .int .u8 0, .int .u8 ((ai) % 256)]) (ok := fun _ => True) (okp := fun _ => True) ?hr ?hp (fun _ hk => hk) trivial (Below.refl _ _) (Nat.le_refl _) Z71 ?_; (case hd => rfl); (case hg => rfl); (case hr => first | (go_simp; done) | (go_simp; rfl)); (case hp => exact (Reps.one (show Kd.M (Kd.int .u8) _ _ _ 1 [.int .u8 1] from rfl) (Reps.one (show Kd.M (Kd.int .u8) _ _ _ ((wrap64 (af * 8)) % 256) [.int .u8 ((wrap64 (af * 8)) % 256)] from rfl) (Reps.one (show Kd.M (Kd.int .u8) _ _ _ 0 [.int .u8 0] from rfl) (Reps.one (show Kd.M (Kd.int .u8) _ _ _ ((ai) % 256) [.int .u8 ((ai) % 256)] from rfl) (Reps.none _ _)))))); intro v106 jL ho21 hb hg_ hnew_; clear hg_ hnew_; (first | rw [← Ny105.out] at ho21 | (simp only [Int.reduceToNat] at ho21; rw [← Ny105.out] at ho21)); have fJ := Aside0.mk (Kd.R_lower ho21 (below_size Z0)); replace ae := Aside0.mk (blk_below (g := ag) Z2 hb); replace HB := Aside0.mk (below_step Z0 hb); clear hb ho21; have hcv22 := own_string (P := Try.prog) Try.underlying51 Try.underlying5 Try.underlying9 (Kd.own_of_R fJ.out)))
        have bY := Aside0.mk (Kd.R_drew fJ.out)
        have ca := Aside0.mk (blk_drew ae.out)
        have cZ := Aside0.mk (below_drew1 HB.out)
        clear fJ
        clear ae
        clear HB
        have fJ := bY
        have ae := ca
        have HB := cZ
        clear bY ca cZ
        refine start_ (n := 23) (S := fun w' => w'.cell? ⟨ag, 12, none⟩ = some (.int .i64 al) ∧ w'.cell? ⟨ag, 13, none⟩ = some (.int .i64 ak) ∧ w'.cell? ⟨ag, 17, none⟩ = some (.int .i64 am) ∧ w'.cell? ⟨ag, 19, none⟩ = some (.string aa) ∧ w'.cell? ⟨ag, 20, none⟩ = some (.string ac)) (ds := []) (Sq.b 23 0) Z14 rfl rfl ⟨Sq.bc ae 12, Sq.bc ae 13, Sq.bc ae 17, Sq.bc ae 19, Sq.bc ae 20⟩ (fun hHeld => ?_); refine with_tabW rreq_Put.tab5 rreq_Put.bits5 (fun HT_ HW_ => ?_)
        generalize jL.drew = jS at fJ ae HB hHeld ⊢
        refine Sq.pur 0 (some 25) (Sq.b 23 1) HT_.out ?_
        refine Sq.pur 1 (some 26) (Sq.b 23 3) HT_.out ?_
        refine Sq.pur 5 (some 30) (Sq.b 23 35) HT_.out ?_
        refine Sq.pur 8 (some 33) (Sq.b 23 291) HT_.out ?_
        refine Sq.pur 12 (some 37) (Sq.b 23 4387) HT_.out ?_
        refine Sq.pur 15 (some 40) (Sq.b 23 37155) HT_.out ?_
        refine Sq.pur 19 (some 44) (Sq.b 23 561443) HT_.out ?_
        refine Sq.tak 2 (some 27) (Sq.b 23 561447) HT_.out HW_.out hHeld (v := ?_) (a' := ?_) ?_ ?_ ?_
        rotate_left
        ·rintro w' ⟨s0, s1, s2, s3, s4⟩
         go_simp
         with_reducible rfl
        rotate_left
        ·simp only [Act.put, Sq.s1, Sq.s2, Sq.s3, i64_w, i32_w]
         rfl
        refine Sq.tak 6 (some 31) (Sq.b 23 561511) HT_.out HW_.out hHeld (v := ?_) (a' := ?_) ?_ ?_ ?_
        rotate_left
        ·rintro w' ⟨s0, s1, s2, s3, s4⟩
         go_simp
         with_reducible rfl
        rotate_left
        ·simp only [Act.put, Sq.s1, Sq.s2, Sq.s3, i64_w, i32_w]
         rfl
        refine Sq.tak 9 (some 34) (Sq.b 23 562023) HT_.out HW_.out hHeld (v := ?_) (a' := ?_) ?_ ?_ ?_
        rotate_left
        ·rintro w' ⟨s0, s1, s2, s3, s4⟩
         go_simp
         with_reducible rfl
        rotate_left
        ·simp only [Act.put, Sq.s1, Sq.s2, Sq.s3, i64_w, i32_w]
         rfl
        refine Sq.tak 13 (some 38) (Sq.b 23 570215) HT_.out HW_.out hHeld (v := ?_) (a' := ?_) ?_ ?_ ?_
        rotate_left
        ·rintro w' ⟨s0, s1, s2, s3, s4⟩
         go_simp
         with_reducible rfl
        rotate_left
        ·simp only [Act.put, Sq.s1, Sq.s2, Sq.s3, i64_w, i32_w]
         rfl
        refine Sq.tak 16 (some 41) (Sq.b 23 635751) HT_.out HW_.out hHeld (v := ?_) (a' := ?_) ?_ ?_ ?_
        rotate_left
        ·rintro w' ⟨s0, s1, s2, s3, s4⟩
         go_simp
         with_reducible rfl
        rotate_left
        ·simp only [Act.put, Sq.s1, Sq.s2, Sq.s3, i64_w, i32_w]
         rfl
        refine one_ (i := 3) (N := some 28) (Sq.b 23 635759) rfl rfl (one_of HT_.out Z14) Z29 (fun K hK => ?_)
        refine goes_ Try.func50 Z14 rfl #[.int .i64 am] Z23 rfl rfl Z4 ?_
        with_reducible refine (rreq_word.calls k am aV _ A5.out).mono ?_
        rintro e oa ⟨rfl, hb⟩
        refine ⟨_, rfl, ?_⟩
        have bY := Aside0.mk (Kd.R_below Z88 hb)
        have ca := Aside0.mk (blk_below (g := ag) Z2 hb)
        have cZ := Aside0.mk (below_step Z0 hb)
        clear fJ
        clear ae
        clear HB
        have fJ := bY
        have ae := ca
        have HB := cZ
        clear bY ca cZ
        (try clear hb)
        (try clear hb2)
        (try clear hk)
        (try clear hi)
        refine hK.out _ _ ⟨Sq.bc ae 12, Sq.bc ae 13, Sq.bc ae 17, Sq.bc ae 19, Sq.bc ae 20⟩ (fun hHeld => ?_)
        clear hK K
        refine norm_ (a' := ?_) ?_ ?_
        rotate_left
        ·show Act.put _ (some 28) _ = _
         simp only [Act.put, Sq.s1, Sq.s2, Sq.s3, i64_w, i32_w]
         rfl
        refine Sq.pur 4 (some 29) (Sq.b 23 635775) HT_.out ?_
        refine Sq.pur 7 (some 32) (Sq.b 23 635903) HT_.out ?_
        refine one_ (i := 10) (N := some 35) (Sq.b 23 636927) rfl rfl (one_of HT_.out Z14) Z29 (fun K hK => ?_)
        refine goes_ Try.func50 Z14 rfl #[.int .i64 al] Z23 rfl rfl Z4 ?_
        with_reducible refine (rreq_word.calls k al bi _ A8.out).mono ?_
        rintro e tw ⟨rfl, hb⟩
        refine ⟨_, rfl, ?_⟩
        have bY := Aside0.mk (Kd.R_below Z88 hb)
        have ca := Aside0.mk (blk_below (g := ag) Z2 hb)
        have cZ := Aside0.mk (below_step Z0 hb)
        clear fJ
        clear ae
        clear HB
        have fJ := bY
        have ae := ca
        have HB := cZ
        clear bY ca cZ
        (try clear hb)
        (try clear hb2)
        (try clear hk)
        (try clear hi)
        refine hK.out _ _ ⟨Sq.bc ae 12, Sq.bc ae 13, Sq.bc ae 17, Sq.bc ae 19, Sq.bc ae 20⟩ (fun hHeld => ?_)
        clear hK K
        refine norm_ (a' := ?_) ?_ ?_
        rotate_left
        ·show Act.put _ (some 35) _ = _
         simp only [Act.put, Sq.s1, Sq.s2, Sq.s3, i64_w, i32_w]
         rfl
        refine Sq.pur 11 (some 36) (Sq.b 23 638975) HT_.out ?_
        refine Sq.pur 14 (some 39) (Sq.b 23 655359) HT_.out ?_
        refine one_ (i := 17) (N := some 42) (Sq.b 23 786431) rfl rfl (one_of HT_.out Z14) Z29 (fun K hK => ?_)
        refine goes_ Try.func50 Z14 rfl #[.int .i64 ak] Z23 rfl rfl Z4 ?_
        with_reducible refine (rreq_word.calls k ak bl _ sh.out).mono ?_
        rintro e jM ⟨rfl, hb⟩
        refine ⟨_, rfl, ?_⟩
        have bY := Aside0.mk (Kd.R_below Z88 hb)
        have ca := Aside0.mk (blk_below (g := ag) Z2 hb)
        have cZ := Aside0.mk (below_step Z0 hb)
        clear fJ
        clear ae
        clear HB
        have fJ := bY
        have ae := ca
        have HB := cZ
        clear bY ca cZ
        (try clear hb)
        (try clear hb2)
        (try clear hk)
        (try clear hi)
        refine hK.out _ _ ⟨Sq.bc ae 12, Sq.bc ae 13, Sq.bc ae 17, Sq.bc ae 19, Sq.bc ae 20⟩ (fun hHeld => ?_)
        clear hK K
        refine norm_ (a' := ?_) ?_ ?_
        rotate_left
        ·show Act.put _ (some 42) _ = _
         simp only [Act.put, Sq.s1, Sq.s2, Sq.s3, i64_w, i32_w]
         rfl
        refine Sq.pur 18 (some 43) (Sq.b 23 1048575) HT_.out ?_
        refine Sq.pur 20 (some 45) (Sq.b 23 2097151) HT_.out ?_
        refine Sq.pur 21 (some 2) (Sq.b 23 4194303) HT_.out ?_
        refine Sq.pur 22 (some 3) (Sq.b 23 8388607) HT_.out ?_
        refine done_ (done_of HT_.out Z14) ?_
        try go_wp2_with (first | ((with_reducible refine Pre.gate_load 25 rfl ?_); (try (refine gate_guard Z23 ?_; dsimp only)); refine Pre.load_event rfl rfl rfl Z23 Z3 Try.underlying25 rfl Z14 ?_))
        go_ret2
        exact ⟨Z5, Z0⟩
       ·rw [if_neg eU] at H
        exact absurd H Z71
      ·rw [if_neg fR] at H
       exact absurd H Z71
     ·rw [if_neg ey] at H
      exact absurd H Z71
    ·rw [if_neg c9] at H
     exact absurd H Z71
   ·rw [if_neg c7] at H
    exact absurd H Z71
  ·rw [if_neg c6] at H
   exact absurd H Z71
 ·replace c3 := Bool.eq_false_iff.mpr c3
  subst c3
  have H1 : (some ((⟨#[]⟩ : ByteArray), false)) = some (r1, r2) := by rw [if_neg (show ¬ (false = true) by decide)] at H; exact H
  clear H
  have H := H1
  clear H1
  simp only [Option.some.injEq, Prod.mk.injEq] at H
  obtain ⟨rfl, rfl⟩ := H
  go_enter Try.func18, Try.ntmps18
  go_wp2_with (first | ((with_reducible refine Pre.gate_load 25 rfl ?_); (try (refine gate_guard Z23 ?_; dsimp only)); refine Pre.load_event rfl rfl rfl Z23 Z3 Try.underlying25 rfl Z14 ?_) | ((with_reducible refine gate_dst (N := 1) rfl ?_); refine Sq.box 1 #[.int .i64 ax, .int .i64 av, .int .i64 aw, .string ay, .int .i64 az, .int .i64 aH, .string aE, .int .i64 aA, .int .i64 aD, .string aC, .int .i64 au, .string an, .int .i64 al, .int .i64 ak, .int .i64 ar, .int .i64 af, .int .i64 ai, .int .i64 am, .int .i64 ao, .string aa, .string ac, .slice bg ab.length bb, .int .i64 ap, .string aq, .slice aZ ah.length ba] 25 ?_; intro ag hg mi hbox hb; have ae := Aside0.mk (hbox); have cp := Aside0.mk (Sq.ge hg Z1); have bm := Aside0.mk (Sq.ge hg Z1); replace HB := Aside0.mk (below_step Z1 hb); clear hb hbox hg; have lk := cells_25 ae.out) | ((with_reducible refine gate_callee (f := 20) rfl ?_); refine goesL_ (some 8) rfl rfl Try.func20 Z14 rfl #[.agg #[.int .i64 ax, .int .i64 av, .int .i64 aw, .string ay, .int .i64 az, .int .i64 aH, .string aE, .int .i64 aA, .int .i64 aD, .string aC, .int .i64 au, .string an, .int .i64 al, .int .i64 ak, .int .i64 ar, .int .i64 af, .int .i64 ai, .int .i64 am, .int .i64 ao, .string aa, .string ac, .slice bg ab.length bb, .int .i64 ap, .string aq, .slice aZ ah.length ba]] rfl Z4 ?_; (with_reducible refine (rreq_Right.calls k ax av aw ay az aH aE aA aD aC au an al ak ar af ai am ao aa ac _ _ ab ap aq _ _ ah false _ ?side1 ?side2 ?side3 ?side4 A2.out).mono ?_); (case side1 => exact Z10); (case side2 => exact bM.out); (case side3 => exact Z7); (case side4 => exact br.out); rintro e rS ⟨rfl, hb⟩; refine ⟨_, rfl, ?_⟩; replace ae := Aside0.mk (blk_below (g := ag) Z2 hb); replace HB := Aside0.mk (below_step Z0 hb); clear hb))
  go_ret2
  exact ⟨Z5, Z0⟩

end Go.Proofs.Ytccjakjjaemmkaa.PAB
