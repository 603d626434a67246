-- Written by mp.py, a program of this work (wip/tools), out of the translation; Lean checks it.
import Derived.Test.YtccjakjjaemmkaaPABxZ
import Derived.Test.YtccjakjjaemmkaaPABxEq
namespace Go.Proofs.Ytccjakjjaemmkaa.PAB
open Go.RowKit Go.Proofs.YtccjakjjaemmkaaW.PrintWords Go.Proofs.YtccjakjjaemmkaaW.PrintLast Go.Proofs.YtccjakjjaemmkaaW.PrintMore
attribute [local go_sem] max2_int min2_int max_two min_two max_three min_three max_four min_four   -- for this text's walks alone
set_option linter.unusedVariables false
set_option linter.unusedSimpArgs false

attribute [local go_sem high] eqA46 eqA48
/-! ### roadbookref07_Few: function 16 -/
mutual
def roadbookref07_Few.j0 : Nat → Bool → Int → Int → Int → ByteArray → Int → Int → ByteArray → Int → Int → ByteArray → Int → ByteArray → Int → Int → Int → Int → Int → Int → Int → ByteArray → ByteArray → List (S46) → Int → ByteArray → List (S48) → Option (Bool)
 | 0, _, _, _, _, _, _, _, _, _, _, _, _, _, _, _, _, _, _, _, _, _, _, _, _, _, _ => none
 | k + 1, uf, bB, bN, bO, bP, bQ, bR, bS, bC, bT, bU, bV, bI, bw, bD, bE, bx, bA, bF, bJ, bG, bH, bs, bK, bL, bp => if uf = true then (some false) else (roadbookref07_Few.l0 k 0 bB bN bO bP bQ bR bS bC bT bU bV bI bw bD bE bx bA bF bJ bG bH bs bK bL bp)
def roadbookref07_Few.l0 : Nat → Int → Int → Int → Int → ByteArray → Int → Int → ByteArray → Int → Int → ByteArray → Int → ByteArray → Int → Int → Int → Int → Int → Int → Int → ByteArray → ByteArray → List (S46) → Int → ByteArray → List (S48) → Option (Bool)
 | 0, _, _, _, _, _, _, _, _, _, _, _, _, _, _, _, _, _, _, _, _, _, _, _, _, _, _ => none
 | k + 1, x3, bB, bN, bO, bP, bQ, bR, bS, bC, bT, bU, bV, bI, bw, bD, bE, bx, bA, bF, bJ, bG, bH, bs, bK, bL, bp => if x3 < (bs.length : Int) then (if 0 ≤ x3 then (if (((rd_T46 bs x3).f0).size : Int) > 50 then (some false) else (roadbookref07_Few.l0 k (wrap64 (x3 + 1)) bB bN bO bP bQ bR bS bC bT bU bV bI bw bD bE bx bA bF bJ bG bH bs bK bL bp)) else (none)) else (roadbookref07_Few.l1 k 0 bB bN bO bP bQ bR bS bC bT bU bV bI bw bD bE bx bA bF bJ bG bH bs bK bL bp)
def roadbookref07_Few.l1 : Nat → Int → Int → Int → Int → ByteArray → Int → Int → ByteArray → Int → Int → ByteArray → Int → ByteArray → Int → Int → Int → Int → Int → Int → Int → ByteArray → ByteArray → List (S46) → Int → ByteArray → List (S48) → Option (Bool)
 | 0, _, _, _, _, _, _, _, _, _, _, _, _, _, _, _, _, _, _, _, _, _, _, _, _, _, _ => none
 | k + 1, x4, bB, bN, bO, bP, bQ, bR, bS, bC, bT, bU, bV, bI, bw, bD, bE, bx, bA, bF, bJ, bG, bH, bs, bK, bL, bp => if x4 < (bp.length : Int) then (if 0 ≤ x4 then (if (((rd_T48 bp x4).f1).size : Int) > 300 then (some false) else (roadbookref07_Few.l1 k (wrap64 (x4 + 1)) bB bN bO bP bQ bR bS bC bT bU bV bI bw bD bE bx bA bF bJ bG bH bs bK bL bp)) else (none)) else (some true)
end
def roadbookref07_Few.f (k : Nat) (ax : Int) (av : Int) (aw : Int) (ay : ByteArray) (az : Int) (aH : Int) (aE : ByteArray) (aA : Int) (aD : Int) (aC : ByteArray) (au : Int) (an : ByteArray) (al : Int) (ak : Int) (ar : Int) (af : Int) (ai : Int) (am : Int) (ao : Int) (aa : ByteArray) (ac : ByteArray) (ab : List (S46)) (ap : Int) (aq : ByteArray) (ah : List (S48)) : Option (Bool) := if (ab.length : Int) > 300 then (roadbookref07_Few.j0 k true ax av aw ay az aH aE aA aD aC au an al ak ar af ai am ao aa ac ab ap aq ah) else (if (ah.length : Int) > 60 then (roadbookref07_Few.j0 k true ax av aw ay az aH aE aA aD aC au an al ak ar af ai am ao aa ac ab ap aq ah) else (if (wrap64 ((ay.size : Int) + (aE.size : Int))) > 200 then (roadbookref07_Few.j0 k true ax av aw ay az aH aE aA aD aC au an al ak ar af ai am ao aa ac ab ap aq ah) else (if (wrap64 ((aC.size : Int) + (an.size : Int))) > 200 then (roadbookref07_Few.j0 k true ax av aw ay az aH aE aA aD aC au an al ak ar af ai am ao aa ac ab ap aq ah) else (if (wrap64 ((aa.size : Int) + (ac.size : Int))) > 200 then (roadbookref07_Few.j0 k true ax av aw ay az aH aE aA aD aC au an al ak ar af ai am ao aa ac ab ap aq ah) else (roadbookref07_Few.j0 k (decide ((aq.size : Int) > 300)) ax av aw ay az aH aE aA aD aC au an al ak ar af ai am ao aa ac ab ap aq ah)))))
theorem roadbookref07_Few.mono_l : ∀ k, (∀ y0 y1 y2 y3 y4 y5 y6 y7 y8 y9 fr fs ft fu fv fw fx fy fz fA fB fC fD fE fF fG, LeO (roadbookref07_Few.j0 k y0 y1 y2 y3 y4 y5 y6 y7 y8 y9 fr fs ft fu fv fw fx fy fz fA fB fC fD fE fF fG) (roadbookref07_Few.j0 (k + 1) y0 y1 y2 y3 y4 y5 y6 y7 y8 y9 fr fs ft fu fv fw fx fy fz fA fB fC fD fE fF fG)) ∧ (∀ y0 y1 y2 y3 y4 y5 y6 y7 y8 y9 fr fs ft fu fv fw fx fy fz fA fB fC fD fE fF fG, LeO (roadbookref07_Few.l0 k y0 y1 y2 y3 y4 y5 y6 y7 y8 y9 fr fs ft fu fv fw fx fy fz fA fB fC fD fE fF fG) (roadbookref07_Few.l0 (k + 1) y0 y1 y2 y3 y4 y5 y6 y7 y8 y9 fr fs ft fu fv fw fx fy fz fA fB fC fD fE fF fG)) ∧ (∀ y0 y1 y2 y3 y4 y5 y6 y7 y8 y9 fr fs ft fu fv fw fx fy fz fA fB fC fD fE fF fG, LeO (roadbookref07_Few.l1 k y0 y1 y2 y3 y4 y5 y6 y7 y8 y9 fr fs ft fu fv fw fx fy fz fA fB fC fD fE fF fG) (roadbookref07_Few.l1 (k + 1) y0 y1 y2 y3 y4 y5 y6 y7 y8 y9 fr fs ft fu fv fw fx fy fz fA fB fC fD fE fF fG))
 | 0 => ⟨Sq.mz, Sq.mz, Sq.mz⟩
 | k + 1 => by
  obtain ⟨ih0, ih1, ih2⟩ := roadbookref07_Few.mono_l k
  refine ⟨?_, ?_, ?_⟩
  ·intros
   unfold roadbookref07_Few.j0
   exact Sq.mo
  ·intros
   unfold roadbookref07_Few.l0
   exact Sq.mo
  ·intros
   unfold roadbookref07_Few.l1
   exact Sq.mo
theorem roadbookref07_Few.mono : ∀ a0 a1 a2 a3 a4 a5 a6 a7 a8 a9 gs gu gv gw gy gz gA gB gC gD gE gF gG gH gI k, LeO (roadbookref07_Few.f k a0 a1 a2 a3 a4 a5 a6 a7 a8 a9 gs gu gv gw gy gz gA gB gC gD gE gF gG gH gI) (roadbookref07_Few.f (k + 1) a0 a1 a2 a3 a4 a5 a6 a7 a8 a9 gs gu gv gw gy gz gA gB gC gD gE gF gG gH gI) := by
 intros
 rename_i k
 obtain ⟨ih0, ih1, ih2⟩ := roadbookref07_Few.mono_l k
 unfold roadbookref07_Few.f
 exact Sq.mo
set_option maxHeartbeats 8000000 in
set_option maxRecDepth 100000 in
theorem roadbookref07_Few.calls (k : Nat) (ax : Int) (av : Int) (aw : Int) (ay : ByteArray) (az : Int) (aH : Int) (aE : ByteArray) (aA : Int) (aD : Int) (aC : ByteArray) (au : Int) (an : ByteArray) (al : Int) (ak : Int) (ar : Int) (af : Int) (ai : Int) (am : Int) (ao : Int) (aa : ByteArray) (ac : ByteArray) (bg : Option Addr) (bb : Nat) (ab : List (S46)) (ap : Int) (aq : ByteArray) (aZ : Option Addr) (ba : Nat) (ah : List (S48)) (r : Bool) (w : World) (cf : Kd.C k46 w bg ab.length ab) (cg : ab.length ≤ bb) (ch : Kd.C k48 w aZ ah.length ah) (ci : ah.length ≤ ba) (h : roadbookref07_Few.f k ax av aw ay az aH aE aA aD aC au an al ak ar af ai am ao aa ac ab ap aq ah = some r) :
  Calls Try.prog 16 #[.agg #[.int .i64 ax, .int .i64 av, .int .i64 aw, .string ay, .int .i64 az, .int .i64 aH, .string aE, .int .i64 aA, .int .i64 aD, .string aC, .int .i64 au, .string an, .int .i64 al, .int .i64 ak, .int .i64 ar, .int .i64 af, .int .i64 ai, .int .i64 am, .int .i64 ao, .string aa, .string ac, .slice bg ab.length bb, .int .i64 ap, .string aq, .slice aZ ah.length ba]] w fun e w' => e = .returned (.bool r) ∧ Below w.heap.size w w' := by
 have fi := Try.underlying25
 have ed := Aside0.mk cf
 have bM := Aside0.mk cg
 clear cf cg
 have er := Aside0.mk ch
 have br := Aside0.mk ci
 clear ch ci
 have HB := Aside0.mk (Below.refl w.heap.size w)
 have H : (if (ab.length : Int) > 300 then (roadbookref07_Few.j0 k true ax av aw ay az aH aE aA aD aC au an al ak ar af ai am ao aa ac ab ap aq ah) else (if (ah.length : Int) > 60 then (roadbookref07_Few.j0 k true ax av aw ay az aH aE aA aD aC au an al ak ar af ai am ao aa ac ab ap aq ah) else (if (wrap64 ((ay.size : Int) + (aE.size : Int))) > 200 then (roadbookref07_Few.j0 k true ax av aw ay az aH aE aA aD aC au an al ak ar af ai am ao aa ac ab ap aq ah) else (if (wrap64 ((aC.size : Int) + (an.size : Int))) > 200 then (roadbookref07_Few.j0 k true ax av aw ay az aH aE aA aD aC au an al ak ar af ai am ao aa ac ab ap aq ah) else (if (wrap64 ((aa.size : Int) + (ac.size : Int))) > 200 then (roadbookref07_Few.j0 k true ax av aw ay az aH aE aA aD aC au an al ak ar af ai am ao aa ac ab ap aq ah) else (roadbookref07_Few.j0 k (decide ((aq.size : Int) > 300)) ax av aw ay az aH aE aA aD aC au an al ak ar af ai am ao aa ac ab ap aq ah)))))) = some r := h
 clear h
 have iR := Aside0.mk H
 clear H
 go_enter Try.func16, Try.ntmps16
 go_upto_region 1 with (first | ((with_reducible refine gate_dst (N := 1) rfl ?_); (try (refine gate_guard Z23 ?_; dsimp only)); refine Sq.box 1 #[.int .i64 ax, .int .i64 av, .int .i64 aw, .string ay, .int .i64 az, .int .i64 aH, .string aE, .int .i64 aA, .int .i64 aD, .string aC, .int .i64 au, .string an, .int .i64 al, .int .i64 ak, .int .i64 ar, .int .i64 af, .int .i64 ai, .int .i64 am, .int .i64 ao, .string aa, .string ac, .slice bg ab.length bb, .int .i64 ap, .string aq, .slice aZ ah.length ba] 25 ?_; intro ag hg w3 hbox hb; have ae := Aside0.mk (hbox); have cp := Aside0.mk (Sq.ge hg Z1); have bm := Aside0.mk (Sq.ge hg Z1); replace HB := Aside0.mk (below_step Z1 hb); clear hb hbox hg))
 (try simp only [Act.put, Sq.s1, Sq.s2, Sq.s3])
 go_cut [50] (fun ug wc => ∃ (kq : Nat) (jX : Bool), ug = .bool jX ∧ Aside0 (roadbookref07_Few.j0 kq jX ax av aw ay az aH aE aA aD aC au an al ak ar af ai am ao aa ac ab ap aq ah = some r) ∧ Aside0 (kq ≤ k) ∧ Aside0 (wc.heap[ag]? = some (.cells #[.int .i64 ax, .int .i64 av, .int .i64 aw, .string ay, .int .i64 az, .int .i64 aH, .string aE, .int .i64 aA, .int .i64 aD, .string aC, .int .i64 au, .string an, .int .i64 al, .int .i64 ak, .int .i64 ar, .int .i64 af, .int .i64 ai, .int .i64 am, .int .i64 ao, .string aa, .string ac, (.slice bg ab.length bb), .int .i64 ap, .string aq, (.slice aZ ah.length ba)] 25 (0, 0))) ∧ Aside0 (Below w.heap.size w wc))
 case first =>
  have H := iR.out
  clear iR
  by_cases c4 : (ab.length : Int) > 300
  ·rw [if_pos c4] at H
   have dg : decide (300 < (ab.length : Int)) = true := decide_eq_true c4
   have gi : decide (300 < ab.length) = true := decide_eq_true Z40
   clear c4
   (first | rw [dg] | (simp only [i64_w, i32_w]; rw [dg]) | skip)
   have H' := Aside0.mk H
   clear H
   have ji := cells_25 ae.out
   go_wp2
   go_meet
   case rel => exact ⟨_, (true), Z16, H', ⟨Z39⟩, ⟨Z2⟩, ⟨Z0⟩⟩
  ·rw [if_neg c4] at H
   have dg : decide (300 < (ab.length : Int)) = false := decide_eq_false c4
   have gi : decide (300 < ab.length) = false := decide_eq_false Z40
   clear c4
   (first | rw [dg] | (simp only [i64_w, i32_w]; rw [dg]) | skip)
   by_cases c6 : (ah.length : Int) > 60
   ·rw [if_pos c6] at H
    have fg : decide (60 < (ah.length : Int)) = true := decide_eq_true c6
    have fQ : decide (60 < ah.length) = true := decide_eq_true Z40
    clear c6
    have H' := Aside0.mk H
    clear H
    have iO := cells_25 ae.out
    go_wp2
    go_meet
    case rel => exact ⟨_, (true), Z16, H', ⟨Z39⟩, ⟨Z2⟩, ⟨Z0⟩⟩
   ·rw [if_neg c6] at H
    have fg : decide (60 < (ah.length : Int)) = false := decide_eq_false c6
    have fQ : decide (60 < ah.length) = false := decide_eq_false Z40
    clear c6
    by_cases c8 : (wrap64 ((ay.size : Int) + (aE.size : Int))) > 200
    ·rw [if_pos c8] at H
     have hC : decide (200 < (wrap64 ((ay.size : Int) + (aE.size : Int)))) = true := decide_eq_true c8
     clear c8
     have H' := Aside0.mk H
     clear H
     have kt := cells_25 ae.out
     go_wp2
     go_meet
     case rel => exact ⟨_, (true), Z16, H', ⟨Z39⟩, ⟨Z2⟩, ⟨Z0⟩⟩
    ·rw [if_neg c8] at H
     have hC : decide (200 < (wrap64 ((ay.size : Int) + (aE.size : Int)))) = false := decide_eq_false c8
     clear c8
     by_cases ey : (wrap64 ((aC.size : Int) + (an.size : Int))) > 200
     ·rw [if_pos ey] at H
      have eW : decide (200 < (wrap64 ((aC.size : Int) + (an.size : Int)))) = true := decide_eq_true ey
      clear ey
      have H' := Aside0.mk H
      clear H
      have jY := cells_25 ae.out
      go_wp2
      go_meet
      case rel => exact ⟨_, (true), Z16, H', ⟨Z39⟩, ⟨Z2⟩, ⟨Z0⟩⟩
     ·rw [if_neg ey] at H
      have eW : decide (200 < (wrap64 ((aC.size : Int) + (an.size : Int)))) = false := decide_eq_false ey
      clear ey
      by_cases fR : (wrap64 ((aa.size : Int) + (ac.size : Int))) > 200
      ·rw [if_pos fR] at H
       have hG : decide (200 < (wrap64 ((aa.size : Int) + (ac.size : Int)))) = true := decide_eq_true fR
       clear fR
       have H' := Aside0.mk H
       clear H
       have mY := cells_25 ae.out
       go_wp2
       go_meet
       case rel => exact ⟨_, (true), Z16, H', ⟨Z39⟩, ⟨Z2⟩, ⟨Z0⟩⟩
      ·rw [if_neg fR] at H
       have hG : decide (200 < (wrap64 ((aa.size : Int) + (ac.size : Int)))) = false := decide_eq_false fR
       clear fR
       have H' := Aside0.mk H
       clear H
       have iH := cells_25 ae.out
       go_wp2
       go_meet
       case rel => exact ⟨_, (decide ((aq.size : Int) > 300)), Z16, H', ⟨Z39⟩, ⟨Z2⟩, ⟨Z0⟩⟩
 case rest =>
  clear iR
  try clear c1
  try clear p6
  obtain ⟨kq, jX, rfl, HA, kJ, ae, HB⟩ := hcut
  cases kq with
  | zero => exact absurd HA.out (by simp [roadbookref07_Few.j0])
  | succ kj1 =>
   have H := HA.out
   clear HA
   simp only [roadbookref07_Few.j0] at H
   by_cases eB : jX = true
   ·subst eB
    replace H := Sq.itT H
    obtain rfl := Option.some.inj H
    go_wp2
    go_ret
    exact ⟨Z5, Z0⟩
   ·replace eB := Bool.eq_false_iff.mpr eB
    subst eB
    replace H := Sq.itF H
    have H' := Aside0.mk H
    clear H
    go_wp2
    go_loopg [3] kj1 (fun kq v3 w' => ∃ (fk : Int), v3 = .int .i64 fk ∧ Aside0 (roadbookref07_Few.l0 kq fk ax av aw ay az aH aE aA aD aC au an al ak ar af ai am ao aa ac ab ap aq ah = some r) ∧ Aside0 (kq ≤ kj1) ∧ Aside0 (w'.heap[ag]? = some (.cells #[.int .i64 ax, .int .i64 av, .int .i64 aw, .string ay, .int .i64 az, .int .i64 aH, .string aE, .int .i64 aA, .int .i64 aD, .string aC, .int .i64 au, .string an, .int .i64 al, .int .i64 ak, .int .i64 ar, .int .i64 af, .int .i64 ai, .int .i64 am, .int .i64 ao, .string aa, .string ac, (.slice bg ab.length bb), .int .i64 ap, .string aq, (.slice aZ ah.length ba)] 25 (0, 0))) ∧ Aside0 (Below w.heap.size w w'))
    case atStart => exact ⟨(0), Z16, H', ⟨Nat.le_refl _⟩, ⟨Z2⟩, ⟨Z0⟩⟩
    case round =>
     clear H'
     try clear c1
     try clear p2
     try clear c4
     try clear dg
     try clear gi
     try clear c6
     try clear fg
     try clear fQ
     try clear p6
     try clear c8
     try clear eB
     try clear ji
     try clear iO
     try clear p6
     obtain ⟨fk, rfl, HA, HK2, ae, HB⟩ := hrel
     cases gk with
     | zero => exact absurd HA.out (by simp [roadbookref07_Few.l0])
     | succ k2 =>
      have H := HA.out
      clear HA
      simp only [roadbookref07_Few.l0] at H
      by_cases fL : fk < (ab.length : Int)
      ·rw [if_pos fL] at H
       have hQ : decide (fk < (ab.length : Int)) = true := decide_eq_true fL
       clear fL
       by_cases hR : 0 ≤ fk
       ·rw [if_pos hR] at H
        have jZ : decide (0 ≤ fk) = true := decide_eq_true hR
        clear hR
        by_cases hu : (((rd_T46 ab fk).f0).size : Int) > 50
        ·rw [if_pos hu] at H
         have ka : decide (50 < (((rd_T46 ab fk).f0).size : Int)) = true := decide_eq_true hu
         have mZ : decide (50 < ((rd_T46 ab fk).f0).size) = true := decide_eq_true Z40
         clear hu
         obtain rfl := Option.some.inj H
         have jo := cells_25 ae.out
         have p102 : 0 ≤ (fk : Int) := of_decide_eq_true Z6
         have q102 : fk < (ab.length : Int) := of_decide_eq_true Z6
         obtain ⟨ad102, e102, hx102_0, hx102_1⟩ := at_T46 ed.out fk p102 q102
         cases e102
         replace hx102_0 := Sq.up HB.out hx102_0
         replace hx102_1 := Sq.up HB.out hx102_1
         replace p102 := eq_true p102
         replace q102 := eq_true q102
         go_wp2
         go_ret
         exact ⟨Z5, Z0⟩
        ·rw [if_neg hu] at H
         have ka : decide (50 < (((rd_T46 ab fk).f0).size : Int)) = false := decide_eq_false hu
         have mZ : decide (50 < ((rd_T46 ab fk).f0).size) = false := decide_eq_false Z40
         clear hu
         have H' := Aside0.mk H
         clear H
         have kb := cells_25 ae.out
         have p102 : 0 ≤ (fk : Int) := of_decide_eq_true Z6
         have q102 : fk < (ab.length : Int) := of_decide_eq_true Z6
         obtain ⟨ad102, e102, hx102_0, hx102_1⟩ := at_T46 ed.out fk p102 q102
         cases e102
         replace hx102_0 := Sq.up HB.out hx102_0
         replace hx102_1 := Sq.up HB.out hx102_1
         replace p102 := eq_true p102
         replace q102 := eq_true q102
         go_wp2
         go_roundg k2
         case measure => have := kJ.out; have := HK2.out; omega
         case rel => exact ⟨(wrap64 (fk + 1)), Z16, H', ⟨by have := kJ.out; have := HK2.out; omega⟩, ⟨Z2⟩, ⟨Z0⟩⟩
       ·rw [if_neg hR] at H
        exact absurd H Z71
      ·rw [if_neg fL] at H
       have hQ : decide (fk < (ab.length : Int)) = false := decide_eq_false fL
       clear fL
       have H' := Aside0.mk H
       clear H
       have iF := cells_25 ae.out
       go_wp2
       go_loopg [4] k2 (fun kq v4 w' => ∃ (fl : Int), v4 = .int .i64 fl ∧ Aside0 (roadbookref07_Few.l1 kq fl ax av aw ay az aH aE aA aD aC au an al ak ar af ai am ao aa ac ab ap aq ah = some r) ∧ Aside0 (kq ≤ k2) ∧ Aside0 (w'.heap[ag]? = some (.cells #[.int .i64 ax, .int .i64 av, .int .i64 aw, .string ay, .int .i64 az, .int .i64 aH, .string aE, .int .i64 aA, .int .i64 aD, .string aC, .int .i64 au, .string an, .int .i64 al, .int .i64 ak, .int .i64 ar, .int .i64 af, .int .i64 ai, .int .i64 am, .int .i64 ao, .string aa, .string ac, (.slice bg ab.length bb), .int .i64 ap, .string aq, (.slice aZ ah.length ba)] 25 (0, 0))) ∧ Aside0 (Below w.heap.size w w'))
       case atStart => exact ⟨(0), Z16, H', ⟨Nat.le_refl _⟩, ⟨Z2⟩, ⟨Z0⟩⟩
       case round =>
        clear H'
        try clear c1
        try clear p2
        try clear c4
        try clear dg
        try clear gi
        try clear c6
        try clear fg
        try clear fQ
        try clear p6
        try clear c8
        try clear hC
        try clear ey
        try clear eW
        try clear fR
        try clear hG
        try clear eB
        try clear fL
        try clear hQ
        try clear hR
        try clear jY
        try clear mY
        try clear iH
        try clear iF
        try clear ji
        try clear iO
        try clear kt
        try clear p2
        try clear p6
        obtain ⟨fl, rfl, HA, HK3, ae, HB⟩ := hrel
        cases gk with
        | zero => exact absurd HA.out (by simp [roadbookref07_Few.l1])
        | succ k3 =>
         have H := HA.out
         clear HA
         simp only [roadbookref07_Few.l1] at H
         by_cases hv : fl < (ah.length : Int)
         ·rw [if_pos hv] at H
          have kc : decide (fl < (ah.length : Int)) = true := decide_eq_true hv
          clear hv
          by_cases lZ : 0 ≤ fl
          ·rw [if_pos lZ] at H
           have c23b0 : decide (0 ≤ fl) = true := decide_eq_true lZ
           clear lZ
           by_cases eb : (((rd_T48 ah fl).f1).size : Int) > 300
           ·rw [if_pos eb] at H
            have lf : decide (300 < (((rd_T48 ah fl).f1).size : Int)) = true := decide_eq_true eb
            have lg : decide (300 < ((rd_T48 ah fl).f1).size) = true := decide_eq_true Z40
            clear eb
            obtain rfl := Option.some.inj H
            have kd := cells_25 ae.out
            have p103 : 0 ≤ (fl : Int) := of_decide_eq_true Z6
            have q103 : fl < (ah.length : Int) := of_decide_eq_true Z6
            obtain ⟨ad103, e103, hx103_0, hx103_1⟩ := at_T48 er.out fl p103 q103
            cases e103
            replace hx103_0 := Sq.up HB.out hx103_0
            replace hx103_1 := Sq.up HB.out hx103_1
            replace p103 := eq_true p103
            replace q103 := eq_true q103
            go_wp2
            go_ret
            exact ⟨Z5, Z0⟩
           ·rw [if_neg eb] at H
            have lf : decide (300 < (((rd_T48 ah fl).f1).size : Int)) = false := decide_eq_false eb
            have lg : decide (300 < ((rd_T48 ah fl).f1).size) = false := decide_eq_false Z40
            clear eb
            have H' := Aside0.mk H
            clear H
            have hh := cells_25 ae.out
            have p103 : 0 ≤ (fl : Int) := of_decide_eq_true Z6
            have q103 : fl < (ah.length : Int) := of_decide_eq_true Z6
            obtain ⟨ad103, e103, hx103_0, hx103_1⟩ := at_T48 er.out fl p103 q103
            cases e103
            replace hx103_0 := Sq.up HB.out hx103_0
            replace hx103_1 := Sq.up HB.out hx103_1
            replace p103 := eq_true p103
            replace q103 := eq_true q103
            go_wp2
            go_roundg k3
            case measure => have := kJ.out; have := HK2.out; have := HK3.out; omega
            case rel => exact ⟨(wrap64 (fl + 1)), Z16, H', ⟨by have := kJ.out; have := HK2.out; have := HK3.out; omega⟩, ⟨Z2⟩, ⟨Z0⟩⟩
          ·rw [if_neg lZ] at H
           exact absurd H Z71
         ·rw [if_neg hv] at H
          have kc : decide (fl < (ah.length : Int)) = false := decide_eq_false hv
          clear hv
          obtain rfl := Option.some.inj H
          have na := cells_25 ae.out
          go_wp2
          go_ret
          exact ⟨Z5, Z0⟩

/-! ### roadbookref07_dests: function 65 -/
def roadbookref07_dests.l0 : Nat → List (S46) → List (S46) → Int → Option (Bool)
 | 0, _, _, _ => none
 | k + 1, x0, x1, x5 => if x5 < (x0.length : Int) then (if 0 ≤ x5 then (if x5 < (x1.length : Int) then (if (!((((rd_T46 x0 x5).f0).toList) == (((rd_T46 x1 x5).f0).toList)) || (!(((rd_T46 x0 x5).f1) == ((rd_T46 x1 x5).f1)))) = true then (some false) else (roadbookref07_dests.l0 k x0 x1 (wrap64 (x5 + 1)))) else (none)) else (none)) else (some true)
def roadbookref07_dests.f (k : Nat) (l0 : List (S46)) (l1 : List (S46)) : Option (Bool) := if (l0.length : Int) = (l1.length : Int) then (roadbookref07_dests.l0 k l0 l1 0) else (some false)
theorem roadbookref07_dests.mono_l : ∀ k, (∀ y0 y1 y2, LeO (roadbookref07_dests.l0 k y0 y1 y2) (roadbookref07_dests.l0 (k + 1) y0 y1 y2))
 | 0 => Sq.mz
 | k + 1 => by
  have ih0 := roadbookref07_dests.mono_l k
  ·intros
   unfold roadbookref07_dests.l0
   exact Sq.mo
theorem roadbookref07_dests.mono : ∀ a0 a1 k, LeO (roadbookref07_dests.f k a0 a1) (roadbookref07_dests.f (k + 1) a0 a1) := by
 intro a0 a1 k
 have ih0 := roadbookref07_dests.mono_l k
 unfold roadbookref07_dests.f
 exact Sq.mo
set_option maxHeartbeats 8000000 in
set_option maxRecDepth 100000 in
theorem roadbookref07_dests.calls (k : Nat) (A0 : Option Addr) (c0 : Nat) (l0 : List (S46)) (A1 : Option Addr) (c1 : Nat) (l1 : List (S46)) (r : Bool) (w : World) (hS : Kd.C k46 w A0 l0.length l0) (gN : l0.length ≤ c0) (nb : Kd.C k46 w A1 l1.length l1) (nc : l1.length ≤ c1) (h : roadbookref07_dests.f k l0 l1 = some r) :
  Calls Try.prog 65 #[.slice A0 l0.length c0, .slice A1 l1.length c1] w fun e w' => e = .returned (.bool r) ∧ Drawn0 w w' := by
 have nS := Try.underlying46
 have gY := Aside0.mk hS
 have lh := Aside0.mk gN
 clear hS gN
 have nf := Aside0.mk nb
 have tB := Aside0.mk nc
 clear nb nc
 have H : (if (l0.length : Int) = (l1.length : Int) then (roadbookref07_dests.l0 k l0 l1 0) else (some false)) = some r := h
 clear h
 by_cases c3 : (l0.length : Int) = (l1.length : Int)
 ·rw [if_pos c3] at H
  have fZ : ((l0.length : Int) == (l1.length : Int)) = true := beq_iff_eq.mpr c3
  have hT : ((l0.length : Int) != (l1.length : Int)) = false := bne_eq_false_iff_eq.mpr c3
  have jt : (l0.length == l1.length) = true := by first | simpa using c3 | (simp at c3 ⊢; omega)
  clear c3
  have H' := Aside0.mk H
  clear H
  go_enter Try.func65, Try.ntmps65
  go_wp2
  repeat (go_quiet (fail); try go_wp2)
  go_loopg [5] k (fun kq v5 w' => ∃ (aj : Int), v5 = .int .i64 aj ∧ Aside0 (roadbookref07_dests.l0 kq l0 l1 aj = some r) ∧ Aside0 (kq ≤ k) ∧ Drawn0 w w')
  case atStart => exact ⟨(0), Z16, H', ⟨Nat.le_refl _⟩, Z49⟩
  case round =>
   clear H'
   try clear c1
   try clear p2
   try clear c3
   try clear fZ
   try clear hT
   try clear jt
   obtain ⟨aj, rfl, HA, HK1, ⟨m1, rfl⟩⟩ := hrel
   cases gk with
   | zero => exact absurd HA.out (by simp [roadbookref07_dests.l0])
   | succ k1 =>
    have H := HA.out
    clear HA
    simp only [roadbookref07_dests.l0] at H
    by_cases c4 : aj < (l0.length : Int)
    ·rw [if_pos c4] at H
     have dg : decide (aj < (l0.length : Int)) = true := decide_eq_true c4
     clear c4
     by_cases c5 : 0 ≤ aj
     ·rw [if_pos c5] at H
      have fM : decide (0 ≤ aj) = true := decide_eq_true c5
      clear c5
      by_cases c6 : aj < (l1.length : Int)
      ·rw [if_pos c6] at H
       have fg : decide (aj < (l1.length : Int)) = true := decide_eq_true c6
       clear c6
       by_cases c7 : (!((((rd_T46 l0 aj).f0).toList) == (((rd_T46 l1 aj).f0).toList)) || (!(((rd_T46 l0 aj).f1) == ((rd_T46 l1 aj).f1)))) = true
       ·rw [if_pos c7] at H
        have fp : (!((((rd_T46 l0 aj).f0).toList) == (((rd_T46 l1 aj).f0).toList)) || (!(((rd_T46 l0 aj).f1) == ((rd_T46 l1 aj).f1)))) = true := c7
        clear c7
        obtain rfl := Option.some.inj H
        have p101 : 0 ≤ (aj : Int) := of_decide_eq_true Z6
        have q101 : aj < (l0.length : Int) := of_decide_eq_true Z6
        obtain ⟨ad101, e101, hx101_0, hx101_1⟩ := at_T46 gY.out aj p101 q101
        cases e101
        replace p101 := eq_true p101
        replace q101 := eq_true q101
        have p102 : 0 ≤ (aj : Int) := of_decide_eq_true Z6
        have q102 : aj < (l1.length : Int) := of_decide_eq_true Z6
        obtain ⟨ad102, e102, hx102_0, hx102_1⟩ := at_T46 nf.out aj p102 q102
        cases e102
        replace p102 := eq_true p102
        replace q102 := eq_true q102
        go_wp2
        repeat (go_quiet (fail); try go_wp2)
        go_ret
        exact ⟨Z16, Z49⟩
       ·rw [if_neg c7] at H
        have fp : (!((((rd_T46 l0 aj).f0).toList) == (((rd_T46 l1 aj).f0).toList)) || (!(((rd_T46 l0 aj).f1) == ((rd_T46 l1 aj).f1)))) = false := by first | exact Bool.eq_false_iff.mpr c7 | simpa using c7
        clear c7
        have H' := Aside0.mk H
        clear H
        have p101 : 0 ≤ (aj : Int) := of_decide_eq_true Z6
        have q101 : aj < (l0.length : Int) := of_decide_eq_true Z6
        obtain ⟨ad101, e101, hx101_0, hx101_1⟩ := at_T46 gY.out aj p101 q101
        cases e101
        replace p101 := eq_true p101
        replace q101 := eq_true q101
        have p102 : 0 ≤ (aj : Int) := of_decide_eq_true Z6
        have q102 : aj < (l1.length : Int) := of_decide_eq_true Z6
        obtain ⟨ad102, e102, hx102_0, hx102_1⟩ := at_T46 nf.out aj p102 q102
        cases e102
        replace p102 := eq_true p102
        replace q102 := eq_true q102
        go_wp2
        repeat (go_quiet (fail); try go_wp2)
        go_roundg k1
        case measure => have := HK1.out; omega
        case rel => exact ⟨(wrap64 (aj + 1)), Z16, H', ⟨Z86⟩, Z49⟩
      ·rw [if_neg c6] at H
       exact absurd H Z71
     ·rw [if_neg c5] at H
      exact absurd H Z71
    ·rw [if_neg c4] at H
     have dg : decide (aj < (l0.length : Int)) = false := decide_eq_false c4
     clear c4
     obtain rfl := Option.some.inj H
     go_wp2
     repeat (go_quiet (fail); try go_wp2)
     go_ret
     exact ⟨Z16, Z49⟩
 ·rw [if_neg c3] at H
  have fZ : ((l0.length : Int) == (l1.length : Int)) = false := beq_eq_false_iff_ne.mpr c3
  have hT : ((l0.length : Int) != (l1.length : Int)) = true := bne_iff_ne.mpr c3
  have jt : (l0.length == l1.length) = false := by first | simpa using c3 | (simp at c3 ⊢; omega)
  obtain rfl := Option.some.inj H
  go_enter Try.func65, Try.ntmps65
  go_wp2
  repeat (go_quiet (fail); try go_wp2)
  go_ret
  exact ⟨Z16, Z49⟩

/-! ### roadbookref07_subs: function 66 -/
def roadbookref07_subs.l0 : Nat → List (S48) → List (S48) → Int → Option (Bool)
 | 0, _, _, _ => none
 | k + 1, x0, x1, x5 => if x5 < (x0.length : Int) then (if 0 ≤ x5 then (if x5 < (x1.length : Int) then (if (!(((rd_T48 x0 x5).f0) == ((rd_T48 x1 x5).f0)) || (!((((rd_T48 x0 x5).f1).toList) == (((rd_T48 x1 x5).f1).toList)))) = true then (some false) else (roadbookref07_subs.l0 k x0 x1 (wrap64 (x5 + 1)))) else (none)) else (none)) else (some true)
def roadbookref07_subs.f (k : Nat) (l0 : List (S48)) (l1 : List (S48)) : Option (Bool) := if (l0.length : Int) = (l1.length : Int) then (roadbookref07_subs.l0 k l0 l1 0) else (some false)
theorem roadbookref07_subs.mono_l : ∀ k, (∀ y0 y1 y2, LeO (roadbookref07_subs.l0 k y0 y1 y2) (roadbookref07_subs.l0 (k + 1) y0 y1 y2))
 | 0 => Sq.mz
 | k + 1 => by
  have ih0 := roadbookref07_subs.mono_l k
  ·intros
   unfold roadbookref07_subs.l0
   exact Sq.mo
theorem roadbookref07_subs.mono : ∀ a0 a1 k, LeO (roadbookref07_subs.f k a0 a1) (roadbookref07_subs.f (k + 1) a0 a1) := by
 intro a0 a1 k
 have ih0 := roadbookref07_subs.mono_l k
 unfold roadbookref07_subs.f
 exact Sq.mo
set_option maxHeartbeats 8000000 in
set_option maxRecDepth 100000 in
theorem roadbookref07_subs.calls (k : Nat) (A0 : Option Addr) (c0 : Nat) (l0 : List (S48)) (A1 : Option Addr) (c1 : Nat) (l1 : List (S48)) (r : Bool) (w : World) (hS : Kd.C k48 w A0 l0.length l0) (gN : l0.length ≤ c0) (nb : Kd.C k48 w A1 l1.length l1) (nc : l1.length ≤ c1) (h : roadbookref07_subs.f k l0 l1 = some r) :
  Calls Try.prog 66 #[.slice A0 l0.length c0, .slice A1 l1.length c1] w fun e w' => e = .returned (.bool r) ∧ Drawn0 w w' := by
 have mn := Try.underlying48
 have gY := Aside0.mk hS
 have lh := Aside0.mk gN
 clear hS gN
 have nf := Aside0.mk nb
 have tB := Aside0.mk nc
 clear nb nc
 have H : (if (l0.length : Int) = (l1.length : Int) then (roadbookref07_subs.l0 k l0 l1 0) else (some false)) = some r := h
 clear h
 by_cases c3 : (l0.length : Int) = (l1.length : Int)
 ·rw [if_pos c3] at H
  have fZ : ((l0.length : Int) == (l1.length : Int)) = true := beq_iff_eq.mpr c3
  have hT : ((l0.length : Int) != (l1.length : Int)) = false := bne_eq_false_iff_eq.mpr c3
  have jt : (l0.length == l1.length) = true := by first | simpa using c3 | (simp at c3 ⊢; omega)
  clear c3
  have H' := Aside0.mk H
  clear H
  go_enter Try.func66, Try.ntmps66
  go_wp2
  repeat (go_quiet (fail); try go_wp2)
  go_loopg [5] k (fun kq v5 w' => ∃ (aj : Int), v5 = .int .i64 aj ∧ Aside0 (roadbookref07_subs.l0 kq l0 l1 aj = some r) ∧ Aside0 (kq ≤ k) ∧ Drawn0 w w')
  case atStart => exact ⟨(0), Z16, H', ⟨Nat.le_refl _⟩, Z49⟩
  case round =>
   clear H'
   try clear c1
   try clear p2
   try clear c3
   try clear fZ
   try clear hT
   try clear jt
   obtain ⟨aj, rfl, HA, HK1, ⟨m1, rfl⟩⟩ := hrel
   cases gk with
   | zero => exact absurd HA.out (by simp [roadbookref07_subs.l0])
   | succ k1 =>
    have H := HA.out
    clear HA
    simp only [roadbookref07_subs.l0] at H
    by_cases c4 : aj < (l0.length : Int)
    ·rw [if_pos c4] at H
     have dg : decide (aj < (l0.length : Int)) = true := decide_eq_true c4
     clear c4
     by_cases c5 : 0 ≤ aj
     ·rw [if_pos c5] at H
      have fM : decide (0 ≤ aj) = true := decide_eq_true c5
      clear c5
      by_cases c6 : aj < (l1.length : Int)
      ·rw [if_pos c6] at H
       have fg : decide (aj < (l1.length : Int)) = true := decide_eq_true c6
       clear c6
       by_cases c7 : (!(((rd_T48 l0 aj).f0) == ((rd_T48 l1 aj).f0)) || (!((((rd_T48 l0 aj).f1).toList) == (((rd_T48 l1 aj).f1).toList)))) = true
       ·rw [if_pos c7] at H
        have fp : (!(((rd_T48 l0 aj).f0) == ((rd_T48 l1 aj).f0)) || (!((((rd_T48 l0 aj).f1).toList) == (((rd_T48 l1 aj).f1).toList)))) = true := c7
        clear c7
        obtain rfl := Option.some.inj H
        have p101 : 0 ≤ (aj : Int) := of_decide_eq_true Z6
        have q101 : aj < (l0.length : Int) := of_decide_eq_true Z6
        obtain ⟨ad101, e101, hx101_0, hx101_1⟩ := at_T48 gY.out aj p101 q101
        cases e101
        replace p101 := eq_true p101
        replace q101 := eq_true q101
        have p102 : 0 ≤ (aj : Int) := of_decide_eq_true Z6
        have q102 : aj < (l1.length : Int) := of_decide_eq_true Z6
        obtain ⟨ad102, e102, hx102_0, hx102_1⟩ := at_T48 nf.out aj p102 q102
        cases e102
        replace p102 := eq_true p102
        replace q102 := eq_true q102
        go_wp2
        repeat (go_quiet (fail); try go_wp2)
        go_ret
        exact ⟨Z16, Z49⟩
       ·rw [if_neg c7] at H
        have fp : (!(((rd_T48 l0 aj).f0) == ((rd_T48 l1 aj).f0)) || (!((((rd_T48 l0 aj).f1).toList) == (((rd_T48 l1 aj).f1).toList)))) = false := by first | exact Bool.eq_false_iff.mpr c7 | simpa using c7
        clear c7
        have H' := Aside0.mk H
        clear H
        have p101 : 0 ≤ (aj : Int) := of_decide_eq_true Z6
        have q101 : aj < (l0.length : Int) := of_decide_eq_true Z6
        obtain ⟨ad101, e101, hx101_0, hx101_1⟩ := at_T48 gY.out aj p101 q101
        cases e101
        replace p101 := eq_true p101
        replace q101 := eq_true q101
        have p102 : 0 ≤ (aj : Int) := of_decide_eq_true Z6
        have q102 : aj < (l1.length : Int) := of_decide_eq_true Z6
        obtain ⟨ad102, e102, hx102_0, hx102_1⟩ := at_T48 nf.out aj p102 q102
        cases e102
        replace p102 := eq_true p102
        replace q102 := eq_true q102
        go_wp2
        repeat (go_quiet (fail); try go_wp2)
        go_roundg k1
        case measure => have := HK1.out; omega
        case rel => exact ⟨(wrap64 (aj + 1)), Z16, H', ⟨Z86⟩, Z49⟩
      ·rw [if_neg c6] at H
       exact absurd H Z71
     ·rw [if_neg c5] at H
      exact absurd H Z71
    ·rw [if_neg c4] at H
     have dg : decide (aj < (l0.length : Int)) = false := decide_eq_false c4
     clear c4
     obtain rfl := Option.some.inj H
     go_wp2
     repeat (go_quiet (fail); try go_wp2)
     go_ret
     exact ⟨Z16, Z49⟩
 ·rw [if_neg c3] at H
  have fZ : ((l0.length : Int) == (l1.length : Int)) = false := beq_eq_false_iff_ne.mpr c3
  have hT : ((l0.length : Int) != (l1.length : Int)) = true := bne_iff_ne.mpr c3
  have jt : (l0.length == l1.length) = false := by first | simpa using c3 | (simp at c3 ⊢; omega)
  obtain rfl := Option.some.inj H
  go_enter Try.func66, Try.ntmps66
  go_wp2
  repeat (go_quiet (fail); try go_wp2)
  go_ret
  exact ⟨Z16, Z49⟩

end Go.Proofs.Ytccjakjjaemmkaa.PAB
