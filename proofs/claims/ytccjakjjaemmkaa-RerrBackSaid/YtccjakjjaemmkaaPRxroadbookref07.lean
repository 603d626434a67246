-- Written by mp.py, a program of this work (wip/tools), out of the translation; Lean checks it.
import Derived.Test.YtccjakjjaemmkaaPRxZ
import Derived.Test.YtccjakjjaemmkaaPRxEq46
import Derived.Test.YtccjakjjaemmkaaPRxEq48
namespace Go.Proofs.Ytccjakjjaemmkaa.PR
open Go.RowKit Go.Proofs.YtccjakjjaemmkaaW.PrintWords Go.Proofs.YtccjakjjaemmkaaW.PrintLast Go.Proofs.YtccjakjjaemmkaaW.PrintMore
attribute [local go_sem] max2_int min2_int max_two min_two max_three min_three max_four min_four   -- for this text's walks alone
set_option linter.unusedVariables false
set_option linter.unusedSimpArgs false

attribute [local go_sem high] eqA46 eqA48
/-! ### roadbookref07_Few: function 16 -/
mutual
def roadbookref07_Few.j0 : Nat → Bool → Int → Int → Int → ByteArray → Int → Int → ByteArray → Int → Int → ByteArray → Int → ByteArray → Int → Int → Int → Int → Int → Int → Int → ByteArray → ByteArray → List (S46) → Int → ByteArray → List (S48) → Option (Bool)
 | 0, _, _, _, _, _, _, _, _, _, _, _, _, _, _, _, _, _, _, _, _, _, _, _, _, _, _ => none
 | k + 1, xm, bw, bM, bN, bO, bP, bQ, bR, bx, bS, bT, bU, bI, bA, bF, bC, bv, bB, bG, bJ, bD, bE, bq, bK, bL, bu => if xm = true then (some false) else (roadbookref07_Few.l0 k 0 bw bM bN bO bP bQ bR bx bS bT bU bI bA bF bC bv bB bG bJ bD bE bq bK bL bu)
def roadbookref07_Few.l0 : Nat → Int → Int → Int → Int → ByteArray → Int → Int → ByteArray → Int → Int → ByteArray → Int → ByteArray → Int → Int → Int → Int → Int → Int → Int → ByteArray → ByteArray → List (S46) → Int → ByteArray → List (S48) → Option (Bool)
 | 0, _, _, _, _, _, _, _, _, _, _, _, _, _, _, _, _, _, _, _, _, _, _, _, _, _, _ => none
 | k + 1, x3, bw, bM, bN, bO, bP, bQ, bR, bx, bS, bT, bU, bI, bA, bF, bC, bv, bB, bG, bJ, bD, bE, bq, bK, bL, bu => if x3 < (bq.length : Int) then (if 0 ≤ x3 then (if (((rd_T46 bq x3).f0).size : Int) > 50 then (some false) else (roadbookref07_Few.l0 k (wrap64 (x3 + 1)) bw bM bN bO bP bQ bR bx bS bT bU bI bA bF bC bv bB bG bJ bD bE bq bK bL bu)) else (none)) else (roadbookref07_Few.l1 k 0 bw bM bN bO bP bQ bR bx bS bT bU bI bA bF bC bv bB bG bJ bD bE bq bK bL bu)
def roadbookref07_Few.l1 : Nat → Int → Int → Int → Int → ByteArray → Int → Int → ByteArray → Int → Int → ByteArray → Int → ByteArray → Int → Int → Int → Int → Int → Int → Int → ByteArray → ByteArray → List (S46) → Int → ByteArray → List (S48) → Option (Bool)
 | 0, _, _, _, _, _, _, _, _, _, _, _, _, _, _, _, _, _, _, _, _, _, _, _, _, _, _ => none
 | k + 1, x4, bw, bM, bN, bO, bP, bQ, bR, bx, bS, bT, bU, bI, bA, bF, bC, bv, bB, bG, bJ, bD, bE, bq, bK, bL, bu => if x4 < (bu.length : Int) then (if 0 ≤ x4 then (if (((rd_T48 bu x4).f1).size : Int) > 300 then (some false) else (roadbookref07_Few.l1 k (wrap64 (x4 + 1)) bw bM bN bO bP bQ bR bx bS bT bU bI bA bF bC bv bB bG bJ bD bE bq bK bL bu)) else (none)) else (some true)
end
def roadbookref07_Few.f (k : Nat) (av : Int) (au : Int) (aw : Int) (ay : ByteArray) (aD : Int) (az : Int) (aA : ByteArray) (ax : Int) (aE : Int) (aC : ByteArray) (ap : Int) (an : ByteArray) (aj : Int) (am : Int) (ak : Int) (ah : Int) (ai : Int) (al : Int) (ao : Int) (ac : ByteArray) (af : ByteArray) (ae : List (S46)) (aq : Int) (ar : ByteArray) (ag : List (S48)) : Option (Bool) := if (ae.length : Int) > 300 then (roadbookref07_Few.j0 k true av au aw ay aD az aA ax aE aC ap an aj am ak ah ai al ao ac af ae aq ar ag) else (if (ag.length : Int) > 60 then (roadbookref07_Few.j0 k true av au aw ay aD az aA ax aE aC ap an aj am ak ah ai al ao ac af ae aq ar ag) else (if (wrap64 ((ay.size : Int) + (aA.size : Int))) > 200 then (roadbookref07_Few.j0 k true av au aw ay aD az aA ax aE aC ap an aj am ak ah ai al ao ac af ae aq ar ag) else (if (wrap64 ((aC.size : Int) + (an.size : Int))) > 200 then (roadbookref07_Few.j0 k true av au aw ay aD az aA ax aE aC ap an aj am ak ah ai al ao ac af ae aq ar ag) else (if (wrap64 ((ac.size : Int) + (af.size : Int))) > 200 then (roadbookref07_Few.j0 k true av au aw ay aD az aA ax aE aC ap an aj am ak ah ai al ao ac af ae aq ar ag) else (roadbookref07_Few.j0 k (decide ((ar.size : Int) > 300)) av au aw ay aD az aA ax aE aC ap an aj am ak ah ai al ao ac af ae aq ar ag)))))
theorem roadbookref07_Few.mono_l : ∀ k, (∀ y0 y1 y2 y3 y4 y5 y6 y7 y8 y9 fi fj fk fl fm fn fo fp fq fr fs ft fu fv fw fx, LeO (roadbookref07_Few.j0 k y0 y1 y2 y3 y4 y5 y6 y7 y8 y9 fi fj fk fl fm fn fo fp fq fr fs ft fu fv fw fx) (roadbookref07_Few.j0 (k + 1) y0 y1 y2 y3 y4 y5 y6 y7 y8 y9 fi fj fk fl fm fn fo fp fq fr fs ft fu fv fw fx)) ∧ (∀ y0 y1 y2 y3 y4 y5 y6 y7 y8 y9 fi fj fk fl fm fn fo fp fq fr fs ft fu fv fw fx, LeO (roadbookref07_Few.l0 k y0 y1 y2 y3 y4 y5 y6 y7 y8 y9 fi fj fk fl fm fn fo fp fq fr fs ft fu fv fw fx) (roadbookref07_Few.l0 (k + 1) y0 y1 y2 y3 y4 y5 y6 y7 y8 y9 fi fj fk fl fm fn fo fp fq fr fs ft fu fv fw fx)) ∧ (∀ y0 y1 y2 y3 y4 y5 y6 y7 y8 y9 fi fj fk fl fm fn fo fp fq fr fs ft fu fv fw fx, LeO (roadbookref07_Few.l1 k y0 y1 y2 y3 y4 y5 y6 y7 y8 y9 fi fj fk fl fm fn fo fp fq fr fs ft fu fv fw fx) (roadbookref07_Few.l1 (k + 1) y0 y1 y2 y3 y4 y5 y6 y7 y8 y9 fi fj fk fl fm fn fo fp fq fr fs ft fu fv fw fx))
 | 0 => ⟨fun _ _ _ _ _ _ _ _ _ _ _ _ _ _ _ _ _ _ _ _ _ _ _ _ _ _ r h => by simp [roadbookref07_Few.j0] at h, fun _ _ _ _ _ _ _ _ _ _ _ _ _ _ _ _ _ _ _ _ _ _ _ _ _ _ r h => by simp [roadbookref07_Few.l0] at h, fun _ _ _ _ _ _ _ _ _ _ _ _ _ _ _ _ _ _ _ _ _ _ _ _ _ _ r h => by simp [roadbookref07_Few.l1] at h⟩
 | k + 1 => by
  obtain ⟨ih0, ih1, ih2⟩ := roadbookref07_Few.mono_l k
  refine ⟨?_, ?_, ?_⟩
  ·intro y0 y1 y2 y3 y4 y5 y6 y7 y8 y9 fi fj fk fl fm fn fo fp fq fr fs ft fu fv fw fx
   unfold roadbookref07_Few.j0
   repeat' first
   | (with_reducible exact ih0 ..)
   | (with_reducible exact ih1 ..)
   | (with_reducible exact ih2 ..)
   | (with_reducible exact LeO.refl _)
   | (with_reducible exact LeO.none _)
   | (with_reducible refine LeO.ite ?_ ?_)
   | (with_reducible refine LeO.bind ?_ (fun _ => ?_))
   | exact ih0 ..
   | exact ih1 ..
   | exact ih2 ..
   | exact LeO.none _
   | refine LeO.ite ?_ ?_
   | refine LeO.bind ?_ (fun _ => ?_)
  ·intro y0 y1 y2 y3 y4 y5 y6 y7 y8 y9 fi fj fk fl fm fn fo fp fq fr fs ft fu fv fw fx
   unfold roadbookref07_Few.l0
   repeat' first
   | (with_reducible exact ih0 ..)
   | (with_reducible exact ih1 ..)
   | (with_reducible exact ih2 ..)
   | (with_reducible exact LeO.refl _)
   | (with_reducible exact LeO.none _)
   | (with_reducible refine LeO.ite ?_ ?_)
   | (with_reducible refine LeO.bind ?_ (fun _ => ?_))
   | exact ih0 ..
   | exact ih1 ..
   | exact ih2 ..
   | exact LeO.none _
   | refine LeO.ite ?_ ?_
   | refine LeO.bind ?_ (fun _ => ?_)
  ·intro y0 y1 y2 y3 y4 y5 y6 y7 y8 y9 fi fj fk fl fm fn fo fp fq fr fs ft fu fv fw fx
   unfold roadbookref07_Few.l1
   repeat' first
   | (with_reducible exact ih0 ..)
   | (with_reducible exact ih1 ..)
   | (with_reducible exact ih2 ..)
   | (with_reducible exact LeO.refl _)
   | (with_reducible exact LeO.none _)
   | (with_reducible refine LeO.ite ?_ ?_)
   | (with_reducible refine LeO.bind ?_ (fun _ => ?_))
   | exact ih0 ..
   | exact ih1 ..
   | exact ih2 ..
   | exact LeO.none _
   | refine LeO.ite ?_ ?_
   | refine LeO.bind ?_ (fun _ => ?_)
theorem roadbookref07_Few.mono : ∀ a0 a1 a2 a3 a4 a5 a6 a7 a8 a9 fJ fK fL fM fN fO fP fQ fR fS fT fU fV fW fX k, LeO (roadbookref07_Few.f k a0 a1 a2 a3 a4 a5 a6 a7 a8 a9 fJ fK fL fM fN fO fP fQ fR fS fT fU fV fW fX) (roadbookref07_Few.f (k + 1) a0 a1 a2 a3 a4 a5 a6 a7 a8 a9 fJ fK fL fM fN fO fP fQ fR fS fT fU fV fW fX) := by
 intro a0 a1 a2 a3 a4 a5 a6 a7 a8 a9 fJ fK fL fM fN fO fP fQ fR fS fT fU fV fW fX k
 obtain ⟨ih0, ih1, ih2⟩ := roadbookref07_Few.mono_l k
 unfold roadbookref07_Few.f
 repeat' first
   | (with_reducible exact ih0 ..)
   | (with_reducible exact ih1 ..)
   | (with_reducible exact ih2 ..)
   | (with_reducible exact LeO.refl _)
   | (with_reducible exact LeO.none _)
   | (with_reducible refine LeO.ite ?_ ?_)
   | (with_reducible refine LeO.bind ?_ (fun _ => ?_))
   | exact ih0 ..
   | exact ih1 ..
   | exact ih2 ..
   | exact LeO.none _
   | refine LeO.ite ?_ ?_
   | refine LeO.bind ?_ (fun _ => ?_)
set_option maxHeartbeats 8000000 in
set_option maxRecDepth 100000 in
theorem roadbookref07_Few.calls (k : Nat) (av : Int) (au : Int) (aw : Int) (ay : ByteArray) (aD : Int) (az : Int) (aA : ByteArray) (ax : Int) (aE : Int) (aC : ByteArray) (ap : Int) (an : ByteArray) (aj : Int) (am : Int) (ak : Int) (ah : Int) (ai : Int) (al : Int) (ao : Int) (ac : ByteArray) (af : ByteArray) (aT : Option Addr) (aN : Nat) (ae : List (S46)) (aq : Int) (ar : ByteArray) (aJ : Option Addr) (aK : Nat) (ag : List (S48)) (r : Bool) (w : World) (bY : Kd.C k46 w aT ae.length ae) (bZ : ae.length ≤ aN) (ca : Kd.C k48 w aJ ag.length ag) (cb : ag.length ≤ aK) (h : roadbookref07_Few.f k av au aw ay aD az aA ax aE aC ap an aj am ak ah ai al ao ac af ae aq ar ag = some r) :
  Calls Try.prog 16 #[.agg #[.int .i64 av, .int .i64 au, .int .i64 aw, .string ay, .int .i64 aD, .int .i64 az, .string aA, .int .i64 ax, .int .i64 aE, .string aC, .int .i64 ap, .string an, .int .i64 aj, .int .i64 am, .int .i64 ak, .int .i64 ah, .int .i64 ai, .int .i64 al, .int .i64 ao, .string ac, .string af, .slice aT ae.length aN, .int .i64 aq, .string ar, .slice aJ ag.length aK]] w fun e w' => e = .returned (.bool r) ∧ Below w.heap.size w w' := by
 have gB := Try.underlying25
 have cT := Aside0.mk bY
 have bl := Aside0.mk bZ
 clear bY bZ
 have cP := Aside0.mk ca
 have bg := Aside0.mk cb
 clear ca cb
 have HB := Aside0.mk (Below.refl w.heap.size w)
 have H : (if (ae.length : Int) > 300 then (roadbookref07_Few.j0 k true av au aw ay aD az aA ax aE aC ap an aj am ak ah ai al ao ac af ae aq ar ag) else (if (ag.length : Int) > 60 then (roadbookref07_Few.j0 k true av au aw ay aD az aA ax aE aC ap an aj am ak ah ai al ao ac af ae aq ar ag) else (if (wrap64 ((ay.size : Int) + (aA.size : Int))) > 200 then (roadbookref07_Few.j0 k true av au aw ay aD az aA ax aE aC ap an aj am ak ah ai al ao ac af ae aq ar ag) else (if (wrap64 ((aC.size : Int) + (an.size : Int))) > 200 then (roadbookref07_Few.j0 k true av au aw ay aD az aA ax aE aC ap an aj am ak ah ai al ao ac af ae aq ar ag) else (if (wrap64 ((ac.size : Int) + (af.size : Int))) > 200 then (roadbookref07_Few.j0 k true av au aw ay aD az aA ax aE aC ap an aj am ak ah ai al ao ac af ae aq ar ag) else (roadbookref07_Few.j0 k (decide ((ar.size : Int) > 300)) av au aw ay aD az aA ax aE aC ap an aj am ak ah ai al ao ac af ae aq ar ag)))))) = some r := h
 clear h
 have iB := Aside0.mk H
 clear H
 go_enter Try.func16, Try.ntmps16
 go_upto_region 1 with (first | ((with_reducible refine gate_dst (N := 1) rfl ?_); (try (refine gate_guard Z13 ?_; dsimp only)); refine box_event ?hg (N := 1) ?hd (cs := #[.int .i64 av, .int .i64 au, .int .i64 aw, .string ay, .int .i64 aD, .int .i64 az, .string aA, .int .i64 ax, .int .i64 aE, .string aC, .int .i64 ap, .string an, .int .i64 aj, .int .i64 am, .int .i64 ak, .int .i64 ah, .int .i64 ai, .int .i64 al, .int .i64 ao, .string ac, .string af, .slice aT ae.length aN, .int .i64 aq, .string ar, .slice aJ ag.length aK]) (t := 25) ?hr ?_; (case hd => rfl); (case hg => rfl); (case hr => first | (go_simp; done) | (go_simp; rfl)); intro aa hg w3 hbox hb; have aG := Aside0.mk (below_step Z3 hb); have aH := Aside0.mk (hbox); have aI := Aside0.mk ((by rw [hg]; exact (below_size Z3) : w.heap.size ≤ aa)); have aZ := Aside0.mk ((by rw [hg]; exact (below_size Z3) : w.heap.size ≤ aa)); replace HB := aG; have ab := aH; have cl := aI; have bs := aZ; clear aG aH aI aZ; clear hb hbox hg))
 (try simp only [Act.put, List.setIfInBounds_toArray, List.set_cons_zero, List.set_cons_succ])
 go_cut [50] (fun xn wc => ∃ (kq : Nat) (ny : Bool), xn = .bool ny ∧ Aside0 (roadbookref07_Few.j0 kq ny av au aw ay aD az aA ax aE aC ap an aj am ak ah ai al ao ac af ae aq ar ag = some r) ∧ Aside0 (kq ≤ k) ∧ Aside0 (wc.heap[aa]? = some (.cells #[.int .i64 av, .int .i64 au, .int .i64 aw, .string ay, .int .i64 aD, .int .i64 az, .string aA, .int .i64 ax, .int .i64 aE, .string aC, .int .i64 ap, .string an, .int .i64 aj, .int .i64 am, .int .i64 ak, .int .i64 ah, .int .i64 ai, .int .i64 al, .int .i64 ao, .string ac, .string af, (.slice aT ae.length aN), .int .i64 aq, .string ar, (.slice aJ ag.length aK)] 25 (0, 0))) ∧ Aside0 (Below w.heap.size w wc))
 case first =>
  have H := iB.out
  clear iB
  by_cases c4 : (ae.length : Int) > 300
  ·rw [if_pos c4] at H
   have cS : decide (300 < (ae.length : Int)) = true := decide_eq_true c4
   have gY : decide (300 < ae.length) = true := decide_eq_true Z55
   clear c4
   (first | rw [cS] | (simp only [i64_w, i32_w]; rw [cS]) | skip)
   have H' := Aside0.mk H
   clear H
   have mS := cells_25 ab.out
   go_wp2
   go_meet
   case rel => exact ⟨_, (true), Z14, H', ⟨Z41⟩, ⟨Z1⟩, ⟨Z0⟩⟩
  ·rw [if_neg c4] at H
   have cS : decide (300 < (ae.length : Int)) = false := decide_eq_false c4
   have gY : decide (300 < ae.length) = false := decide_eq_false Z55
   clear c4
   (first | rw [cS] | (simp only [i64_w, i32_w]; rw [cS]) | skip)
   by_cases c6 : (ag.length : Int) > 60
   ·rw [if_pos c6] at H
    have gZ : decide (60 < (ag.length : Int)) = true := decide_eq_true c6
    have ii : decide (60 < ag.length) = true := decide_eq_true Z55
    clear c6
    have H' := Aside0.mk H
    clear H
    have jy := cells_25 ab.out
    go_wp2
    go_meet
    case rel => exact ⟨_, (true), Z14, H', ⟨Z41⟩, ⟨Z1⟩, ⟨Z0⟩⟩
   ·rw [if_neg c6] at H
    have gZ : decide (60 < (ag.length : Int)) = false := decide_eq_false c6
    have ii : decide (60 < ag.length) = false := decide_eq_false Z55
    clear c6
    by_cases c8 : (wrap64 ((ay.size : Int) + (aA.size : Int))) > 200
    ·rw [if_pos c8] at H
     have iG : decide (200 < (wrap64 ((ay.size : Int) + (aA.size : Int)))) = true := decide_eq_true c8
     clear c8
     have H' := Aside0.mk H
     clear H
     have iV := cells_25 ab.out
     go_wp2
     go_meet
     case rel => exact ⟨_, (true), Z14, H', ⟨Z41⟩, ⟨Z1⟩, ⟨Z0⟩⟩
    ·rw [if_neg c8] at H
     have iG : decide (200 < (wrap64 ((ay.size : Int) + (aA.size : Int)))) = false := decide_eq_false c8
     clear c8
     by_cases cX : (wrap64 ((aC.size : Int) + (an.size : Int))) > 200
     ·rw [if_pos cX] at H
      have ff : decide (200 < (wrap64 ((aC.size : Int) + (an.size : Int)))) = true := decide_eq_true cX
      clear cX
      have H' := Aside0.mk H
      clear H
      have mg := cells_25 ab.out
      go_wp2
      go_meet
      case rel => exact ⟨_, (true), Z14, H', ⟨Z41⟩, ⟨Z1⟩, ⟨Z0⟩⟩
     ·rw [if_neg cX] at H
      have ff : decide (200 < (wrap64 ((aC.size : Int) + (an.size : Int)))) = false := decide_eq_false cX
      clear cX
      by_cases hf : (wrap64 ((ac.size : Int) + (af.size : Int))) > 200
      ·rw [if_pos hf] at H
       have jZ : decide (200 < (wrap64 ((ac.size : Int) + (af.size : Int)))) = true := decide_eq_true hf
       clear hf
       have H' := Aside0.mk H
       clear H
       have lF := cells_25 ab.out
       go_wp2
       go_meet
       case rel => exact ⟨_, (true), Z14, H', ⟨Z41⟩, ⟨Z1⟩, ⟨Z0⟩⟩
      ·rw [if_neg hf] at H
       have jZ : decide (200 < (wrap64 ((ac.size : Int) + (af.size : Int)))) = false := decide_eq_false hf
       clear hf
       have H' := Aside0.mk H
       clear H
       have ji := cells_25 ab.out
       go_wp2
       go_meet
       case rel => exact ⟨_, (decide ((ar.size : Int) > 300)), Z14, H', ⟨Z41⟩, ⟨Z1⟩, ⟨Z0⟩⟩
 case rest =>
  clear iB
  try clear c1
  try clear p6
  obtain ⟨kq, ny, rfl, HA, kB, ab, HB⟩ := hcut
  cases kq with
  | zero => exact absurd HA.out (by simp [roadbookref07_Few.j0])
  | succ kj1 =>
   have H := HA.out
   clear HA
   simp only [roadbookref07_Few.j0] at H
   by_cases fd : ny = true
   ·subst fd
    replace H := Sq.itT H
    obtain rfl := Option.some.inj H
    go_wp2
    go_ret
    exact ⟨Z9, Z0⟩
   ·replace fd := Bool.eq_false_iff.mpr fd
    subst fd
    replace H := Sq.itF H
    have H' := Aside0.mk H
    clear H
    go_wp2
    go_loopg [3] kj1 (fun kq v3 w' => ∃ (ep : Int), v3 = .int .i64 ep ∧ Aside0 (roadbookref07_Few.l0 kq ep av au aw ay aD az aA ax aE aC ap an aj am ak ah ai al ao ac af ae aq ar ag = some r) ∧ Aside0 (kq ≤ kj1) ∧ Aside0 (w'.heap[aa]? = some (.cells #[.int .i64 av, .int .i64 au, .int .i64 aw, .string ay, .int .i64 aD, .int .i64 az, .string aA, .int .i64 ax, .int .i64 aE, .string aC, .int .i64 ap, .string an, .int .i64 aj, .int .i64 am, .int .i64 ak, .int .i64 ah, .int .i64 ai, .int .i64 al, .int .i64 ao, .string ac, .string af, (.slice aT ae.length aN), .int .i64 aq, .string ar, (.slice aJ ag.length aK)] 25 (0, 0))) ∧ Aside0 (Below w.heap.size w w'))
    case atStart => exact ⟨(0), Z14, H', ⟨Nat.le_refl _⟩, ⟨Z1⟩, ⟨Z0⟩⟩
    case round =>
     clear H'
     try clear c1
     try clear p2
     try clear c4
     try clear cS
     try clear gY
     try clear c6
     try clear gZ
     try clear ii
     try clear p6
     try clear c8
     try clear fd
     try clear mS
     try clear jy
     try clear p6
     obtain ⟨ep, rfl, HA, HK2, ab, HB⟩ := hrel
     cases gk with
     | zero => exact absurd HA.out (by simp [roadbookref07_Few.l0])
     | succ k2 =>
      have H := HA.out
      clear HA
      simp only [roadbookref07_Few.l0] at H
      by_cases ej : ep < (ae.length : Int)
      ·rw [if_pos ej] at H
       have gL : decide (ep < (ae.length : Int)) = true := decide_eq_true ej
       clear ej
       by_cases hY : 0 ≤ ep
       ·rw [if_pos hY] at H
        have jI : decide (0 ≤ ep) = true := decide_eq_true hY
        clear hY
        by_cases hP : (((rd_T46 ae ep).f0).size : Int) > 50
        ·rw [if_pos hP] at H
         have iN : decide (50 < (((rd_T46 ae ep).f0).size : Int)) = true := decide_eq_true hP
         have jS : decide (50 < ((rd_T46 ae ep).f0).size) = true := decide_eq_true Z55
         clear hP
         obtain rfl := Option.some.inj H
         have jh := cells_25 ab.out
         have p102 : 0 ≤ (ep : Int) := of_decide_eq_true Z10
         have q102 : ep < (ae.length : Int) := of_decide_eq_true Z10
         obtain ⟨ad102, e102, hx102_0, hx102_1⟩ := at_T46 cT.out ep p102 q102
         cases e102
         replace hx102_0 := (HB.out.cell (World.block_lt_of_cell? w _ hx102_0)).trans hx102_0
         replace hx102_1 := (HB.out.cell (World.block_lt_of_cell? w _ hx102_1)).trans hx102_1
         replace p102 := eq_true p102
         replace q102 := eq_true q102
         go_wp2
         go_ret
         exact ⟨Z9, Z0⟩
        ·rw [if_neg hP] at H
         have iN : decide (50 < (((rd_T46 ae ep).f0).size : Int)) = false := decide_eq_false hP
         have jS : decide (50 < ((rd_T46 ae ep).f0).size) = false := decide_eq_false Z55
         clear hP
         have H' := Aside0.mk H
         clear H
         have iR := cells_25 ab.out
         have p102 : 0 ≤ (ep : Int) := of_decide_eq_true Z10
         have q102 : ep < (ae.length : Int) := of_decide_eq_true Z10
         obtain ⟨ad102, e102, hx102_0, hx102_1⟩ := at_T46 cT.out ep p102 q102
         cases e102
         replace hx102_0 := (HB.out.cell (World.block_lt_of_cell? w _ hx102_0)).trans hx102_0
         replace hx102_1 := (HB.out.cell (World.block_lt_of_cell? w _ hx102_1)).trans hx102_1
         replace p102 := eq_true p102
         replace q102 := eq_true q102
         go_wp2
         go_roundg k2
         case measure => have := kB.out; have := HK2.out; omega
         case rel => exact ⟨(wrap64 (ep + 1)), Z14, H', ⟨by have := kB.out; have := HK2.out; omega⟩, ⟨Z1⟩, ⟨Z0⟩⟩
       ·rw [if_neg hY] at H
        exact absurd H Z73
      ·rw [if_neg ej] at H
       have gL : decide (ep < (ae.length : Int)) = false := decide_eq_false ej
       clear ej
       have H' := Aside0.mk H
       clear H
       have lq := cells_25 ab.out
       go_wp2
       go_loopg [4] k2 (fun kq v4 w' => ∃ (iT : Int), v4 = .int .i64 iT ∧ Aside0 (roadbookref07_Few.l1 kq iT av au aw ay aD az aA ax aE aC ap an aj am ak ah ai al ao ac af ae aq ar ag = some r) ∧ Aside0 (kq ≤ k2) ∧ Aside0 (w'.heap[aa]? = some (.cells #[.int .i64 av, .int .i64 au, .int .i64 aw, .string ay, .int .i64 aD, .int .i64 az, .string aA, .int .i64 ax, .int .i64 aE, .string aC, .int .i64 ap, .string an, .int .i64 aj, .int .i64 am, .int .i64 ak, .int .i64 ah, .int .i64 ai, .int .i64 al, .int .i64 ao, .string ac, .string af, (.slice aT ae.length aN), .int .i64 aq, .string ar, (.slice aJ ag.length aK)] 25 (0, 0))) ∧ Aside0 (Below w.heap.size w w'))
       case atStart => exact ⟨(0), Z14, H', ⟨Nat.le_refl _⟩, ⟨Z1⟩, ⟨Z0⟩⟩
       case round =>
        clear H'
        try clear c1
        try clear p2
        try clear c4
        try clear cS
        try clear gY
        try clear c6
        try clear gZ
        try clear ii
        try clear p6
        try clear c8
        try clear iG
        try clear cX
        try clear ff
        try clear hf
        try clear jZ
        try clear fd
        try clear ej
        try clear gL
        try clear hY
        try clear mg
        try clear lF
        try clear ji
        try clear lq
        try clear mS
        try clear jy
        try clear iV
        try clear p2
        try clear p6
        obtain ⟨iT, rfl, HA, HK3, ab, HB⟩ := hrel
        cases gk with
        | zero => exact absurd HA.out (by simp [roadbookref07_Few.l1])
        | succ k3 =>
         have H := HA.out
         clear HA
         simp only [roadbookref07_Few.l1] at H
         by_cases iC : iT < (ag.length : Int)
         ·rw [if_pos iC] at H
          have mX : decide (iT < (ag.length : Int)) = true := decide_eq_true iC
          clear iC
          by_cases lh : 0 ≤ iT
          ·rw [if_pos lh] at H
           have qj : decide (0 ≤ iT) = true := decide_eq_true lh
           clear lh
           by_cases fz : (((rd_T48 ag iT).f1).size : Int) > 300
           ·rw [if_pos fz] at H
            have lc : decide (300 < (((rd_T48 ag iT).f1).size : Int)) = true := decide_eq_true fz
            have ld : decide (300 < ((rd_T48 ag iT).f1).size) = true := decide_eq_true Z55
            clear fz
            obtain rfl := Option.some.inj H
            have iv := cells_25 ab.out
            have p103 : 0 ≤ (iT : Int) := of_decide_eq_true Z10
            have q103 : iT < (ag.length : Int) := of_decide_eq_true Z10
            obtain ⟨ad103, e103, hx103_0, hx103_1⟩ := at_T48 cP.out iT p103 q103
            cases e103
            replace hx103_0 := (HB.out.cell (World.block_lt_of_cell? w _ hx103_0)).trans hx103_0
            replace hx103_1 := (HB.out.cell (World.block_lt_of_cell? w _ hx103_1)).trans hx103_1
            replace p103 := eq_true p103
            replace q103 := eq_true q103
            go_wp2
            go_ret
            exact ⟨Z9, Z0⟩
           ·rw [if_neg fz] at H
            have lc : decide (300 < (((rd_T48 ag iT).f1).size : Int)) = false := decide_eq_false fz
            have ld : decide (300 < ((rd_T48 ag iT).f1).size) = false := decide_eq_false Z55
            clear fz
            have H' := Aside0.mk H
            clear H
            have iO := cells_25 ab.out
            have p103 : 0 ≤ (iT : Int) := of_decide_eq_true Z10
            have q103 : iT < (ag.length : Int) := of_decide_eq_true Z10
            obtain ⟨ad103, e103, hx103_0, hx103_1⟩ := at_T48 cP.out iT p103 q103
            cases e103
            replace hx103_0 := (HB.out.cell (World.block_lt_of_cell? w _ hx103_0)).trans hx103_0
            replace hx103_1 := (HB.out.cell (World.block_lt_of_cell? w _ hx103_1)).trans hx103_1
            replace p103 := eq_true p103
            replace q103 := eq_true q103
            go_wp2
            go_roundg k3
            case measure => have := kB.out; have := HK2.out; have := HK3.out; omega
            case rel => exact ⟨(wrap64 (iT + 1)), Z14, H', ⟨by have := kB.out; have := HK2.out; have := HK3.out; omega⟩, ⟨Z1⟩, ⟨Z0⟩⟩
          ·rw [if_neg lh] at H
           exact absurd H Z73
         ·rw [if_neg iC] at H
          have mX : decide (iT < (ag.length : Int)) = false := decide_eq_false iC
          clear iC
          obtain rfl := Option.some.inj H
          have lu := cells_25 ab.out
          go_wp2
          go_ret
          exact ⟨Z9, Z0⟩

/-! ### roadbookref07_dests: function 65 -/
def roadbookref07_dests.l0 : Nat → List (S46) → List (S46) → Int → Option (Bool)
 | 0, _, _, _ => none
 | k + 1, x0, x1, x5 => if x5 < (x0.length : Int) then (if 0 ≤ x5 then (if x5 < (x1.length : Int) then (if (!((((rd_T46 x0 x5).f0).toList) == (((rd_T46 x1 x5).f0).toList)) || (!(((rd_T46 x0 x5).f1) == ((rd_T46 x1 x5).f1)))) = true then (some false) else (roadbookref07_dests.l0 k x0 x1 (wrap64 (x5 + 1)))) else (none)) else (none)) else (some true)
def roadbookref07_dests.f (k : Nat) (l0 : List (S46)) (l1 : List (S46)) : Option (Bool) := if (l0.length : Int) = (l1.length : Int) then (roadbookref07_dests.l0 k l0 l1 0) else (some false)
theorem roadbookref07_dests.mono_l : ∀ k, (∀ y0 y1 y2, LeO (roadbookref07_dests.l0 k y0 y1 y2) (roadbookref07_dests.l0 (k + 1) y0 y1 y2))
 | 0 => fun _ _ _ r h => by simp [roadbookref07_dests.l0] at h
 | k + 1 => by
  have ih0 := roadbookref07_dests.mono_l k
  ·intro y0 y1 y2
   unfold roadbookref07_dests.l0
   repeat' first
   | (with_reducible exact ih0 ..)
   | (with_reducible exact LeO.refl _)
   | (with_reducible exact LeO.none _)
   | (with_reducible refine LeO.ite ?_ ?_)
   | (with_reducible refine LeO.bind ?_ (fun _ => ?_))
   | exact ih0 ..
   | exact LeO.none _
   | refine LeO.ite ?_ ?_
   | refine LeO.bind ?_ (fun _ => ?_)
theorem roadbookref07_dests.mono : ∀ a0 a1 k, LeO (roadbookref07_dests.f k a0 a1) (roadbookref07_dests.f (k + 1) a0 a1) := by
 intro a0 a1 k
 have ih0 := roadbookref07_dests.mono_l k
 unfold roadbookref07_dests.f
 repeat' first
   | (with_reducible exact ih0 ..)
   | (with_reducible exact LeO.refl _)
   | (with_reducible exact LeO.none _)
   | (with_reducible refine LeO.ite ?_ ?_)
   | (with_reducible refine LeO.bind ?_ (fun _ => ?_))
   | exact ih0 ..
   | exact LeO.none _
   | refine LeO.ite ?_ ?_
   | refine LeO.bind ?_ (fun _ => ?_)
set_option maxHeartbeats 8000000 in
set_option maxRecDepth 100000 in
theorem roadbookref07_dests.calls (k : Nat) (A0 : Option Addr) (c0 : Nat) (l0 : List (S46)) (A1 : Option Addr) (c1 : Nat) (l1 : List (S46)) (r : Bool) (w : World) (ka : Kd.C k46 w A0 l0.length l0) (iM : l0.length ≤ c0) (uJ : Kd.C k46 w A1 l1.length l1) (uK : l1.length ≤ c1) (h : roadbookref07_dests.f k l0 l1 = some r) :
  Calls Try.prog 65 #[.slice A0 l0.length c0, .slice A1 l1.length c1] w fun e w' => e = .returned (.bool r) ∧ Drawn0 w w' := by
 have pa := Try.underlying46
 have js := Aside0.mk ka
 have mD := Aside0.mk iM
 clear ka iM
 have uL := Aside0.mk uJ
 have xo := Aside0.mk uK
 clear uJ uK
 have H : (if (l0.length : Int) = (l1.length : Int) then (roadbookref07_dests.l0 k l0 l1 0) else (some false)) = some r := h
 clear h
 by_cases c3 : (l0.length : Int) = (l1.length : Int)
 ·rw [if_pos c3] at H
  have gw : ((l0.length : Int) == (l1.length : Int)) = true := beq_iff_eq.mpr c3
  have jg : ((l0.length : Int) != (l1.length : Int)) = false := bne_eq_false_iff_eq.mpr c3
  have pz : (l0.length == l1.length) = true := by first | simpa using c3 | (simp at c3 ⊢; omega)
  clear c3
  have H' := Aside0.mk H
  clear H
  go_enter Try.func65, Try.ntmps65
  go_wp2
  repeat (go_quiet (fail); try go_wp2)
  go_loopg [5] k (fun kq v5 w' => ∃ (br : Int), v5 = .int .i64 br ∧ Aside0 (roadbookref07_dests.l0 kq l0 l1 br = some r) ∧ Aside0 (kq ≤ k) ∧ Drawn0 w w')
  case atStart => exact ⟨(0), Z14, H', ⟨Nat.le_refl _⟩, Z44⟩
  case round =>
   clear H'
   try clear c1
   try clear p2
   try clear c3
   try clear gw
   try clear jg
   try clear pz
   obtain ⟨br, rfl, HA, HK1, ⟨m1, rfl⟩⟩ := hrel
   cases gk with
   | zero => exact absurd HA.out (by simp [roadbookref07_dests.l0])
   | succ k1 =>
    have H := HA.out
    clear HA
    simp only [roadbookref07_dests.l0] at H
    by_cases c4 : br < (l0.length : Int)
    ·rw [if_pos c4] at H
     have cS : decide (br < (l0.length : Int)) = true := decide_eq_true c4
     clear c4
     by_cases c5 : 0 ≤ br
     ·rw [if_pos c5] at H
      have hm : decide (0 ≤ br) = true := decide_eq_true c5
      clear c5
      by_cases c6 : br < (l1.length : Int)
      ·rw [if_pos c6] at H
       have gZ : decide (br < (l1.length : Int)) = true := decide_eq_true c6
       clear c6
       by_cases c7 : (!((((rd_T46 l0 br).f0).toList) == (((rd_T46 l1 br).f0).toList)) || (!(((rd_T46 l0 br).f1) == ((rd_T46 l1 br).f1)))) = true
       ·rw [if_pos c7] at H
        have ib : (!((((rd_T46 l0 br).f0).toList) == (((rd_T46 l1 br).f0).toList)) || (!(((rd_T46 l0 br).f1) == ((rd_T46 l1 br).f1)))) = true := c7
        clear c7
        obtain rfl := Option.some.inj H
        have p101 : 0 ≤ (br : Int) := of_decide_eq_true Z10
        have q101 : br < (l0.length : Int) := of_decide_eq_true Z10
        obtain ⟨ad101, e101, hx101_0, hx101_1⟩ := at_T46 js.out br p101 q101
        cases e101
        replace p101 := eq_true p101
        replace q101 := eq_true q101
        have p102 : 0 ≤ (br : Int) := of_decide_eq_true Z10
        have q102 : br < (l1.length : Int) := of_decide_eq_true Z10
        obtain ⟨ad102, e102, hx102_0, hx102_1⟩ := at_T46 uL.out br p102 q102
        cases e102
        replace p102 := eq_true p102
        replace q102 := eq_true q102
        go_wp2
        repeat (go_quiet (fail); try go_wp2)
        go_ret
        exact ⟨Z14, Z44⟩
       ·rw [if_neg c7] at H
        have ib : (!((((rd_T46 l0 br).f0).toList) == (((rd_T46 l1 br).f0).toList)) || (!(((rd_T46 l0 br).f1) == ((rd_T46 l1 br).f1)))) = false := by first | exact Bool.eq_false_iff.mpr c7 | simpa using c7
        clear c7
        have H' := Aside0.mk H
        clear H
        have p101 : 0 ≤ (br : Int) := of_decide_eq_true Z10
        have q101 : br < (l0.length : Int) := of_decide_eq_true Z10
        obtain ⟨ad101, e101, hx101_0, hx101_1⟩ := at_T46 js.out br p101 q101
        cases e101
        replace p101 := eq_true p101
        replace q101 := eq_true q101
        have p102 : 0 ≤ (br : Int) := of_decide_eq_true Z10
        have q102 : br < (l1.length : Int) := of_decide_eq_true Z10
        obtain ⟨ad102, e102, hx102_0, hx102_1⟩ := at_T46 uL.out br p102 q102
        cases e102
        replace p102 := eq_true p102
        replace q102 := eq_true q102
        go_wp2
        repeat (go_quiet (fail); try go_wp2)
        go_roundg k1
        case measure => have := HK1.out; omega
        case rel => exact ⟨(wrap64 (br + 1)), Z14, H', ⟨Z112⟩, Z44⟩
      ·rw [if_neg c6] at H
       exact absurd H Z73
     ·rw [if_neg c5] at H
      exact absurd H Z73
    ·rw [if_neg c4] at H
     have cS : decide (br < (l0.length : Int)) = false := decide_eq_false c4
     clear c4
     obtain rfl := Option.some.inj H
     go_wp2
     repeat (go_quiet (fail); try go_wp2)
     go_ret
     exact ⟨Z14, Z44⟩
 ·rw [if_neg c3] at H
  have gw : ((l0.length : Int) == (l1.length : Int)) = false := beq_eq_false_iff_ne.mpr c3
  have jg : ((l0.length : Int) != (l1.length : Int)) = true := bne_iff_ne.mpr c3
  have pz : (l0.length == l1.length) = false := by first | simpa using c3 | (simp at c3 ⊢; omega)
  obtain rfl := Option.some.inj H
  go_enter Try.func65, Try.ntmps65
  go_wp2
  repeat (go_quiet (fail); try go_wp2)
  go_ret
  exact ⟨Z14, Z44⟩

/-! ### roadbookref07_subs: function 66 -/
def roadbookref07_subs.l0 : Nat → List (S48) → List (S48) → Int → Option (Bool)
 | 0, _, _, _ => none
 | k + 1, x0, x1, x5 => if x5 < (x0.length : Int) then (if 0 ≤ x5 then (if x5 < (x1.length : Int) then (if (!(((rd_T48 x0 x5).f0) == ((rd_T48 x1 x5).f0)) || (!((((rd_T48 x0 x5).f1).toList) == (((rd_T48 x1 x5).f1).toList)))) = true then (some false) else (roadbookref07_subs.l0 k x0 x1 (wrap64 (x5 + 1)))) else (none)) else (none)) else (some true)
def roadbookref07_subs.f (k : Nat) (l0 : List (S48)) (l1 : List (S48)) : Option (Bool) := if (l0.length : Int) = (l1.length : Int) then (roadbookref07_subs.l0 k l0 l1 0) else (some false)
theorem roadbookref07_subs.mono_l : ∀ k, (∀ y0 y1 y2, LeO (roadbookref07_subs.l0 k y0 y1 y2) (roadbookref07_subs.l0 (k + 1) y0 y1 y2))
 | 0 => fun _ _ _ r h => by simp [roadbookref07_subs.l0] at h
 | k + 1 => by
  have ih0 := roadbookref07_subs.mono_l k
  ·intro y0 y1 y2
   unfold roadbookref07_subs.l0
   repeat' first
   | (with_reducible exact ih0 ..)
   | (with_reducible exact LeO.refl _)
   | (with_reducible exact LeO.none _)
   | (with_reducible refine LeO.ite ?_ ?_)
   | (with_reducible refine LeO.bind ?_ (fun _ => ?_))
   | exact ih0 ..
   | exact LeO.none _
   | refine LeO.ite ?_ ?_
   | refine LeO.bind ?_ (fun _ => ?_)
theorem roadbookref07_subs.mono : ∀ a0 a1 k, LeO (roadbookref07_subs.f k a0 a1) (roadbookref07_subs.f (k + 1) a0 a1) := by
 intro a0 a1 k
 have ih0 := roadbookref07_subs.mono_l k
 unfold roadbookref07_subs.f
 repeat' first
   | (with_reducible exact ih0 ..)
   | (with_reducible exact LeO.refl _)
   | (with_reducible exact LeO.none _)
   | (with_reducible refine LeO.ite ?_ ?_)
   | (with_reducible refine LeO.bind ?_ (fun _ => ?_))
   | exact ih0 ..
   | exact LeO.none _
   | refine LeO.ite ?_ ?_
   | refine LeO.bind ?_ (fun _ => ?_)
set_option maxHeartbeats 8000000 in
set_option maxRecDepth 100000 in
theorem roadbookref07_subs.calls (k : Nat) (A0 : Option Addr) (c0 : Nat) (l0 : List (S48)) (A1 : Option Addr) (c1 : Nat) (l1 : List (S48)) (r : Bool) (w : World) (ka : Kd.C k48 w A0 l0.length l0) (iM : l0.length ≤ c0) (uJ : Kd.C k48 w A1 l1.length l1) (uK : l1.length ≤ c1) (h : roadbookref07_subs.f k l0 l1 = some r) :
  Calls Try.prog 66 #[.slice A0 l0.length c0, .slice A1 l1.length c1] w fun e w' => e = .returned (.bool r) ∧ Drawn0 w w' := by
 have pj := Try.underlying48
 have js := Aside0.mk ka
 have mD := Aside0.mk iM
 clear ka iM
 have uL := Aside0.mk uJ
 have xo := Aside0.mk uK
 clear uJ uK
 have H : (if (l0.length : Int) = (l1.length : Int) then (roadbookref07_subs.l0 k l0 l1 0) else (some false)) = some r := h
 clear h
 by_cases c3 : (l0.length : Int) = (l1.length : Int)
 ·rw [if_pos c3] at H
  have gw : ((l0.length : Int) == (l1.length : Int)) = true := beq_iff_eq.mpr c3
  have jg : ((l0.length : Int) != (l1.length : Int)) = false := bne_eq_false_iff_eq.mpr c3
  have pz : (l0.length == l1.length) = true := by first | simpa using c3 | (simp at c3 ⊢; omega)
  clear c3
  have H' := Aside0.mk H
  clear H
  go_enter Try.func66, Try.ntmps66
  go_wp2
  repeat (go_quiet (fail); try go_wp2)
  go_loopg [5] k (fun kq v5 w' => ∃ (br : Int), v5 = .int .i64 br ∧ Aside0 (roadbookref07_subs.l0 kq l0 l1 br = some r) ∧ Aside0 (kq ≤ k) ∧ Drawn0 w w')
  case atStart => exact ⟨(0), Z14, H', ⟨Nat.le_refl _⟩, Z44⟩
  case round =>
   clear H'
   try clear c1
   try clear p2
   try clear c3
   try clear gw
   try clear jg
   try clear pz
   obtain ⟨br, rfl, HA, HK1, ⟨m1, rfl⟩⟩ := hrel
   cases gk with
   | zero => exact absurd HA.out (by simp [roadbookref07_subs.l0])
   | succ k1 =>
    have H := HA.out
    clear HA
    simp only [roadbookref07_subs.l0] at H
    by_cases c4 : br < (l0.length : Int)
    ·rw [if_pos c4] at H
     have cS : decide (br < (l0.length : Int)) = true := decide_eq_true c4
     clear c4
     by_cases c5 : 0 ≤ br
     ·rw [if_pos c5] at H
      have hm : decide (0 ≤ br) = true := decide_eq_true c5
      clear c5
      by_cases c6 : br < (l1.length : Int)
      ·rw [if_pos c6] at H
       have gZ : decide (br < (l1.length : Int)) = true := decide_eq_true c6
       clear c6
       by_cases c7 : (!(((rd_T48 l0 br).f0) == ((rd_T48 l1 br).f0)) || (!((((rd_T48 l0 br).f1).toList) == (((rd_T48 l1 br).f1).toList)))) = true
       ·rw [if_pos c7] at H
        have ib : (!(((rd_T48 l0 br).f0) == ((rd_T48 l1 br).f0)) || (!((((rd_T48 l0 br).f1).toList) == (((rd_T48 l1 br).f1).toList)))) = true := c7
        clear c7
        obtain rfl := Option.some.inj H
        have p101 : 0 ≤ (br : Int) := of_decide_eq_true Z10
        have q101 : br < (l0.length : Int) := of_decide_eq_true Z10
        obtain ⟨ad101, e101, hx101_0, hx101_1⟩ := at_T48 js.out br p101 q101
        cases e101
        replace p101 := eq_true p101
        replace q101 := eq_true q101
        have p102 : 0 ≤ (br : Int) := of_decide_eq_true Z10
        have q102 : br < (l1.length : Int) := of_decide_eq_true Z10
        obtain ⟨ad102, e102, hx102_0, hx102_1⟩ := at_T48 uL.out br p102 q102
        cases e102
        replace p102 := eq_true p102
        replace q102 := eq_true q102
        go_wp2
        repeat (go_quiet (fail); try go_wp2)
        go_ret
        exact ⟨Z14, Z44⟩
       ·rw [if_neg c7] at H
        have ib : (!(((rd_T48 l0 br).f0) == ((rd_T48 l1 br).f0)) || (!((((rd_T48 l0 br).f1).toList) == (((rd_T48 l1 br).f1).toList)))) = false := by first | exact Bool.eq_false_iff.mpr c7 | simpa using c7
        clear c7
        have H' := Aside0.mk H
        clear H
        have p101 : 0 ≤ (br : Int) := of_decide_eq_true Z10
        have q101 : br < (l0.length : Int) := of_decide_eq_true Z10
        obtain ⟨ad101, e101, hx101_0, hx101_1⟩ := at_T48 js.out br p101 q101
        cases e101
        replace p101 := eq_true p101
        replace q101 := eq_true q101
        have p102 : 0 ≤ (br : Int) := of_decide_eq_true Z10
        have q102 : br < (l1.length : Int) := of_decide_eq_true Z10
        obtain ⟨ad102, e102, hx102_0, hx102_1⟩ := at_T48 uL.out br p102 q102
        cases e102
        replace p102 := eq_true p102
        replace q102 := eq_true q102
        go_wp2
        repeat (go_quiet (fail); try go_wp2)
        go_roundg k1
        case measure => have := HK1.out; omega
        case rel => exact ⟨(wrap64 (br + 1)), Z14, H', ⟨Z112⟩, Z44⟩
      ·rw [if_neg c6] at H
       exact absurd H Z73
     ·rw [if_neg c5] at H
      exact absurd H Z73
    ·rw [if_neg c4] at H
     have cS : decide (br < (l0.length : Int)) = false := decide_eq_false c4
     clear c4
     obtain rfl := Option.some.inj H
     go_wp2
     repeat (go_quiet (fail); try go_wp2)
     go_ret
     exact ⟨Z14, Z44⟩
 ·rw [if_neg c3] at H
  have gw : ((l0.length : Int) == (l1.length : Int)) = false := beq_eq_false_iff_ne.mpr c3
  have jg : ((l0.length : Int) != (l1.length : Int)) = true := bne_iff_ne.mpr c3
  have pz : (l0.length == l1.length) = false := by first | simpa using c3 | (simp at c3 ⊢; omega)
  obtain rfl := Option.some.inj H
  go_enter Try.func66, Try.ntmps66
  go_wp2
  repeat (go_quiet (fail); try go_wp2)
  go_ret
  exact ⟨Z14, Z44⟩

/-! ### roadbookref07_Subs: function 75 -/
def roadbookref07_Subs.l0 : Nat → List (S48) → Int → Int → Int → Option (Bool)
 | 0, _, _, _, _ => none
 | k + 1, x0, x1, x2, x7 => if x7 < (x0.length : Int) then (if 0 ≤ x7 then (if ((rd_T48 x0 x7).f0) < x1 then (some false) else (if ((rd_T48 x0 x7).f0) > x2 then (some false) else (if (((rd_T48 x0 x7).f1).size : Int) > 255 then (some false) else (roadbookref07_Subs.l0 k x0 x1 x2 (wrap64 (x7 + 1)))))) else (none)) else (some true)
def roadbookref07_Subs.f (k : Nat) (l0 : List (S48)) (a1 : Int) (a2 : Int) : Option (Bool) := roadbookref07_Subs.l0 k l0 a1 a2 0
theorem roadbookref07_Subs.mono_l : ∀ k, (∀ y0 y1 y2 y3, LeO (roadbookref07_Subs.l0 k y0 y1 y2 y3) (roadbookref07_Subs.l0 (k + 1) y0 y1 y2 y3))
 | 0 => fun _ _ _ _ r h => by simp [roadbookref07_Subs.l0] at h
 | k + 1 => by
  have ih0 := roadbookref07_Subs.mono_l k
  ·intro y0 y1 y2 y3
   unfold roadbookref07_Subs.l0
   repeat' first
   | (with_reducible exact ih0 ..)
   | (with_reducible exact LeO.refl _)
   | (with_reducible exact LeO.none _)
   | (with_reducible refine LeO.ite ?_ ?_)
   | (with_reducible refine LeO.bind ?_ (fun _ => ?_))
   | exact ih0 ..
   | exact LeO.none _
   | refine LeO.ite ?_ ?_
   | refine LeO.bind ?_ (fun _ => ?_)
theorem roadbookref07_Subs.mono : ∀ a0 a1 a2 k, LeO (roadbookref07_Subs.f k a0 a1 a2) (roadbookref07_Subs.f (k + 1) a0 a1 a2) := by
 intro a0 a1 a2 k
 have ih0 := roadbookref07_Subs.mono_l k
 unfold roadbookref07_Subs.f
 repeat' first
   | (with_reducible exact ih0 ..)
   | (with_reducible exact LeO.refl _)
   | (with_reducible exact LeO.none _)
   | (with_reducible refine LeO.ite ?_ ?_)
   | (with_reducible refine LeO.bind ?_ (fun _ => ?_))
   | exact ih0 ..
   | exact LeO.none _
   | refine LeO.ite ?_ ?_
   | refine LeO.bind ?_ (fun _ => ?_)
set_option maxHeartbeats 8000000 in
set_option maxRecDepth 100000 in
theorem roadbookref07_Subs.calls (k : Nat) (A0 : Option Addr) (c0 : Nat) (l0 : List (S48)) (a1 : Int) (a2 : Int) (r : Bool) (w : World) (ka : Kd.C k48 w A0 l0.length l0) (iM : l0.length ≤ c0) (h : roadbookref07_Subs.f k l0 a1 a2 = some r) :
  Calls Try.prog 75 #[.slice A0 l0.length c0, .int .i64 a1, .int .i64 a2] w fun e w' => e = .returned (.bool r) ∧ Drawn0 w w' := by
 have js := Aside0.mk ka
 have mD := Aside0.mk iM
 clear ka iM
 have H : (roadbookref07_Subs.l0 k l0 a1 a2 0) = some r := h
 clear h
 have H' := Aside0.mk H
 clear H
 go_enter Try.func75, Try.ntmps75
 go_wp2
 go_loopg [7] k (fun kq v7 w' => ∃ (da : Int), v7 = .int .i64 da ∧ Aside0 (roadbookref07_Subs.l0 kq l0 a1 a2 da = some r) ∧ Aside0 (kq ≤ k) ∧ Drawn0 w w')
 case atStart => exact ⟨(0), Z14, H', ⟨Nat.le_refl _⟩, Z44⟩
 case round =>
  clear H'
  try clear p2
  obtain ⟨da, rfl, HA, HK1, ⟨m1, rfl⟩⟩ := hrel
  cases gk with
  | zero => exact absurd HA.out (by simp [roadbookref07_Subs.l0])
  | succ k1 =>
   have H := HA.out
   clear HA
   simp only [roadbookref07_Subs.l0] at H
   by_cases c4 : da < (l0.length : Int)
   ·rw [if_pos c4] at H
    have cS : decide (da < (l0.length : Int)) = true := decide_eq_true c4
    clear c4
    by_cases c5 : 0 ≤ da
    ·rw [if_pos c5] at H
     have hm : decide (0 ≤ da) = true := decide_eq_true c5
     clear c5
     by_cases c6 : ((rd_T48 l0 da).f0) < a1
     ·rw [if_pos c6] at H
      have gZ : decide (((rd_T48 l0 da).f0) < a1) = true := decide_eq_true c6
      clear c6
      obtain rfl := Option.some.inj H
      have p101 : 0 ≤ (da : Int) := of_decide_eq_true Z10
      have q101 : da < (l0.length : Int) := of_decide_eq_true Z10
      obtain ⟨ad101, e101, hx101_0, hx101_1⟩ := at_T48 js.out da p101 q101
      cases e101
      replace p101 := eq_true p101
      replace q101 := eq_true q101
      go_wp2
      go_ret
      exact ⟨Z14, Z44⟩
     ·rw [if_neg c6] at H
      have gZ : decide (((rd_T48 l0 da).f0) < a1) = false := decide_eq_false c6
      clear c6
      by_cases c7 : ((rd_T48 l0 da).f0) > a2
      ·rw [if_pos c7] at H
       have ib : decide (a2 < ((rd_T48 l0 da).f0)) = true := decide_eq_true c7
       clear c7
       obtain rfl := Option.some.inj H
       have p101 : 0 ≤ (da : Int) := of_decide_eq_true Z10
       have q101 : da < (l0.length : Int) := of_decide_eq_true Z10
       obtain ⟨ad101, e101, hx101_0, hx101_1⟩ := at_T48 js.out da p101 q101
       cases e101
       replace p101 := eq_true p101
       replace q101 := eq_true q101
       have p102 : 0 ≤ (da : Int) := of_decide_eq_true Z10
       have q102 : da < (l0.length : Int) := of_decide_eq_true Z10
       obtain ⟨ad102, e102, hx102_0, hx102_1⟩ := at_T48 js.out da p102 q102
       obtain rfl : ad101 = ad102 := (by injection e102)
       replace p102 := eq_true p102
       replace q102 := eq_true q102
       go_wp2
       go_ret
       exact ⟨Z14, Z44⟩
      ·rw [if_neg c7] at H
       have ib : decide (a2 < ((rd_T48 l0 da).f0)) = false := decide_eq_false c7
       clear c7
       by_cases c8 : (((rd_T48 l0 da).f1).size : Int) > 255
       ·rw [if_pos c8] at H
        have iG : decide (255 < (((rd_T48 l0 da).f1).size : Int)) = true := decide_eq_true c8
        have kt : decide (255 < ((rd_T48 l0 da).f1).size) = true := decide_eq_true Z55
        clear c8
        obtain rfl := Option.some.inj H
        have p101 : 0 ≤ (da : Int) := of_decide_eq_true Z10
        have q101 : da < (l0.length : Int) := of_decide_eq_true Z10
        obtain ⟨ad101, e101, hx101_0, hx101_1⟩ := at_T48 js.out da p101 q101
        cases e101
        replace p101 := eq_true p101
        replace q101 := eq_true q101
        have p102 : 0 ≤ (da : Int) := of_decide_eq_true Z10
        have q102 : da < (l0.length : Int) := of_decide_eq_true Z10
        obtain ⟨ad102, e102, hx102_0, hx102_1⟩ := at_T48 js.out da p102 q102
        obtain rfl : ad101 = ad102 := (by injection e102)
        replace p102 := eq_true p102
        replace q102 := eq_true q102
        have p103 : 0 ≤ (da : Int) := of_decide_eq_true Z10
        have q103 : da < (l0.length : Int) := of_decide_eq_true Z10
        obtain ⟨ad103, e103, hx103_0, hx103_1⟩ := at_T48 js.out da p103 q103
        obtain rfl : ad101 = ad103 := (by injection e103)
        replace p103 := eq_true p103
        replace q103 := eq_true q103
        go_wp2
        go_ret
        exact ⟨Z14, Z44⟩
       ·rw [if_neg c8] at H
        have iG : decide (255 < (((rd_T48 l0 da).f1).size : Int)) = false := decide_eq_false c8
        have kt : decide (255 < ((rd_T48 l0 da).f1).size) = false := decide_eq_false Z55
        clear c8
        have H' := Aside0.mk H
        clear H
        have p101 : 0 ≤ (da : Int) := of_decide_eq_true Z10
        have q101 : da < (l0.length : Int) := of_decide_eq_true Z10
        obtain ⟨ad101, e101, hx101_0, hx101_1⟩ := at_T48 js.out da p101 q101
        cases e101
        replace p101 := eq_true p101
        replace q101 := eq_true q101
        have p102 : 0 ≤ (da : Int) := of_decide_eq_true Z10
        have q102 : da < (l0.length : Int) := of_decide_eq_true Z10
        obtain ⟨ad102, e102, hx102_0, hx102_1⟩ := at_T48 js.out da p102 q102
        obtain rfl : ad101 = ad102 := (by injection e102)
        replace p102 := eq_true p102
        replace q102 := eq_true q102
        have p103 : 0 ≤ (da : Int) := of_decide_eq_true Z10
        have q103 : da < (l0.length : Int) := of_decide_eq_true Z10
        obtain ⟨ad103, e103, hx103_0, hx103_1⟩ := at_T48 js.out da p103 q103
        obtain rfl : ad101 = ad103 := (by injection e103)
        replace p103 := eq_true p103
        replace q103 := eq_true q103
        go_wp2
        go_roundg k1
        case measure => have := HK1.out; omega
        case rel => exact ⟨(wrap64 (da + 1)), Z14, H', ⟨Z112⟩, Z44⟩
    ·rw [if_neg c5] at H
     exact absurd H Z73
   ·rw [if_neg c4] at H
    have cS : decide (da < (l0.length : Int)) = false := decide_eq_false c4
    clear c4
    obtain rfl := Option.some.inj H
    go_wp2
    go_ret
    exact ⟨Z14, Z44⟩

/-! ### roadbookref07_Bytes: function 32 -/
def roadbookref07_Bytes.l0 : Nat → List (S48) → Int → Int → Option (Int)
 | 0, _, _, _ => none
 | k + 1, x0, x3, x4 => if x4 < (x0.length : Int) then (if 0 ≤ x4 then (roadbookref07_Bytes.l0 k x0 (wrap64 ((wrap64 (x3 + 2)) + (((rd_T48 x0 x4).f1).size : Int))) (wrap64 (x4 + 1))) else (none)) else (some x3)
def roadbookref07_Bytes.f (k : Nat) (l0 : List (S48)) : Option (Int) := roadbookref07_Bytes.l0 k l0 0 0
theorem roadbookref07_Bytes.mono_l : ∀ k, (∀ y0 y1 y2, LeO (roadbookref07_Bytes.l0 k y0 y1 y2) (roadbookref07_Bytes.l0 (k + 1) y0 y1 y2))
 | 0 => fun _ _ _ r h => by simp [roadbookref07_Bytes.l0] at h
 | k + 1 => by
  have ih0 := roadbookref07_Bytes.mono_l k
  ·intro y0 y1 y2
   unfold roadbookref07_Bytes.l0
   repeat' first
   | (with_reducible exact ih0 ..)
   | (with_reducible exact LeO.refl _)
   | (with_reducible exact LeO.none _)
   | (with_reducible refine LeO.ite ?_ ?_)
   | (with_reducible refine LeO.bind ?_ (fun _ => ?_))
   | exact ih0 ..
   | exact LeO.none _
   | refine LeO.ite ?_ ?_
   | refine LeO.bind ?_ (fun _ => ?_)
theorem roadbookref07_Bytes.mono : ∀ a0 k, LeO (roadbookref07_Bytes.f k a0) (roadbookref07_Bytes.f (k + 1) a0) := by
 intro a0 k
 have ih0 := roadbookref07_Bytes.mono_l k
 unfold roadbookref07_Bytes.f
 repeat' first
   | (with_reducible exact ih0 ..)
   | (with_reducible exact LeO.refl _)
   | (with_reducible exact LeO.none _)
   | (with_reducible refine LeO.ite ?_ ?_)
   | (with_reducible refine LeO.bind ?_ (fun _ => ?_))
   | exact ih0 ..
   | exact LeO.none _
   | refine LeO.ite ?_ ?_
   | refine LeO.bind ?_ (fun _ => ?_)
set_option maxHeartbeats 8000000 in
set_option maxRecDepth 100000 in
theorem roadbookref07_Bytes.calls (k : Nat) (A0 : Option Addr) (c0 : Nat) (l0 : List (S48)) (r : Int) (w : World) (ka : Kd.C k48 w A0 l0.length l0) (iM : l0.length ≤ c0) (h : roadbookref07_Bytes.f k l0 = some r) :
  Calls Try.prog 32 #[.slice A0 l0.length c0] w fun e w' => e = .returned (.int .i64 r) ∧ Drawn0 w w' := by
 have js := Aside0.mk ka
 have mD := Aside0.mk iM
 clear ka iM
 have H : (roadbookref07_Bytes.l0 k l0 0 0) = some r := h
 clear h
 have H' := Aside0.mk H
 clear H
 go_enter Try.func32, Try.ntmps32
 go_wp2
 go_loopg [3, 4] k (fun kq v3 v4 w' => ∃ (kb : Int) (cI : Int), v3 = .int .i64 kb ∧ v4 = .int .i64 cI ∧ Aside0 (roadbookref07_Bytes.l0 kq l0 kb cI = some r) ∧ Aside0 (kq ≤ k) ∧ Drawn0 w w')
 case atStart => exact ⟨(0), (0), Z14, Z14, H', ⟨Nat.le_refl _⟩, Z44⟩
 case round =>
  clear H'
  obtain ⟨kb, cI, rfl, rfl, HA, HK1, ⟨m1, rfl⟩⟩ := hrel
  cases gk with
  | zero => exact absurd HA.out (by simp [roadbookref07_Bytes.l0])
  | succ k1 =>
   have H := HA.out
   clear HA
   simp only [roadbookref07_Bytes.l0] at H
   by_cases c2 : cI < (l0.length : Int)
   ·rw [if_pos c2] at H
    have iq : decide (cI < (l0.length : Int)) = true := decide_eq_true c2
    clear c2
    by_cases c3 : 0 ≤ cI
    ·rw [if_pos c3] at H
     have gw : decide (0 ≤ cI) = true := decide_eq_true c3
     clear c3
     have H' := Aside0.mk H
     clear H
     have p101 : 0 ≤ (cI : Int) := of_decide_eq_true Z10
     have q101 : cI < (l0.length : Int) := of_decide_eq_true Z10
     obtain ⟨ad101, e101, hx101_0, hx101_1⟩ := at_T48 js.out cI p101 q101
     cases e101
     replace p101 := eq_true p101
     replace q101 := eq_true q101
     go_wp2
     go_roundg k1
     case measure => have := HK1.out; omega
     case rel => exact ⟨(wrap64 ((wrap64 (kb + 2)) + (((rd_T48 l0 cI).f1).size : Int))), (wrap64 (cI + 1)), Z14, Z14, H', ⟨Z112⟩, Z44⟩
    ·rw [if_neg c3] at H
     exact absurd H Z73
   ·rw [if_neg c2] at H
    have iq : decide (cI < (l0.length : Int)) = false := decide_eq_false c2
    clear c2
    obtain rfl := Option.some.inj H
    go_wp2
    go_ret
    exact ⟨Z14, Z44⟩

end Go.Proofs.Ytccjakjjaemmkaa.PR
