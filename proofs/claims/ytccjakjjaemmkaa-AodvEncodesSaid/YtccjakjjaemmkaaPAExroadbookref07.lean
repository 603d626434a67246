-- Written by mp.py, a program of this work (wip/tools), out of the translation; Lean checks it.
import Derived.Test.YtccjakjjaemmkaaPAExZ
import Derived.Test.YtccjakjjaemmkaaPAExEq
import Derived.Test.YtccjakjjaemmkaaLoad
namespace Go.Proofs.Ytccjakjjaemmkaa.PAE
open Go.RowKit Go.Proofs.YtccjakjjaemmkaaW.PrintWords Go.Proofs.YtccjakjjaemmkaaW.PrintLast Go.Proofs.YtccjakjjaemmkaaW.PrintMore
attribute [local go_sem] max2_int min2_int max_two min_two max_three min_three max_four min_four   -- for this text's walks alone
set_option linter.unusedVariables false
set_option linter.unusedSimpArgs false

attribute [local go_sem high] eqA46 eqA48
/-! ### roadbookref07_Few: function 16 -/
mutual
def roadbookref07_Few.j0 : Nat → Bool → Int → Int → Int → ByteArray → Int → Int → ByteArray → Int → Int → ByteArray → Int → ByteArray → Int → Int → Int → Int → Int → Int → Int → ByteArray → ByteArray → List (S46) → Int → ByteArray → List (S48) → Option (Bool)
 | 0, _, _, _, _, _, _, _, _, _, _, _, _, _, _, _, _, _, _, _, _, _, _, _, _, _, _ => none
 | k + 1, pe, bq, bI, bJ, bK, bL, bM, bN, br, bO, bP, bQ, bD, bs, bA, bv, bo, bu, bB, bE, bw, bx, bf, bF, bG, bj => if pe = true then (some false) else (roadbookref07_Few.l0 k 0 bq bI bJ bK bL bM bN br bO bP bQ bD bs bA bv bo bu bB bE bw bx bf bF bG bj)
def roadbookref07_Few.l0 : Nat → Int → Int → Int → Int → ByteArray → Int → Int → ByteArray → Int → Int → ByteArray → Int → ByteArray → Int → Int → Int → Int → Int → Int → Int → ByteArray → ByteArray → List (S46) → Int → ByteArray → List (S48) → Option (Bool)
 | 0, _, _, _, _, _, _, _, _, _, _, _, _, _, _, _, _, _, _, _, _, _, _, _, _, _, _ => none
 | k + 1, x3, bq, bI, bJ, bK, bL, bM, bN, br, bO, bP, bQ, bD, bs, bA, bv, bo, bu, bB, bE, bw, bx, bf, bF, bG, bj => if x3 < (bf.length : Int) then (if 0 ≤ x3 then (if (((rd_T46 bf x3).f0).size : Int) > 50 then (some false) else (roadbookref07_Few.l0 k (wrap64 (x3 + 1)) bq bI bJ bK bL bM bN br bO bP bQ bD bs bA bv bo bu bB bE bw bx bf bF bG bj)) else (none)) else (roadbookref07_Few.l1 k 0 bq bI bJ bK bL bM bN br bO bP bQ bD bs bA bv bo bu bB bE bw bx bf bF bG bj)
def roadbookref07_Few.l1 : Nat → Int → Int → Int → Int → ByteArray → Int → Int → ByteArray → Int → Int → ByteArray → Int → ByteArray → Int → Int → Int → Int → Int → Int → Int → ByteArray → ByteArray → List (S46) → Int → ByteArray → List (S48) → Option (Bool)
 | 0, _, _, _, _, _, _, _, _, _, _, _, _, _, _, _, _, _, _, _, _, _, _, _, _, _, _ => none
 | k + 1, x4, bq, bI, bJ, bK, bL, bM, bN, br, bO, bP, bQ, bD, bs, bA, bv, bo, bu, bB, bE, bw, bx, bf, bF, bG, bj => if x4 < (bj.length : Int) then (if 0 ≤ x4 then (if (((rd_T48 bj x4).f1).size : Int) > 300 then (some false) else (roadbookref07_Few.l1 k (wrap64 (x4 + 1)) bq bI bJ bK bL bM bN br bO bP bQ bD bs bA bv bo bu bB bE bw bx bf bF bG bj)) else (none)) else (some true)
end
def roadbookref07_Few.f (k : Nat) (aD : Int) (aw : Int) (ax : Int) (au : ByteArray) (aA : Int) (ay : Int) (av : ByteArray) (ar : Int) (aC : Int) (az : ByteArray) (ao : Int) (am : ByteArray) (ah : Int) (aj : Int) (ak : Int) (ae : Int) (ag : Int) (ai : Int) (an : Int) (aa : ByteArray) (ab : ByteArray) (ac : List (S46)) (ap : Int) (aq : ByteArray) (af : List (S48)) : Option (Bool) := if (ac.length : Int) > 300 then (roadbookref07_Few.j0 k true aD aw ax au aA ay av ar aC az ao am ah aj ak ae ag ai an aa ab ac ap aq af) else (if (af.length : Int) > 60 then (roadbookref07_Few.j0 k true aD aw ax au aA ay av ar aC az ao am ah aj ak ae ag ai an aa ab ac ap aq af) else (if (wrap64 ((au.size : Int) + (av.size : Int))) > 200 then (roadbookref07_Few.j0 k true aD aw ax au aA ay av ar aC az ao am ah aj ak ae ag ai an aa ab ac ap aq af) else (if (wrap64 ((az.size : Int) + (am.size : Int))) > 200 then (roadbookref07_Few.j0 k true aD aw ax au aA ay av ar aC az ao am ah aj ak ae ag ai an aa ab ac ap aq af) else (if (wrap64 ((aa.size : Int) + (ab.size : Int))) > 200 then (roadbookref07_Few.j0 k true aD aw ax au aA ay av ar aC az ao am ah aj ak ae ag ai an aa ab ac ap aq af) else (roadbookref07_Few.j0 k (decide ((aq.size : Int) > 300)) aD aw ax au aA ay av ar aC az ao am ah aj ak ae ag ai an aa ab ac ap aq af)))))
theorem roadbookref07_Few.mono_l : ∀ k, (∀ y0 y1 y2 y3 y4 y5 y6 y7 y8 y9 er es et eu ev ew ex ey ez eA eB eC eD eE eF eG, LeO (roadbookref07_Few.j0 k y0 y1 y2 y3 y4 y5 y6 y7 y8 y9 er es et eu ev ew ex ey ez eA eB eC eD eE eF eG) (roadbookref07_Few.j0 (k + 1) y0 y1 y2 y3 y4 y5 y6 y7 y8 y9 er es et eu ev ew ex ey ez eA eB eC eD eE eF eG)) ∧ (∀ y0 y1 y2 y3 y4 y5 y6 y7 y8 y9 er es et eu ev ew ex ey ez eA eB eC eD eE eF eG, LeO (roadbookref07_Few.l0 k y0 y1 y2 y3 y4 y5 y6 y7 y8 y9 er es et eu ev ew ex ey ez eA eB eC eD eE eF eG) (roadbookref07_Few.l0 (k + 1) y0 y1 y2 y3 y4 y5 y6 y7 y8 y9 er es et eu ev ew ex ey ez eA eB eC eD eE eF eG)) ∧ (∀ y0 y1 y2 y3 y4 y5 y6 y7 y8 y9 er es et eu ev ew ex ey ez eA eB eC eD eE eF eG, LeO (roadbookref07_Few.l1 k y0 y1 y2 y3 y4 y5 y6 y7 y8 y9 er es et eu ev ew ex ey ez eA eB eC eD eE eF eG) (roadbookref07_Few.l1 (k + 1) y0 y1 y2 y3 y4 y5 y6 y7 y8 y9 er es et eu ev ew ex ey ez eA eB eC eD eE eF eG))
 | 0 => ⟨Sq.mz, Sq.mz, Sq.mz⟩
 | k + 1 => by
  obtain ⟨ih0, ih1, ih2⟩ := roadbookref07_Few.mono_l k
  refine ⟨?_, ?_, ?_⟩
  ·intros
   unfold roadbookref07_Few.j0
   exact Sq.mo
  ·intros
   unfold roadbookref07_Few.l0
   exact Sq.mo
  ·intros
   unfold roadbookref07_Few.l1
   exact Sq.mo
theorem roadbookref07_Few.mono : ∀ a0 a1 a2 a3 a4 a5 a6 a7 a8 a9 dY dZ ea eb ec ed ee ef eg eh ei ej ek el em k, LeO (roadbookref07_Few.f k a0 a1 a2 a3 a4 a5 a6 a7 a8 a9 dY dZ ea eb ec ed ee ef eg eh ei ej ek el em) (roadbookref07_Few.f (k + 1) a0 a1 a2 a3 a4 a5 a6 a7 a8 a9 dY dZ ea eb ec ed ee ef eg eh ei ej ek el em) := by
 intros
 rename_i k
 obtain ⟨ih0, ih1, ih2⟩ := roadbookref07_Few.mono_l k
 unfold roadbookref07_Few.f
 exact Sq.mo
set_option maxHeartbeats 8000000 in
set_option maxRecDepth 100000 in
theorem roadbookref07_Few.calls (k : Nat) (aD : Int) (aw : Int) (ax : Int) (au : ByteArray) (aA : Int) (ay : Int) (av : ByteArray) (ar : Int) (aC : Int) (az : ByteArray) (ao : Int) (am : ByteArray) (ah : Int) (aj : Int) (ak : Int) (ae : Int) (ag : Int) (ai : Int) (an : Int) (aa : ByteArray) (ab : ByteArray) (aP : Option Addr) (aN : Nat) (ac : List (S46)) (ap : Int) (aq : ByteArray) (aJ : Option Addr) (aK : Nat) (af : List (S48)) (r : Bool) (w : World) (bk : Kd.C k46 w aP ac.length ac) (bl : ac.length ≤ aN) (bm : Kd.C k48 w aJ af.length af) (bn : af.length ≤ aK) (h : roadbookref07_Few.f k aD aw ax au aA ay av ar aC az ao am ah aj ak ae ag ai an aa ab ac ap aq af = some r) :
  Calls Try.prog 16 #[.agg #[.int .i64 aD, .int .i64 aw, .int .i64 ax, .string au, .int .i64 aA, .int .i64 ay, .string av, .int .i64 ar, .int .i64 aC, .string az, .int .i64 ao, .string am, .int .i64 ah, .int .i64 aj, .int .i64 ak, .int .i64 ae, .int .i64 ag, .int .i64 ai, .int .i64 an, .string aa, .string ab, .slice aP ac.length aN, .int .i64 ap, .string aq, .slice aJ af.length aK]] w fun e w' => e = .returned (.bool r) ∧ Below w.heap.size w w' := by
 have dM := Try.underlying25
 have cc := Aside0.mk bk
 have aZ := Aside0.mk bl
 clear bk bl
 have bZ := Aside0.mk bm
 have aT := Aside0.mk bn
 clear bm bn
 have HB := Aside0.mk (Below.refl w.heap.size w)
 have H : (if (ac.length : Int) > 300 then (roadbookref07_Few.j0 k true aD aw ax au aA ay av ar aC az ao am ah aj ak ae ag ai an aa ab ac ap aq af) else (if (af.length : Int) > 60 then (roadbookref07_Few.j0 k true aD aw ax au aA ay av ar aC az ao am ah aj ak ae ag ai an aa ab ac ap aq af) else (if (wrap64 ((au.size : Int) + (av.size : Int))) > 200 then (roadbookref07_Few.j0 k true aD aw ax au aA ay av ar aC az ao am ah aj ak ae ag ai an aa ab ac ap aq af) else (if (wrap64 ((az.size : Int) + (am.size : Int))) > 200 then (roadbookref07_Few.j0 k true aD aw ax au aA ay av ar aC az ao am ah aj ak ae ag ai an aa ab ac ap aq af) else (if (wrap64 ((aa.size : Int) + (ab.size : Int))) > 200 then (roadbookref07_Few.j0 k true aD aw ax au aA ay av ar aC az ao am ah aj ak ae ag ai an aa ab ac ap aq af) else (roadbookref07_Few.j0 k (decide ((aq.size : Int) > 300)) aD aw ax au aA ay av ar aC az ao am ah aj ak ae ag ai an aa ab ac ap aq af)))))) = some r := h
 clear h
 have fT := Aside0.mk H
 clear H
 go_enter Try.func16, Try.ntmps16
 go_upto_region 1 with (first | ((with_reducible refine gate_dst (N := 1) rfl ?_); (try (refine gate_guard Z14 ?_; dsimp only)); refine Sq.box 1 #[.int .i64 aD, .int .i64 aw, .int .i64 ax, .string au, .int .i64 aA, .int .i64 ay, .string av, .int .i64 ar, .int .i64 aC, .string az, .int .i64 ao, .string am, .int .i64 ah, .int .i64 aj, .int .i64 ak, .int .i64 ae, .int .i64 ag, .int .i64 ai, .int .i64 an, .string aa, .string ab, .slice aP ac.length aN, .int .i64 ap, .string aq, .slice aJ af.length aK] 25 ?_; intro aE hg w3 hbox hb; have al := Aside0.mk (hbox); have cd := Aside0.mk (Sq.ge hg Z2); have bV := Aside0.mk (Sq.ge hg Z2); replace HB := Aside0.mk (below_step Z2 hb); clear hb hbox hg))
 (try simp only [Act.put, Sq.s1, Sq.s2, Sq.s3])
 go_cut [50] (fun pf wc => ∃ (kq : Nat) (iD : Bool), pf = .bool iD ∧ Aside0 (roadbookref07_Few.j0 kq iD aD aw ax au aA ay av ar aC az ao am ah aj ak ae ag ai an aa ab ac ap aq af = some r) ∧ Aside0 (kq ≤ k) ∧ Aside0 (wc.heap[aE]? = some (.cells #[.int .i64 aD, .int .i64 aw, .int .i64 ax, .string au, .int .i64 aA, .int .i64 ay, .string av, .int .i64 ar, .int .i64 aC, .string az, .int .i64 ao, .string am, .int .i64 ah, .int .i64 aj, .int .i64 ak, .int .i64 ae, .int .i64 ag, .int .i64 ai, .int .i64 an, .string aa, .string ab, (.slice aP ac.length aN), .int .i64 ap, .string aq, (.slice aJ af.length aK)] 25 (0, 0))) ∧ Aside0 (Below w.heap.size w wc))
 case first =>
  have H := fT.out
  clear fT
  by_cases c4 : (ac.length : Int) > 300
  ·rw [if_pos c4] at H
   have cf : decide (300 < (ac.length : Int)) = true := decide_eq_true c4
   have fd : decide (300 < ac.length) = true := decide_eq_true Z29
   clear c4
   (first | rw [cf] | (simp only [i64_w, i32_w]; rw [cf]) | skip)
   have H' := Aside0.mk H
   clear H
   have hh := cells_25 al.out
   go_wp2
   go_meet
   case rel => exact ⟨_, (true), Z10, H', ⟨Z20⟩, ⟨Z3⟩, ⟨Z0⟩⟩
  ·rw [if_neg c4] at H
   have cf : decide (300 < (ac.length : Int)) = false := decide_eq_false c4
   have fd : decide (300 < ac.length) = false := decide_eq_false Z29
   clear c4
   (first | rw [cf] | (simp only [i64_w, i32_w]; rw [cf]) | skip)
   by_cases c6 : (af.length : Int) > 60
   ·rw [if_pos c6] at H
    have dW : decide (60 < (af.length : Int)) = true := decide_eq_true c6
    have ft : decide (60 < af.length) = true := decide_eq_true Z29
    clear c6
    have H' := Aside0.mk H
    clear H
    have iI := cells_25 al.out
    go_wp2
    go_meet
    case rel => exact ⟨_, (true), Z10, H', ⟨Z20⟩, ⟨Z3⟩, ⟨Z0⟩⟩
   ·rw [if_neg c6] at H
    have dW : decide (60 < (af.length : Int)) = false := decide_eq_false c6
    have ft : decide (60 < af.length) = false := decide_eq_false Z29
    clear c6
    by_cases c8 : (wrap64 ((au.size : Int) + (av.size : Int))) > 200
    ·rw [if_pos c8] at H
     have fS : decide (200 < (wrap64 ((au.size : Int) + (av.size : Int)))) = true := decide_eq_true c8
     clear c8
     have H' := Aside0.mk H
     clear H
     have ji := cells_25 al.out
     go_wp2
     go_meet
     case rel => exact ⟨_, (true), Z10, H', ⟨Z20⟩, ⟨Z3⟩, ⟨Z0⟩⟩
    ·rw [if_neg c8] at H
     have fS : decide (200 < (wrap64 ((au.size : Int) + (av.size : Int)))) = false := decide_eq_false c8
     clear c8
     by_cases dv : (wrap64 ((az.size : Int) + (am.size : Int))) > 200
     ·rw [if_pos dv] at H
      have eS : decide (200 < (wrap64 ((az.size : Int) + (am.size : Int)))) = true := decide_eq_true dv
      clear dv
      have H' := Aside0.mk H
      clear H
      have jm := cells_25 al.out
      go_wp2
      go_meet
      case rel => exact ⟨_, (true), Z10, H', ⟨Z20⟩, ⟨Z3⟩, ⟨Z0⟩⟩
     ·rw [if_neg dv] at H
      have eS : decide (200 < (wrap64 ((az.size : Int) + (am.size : Int)))) = false := decide_eq_false dv
      clear dv
      by_cases dP : (wrap64 ((aa.size : Int) + (ab.size : Int))) > 200
      ·rw [if_pos dP] at H
       have gB : decide (200 < (wrap64 ((aa.size : Int) + (ab.size : Int)))) = true := decide_eq_true dP
       clear dP
       have H' := Aside0.mk H
       clear H
       have mN := cells_25 al.out
       go_wp2
       go_meet
       case rel => exact ⟨_, (true), Z10, H', ⟨Z20⟩, ⟨Z3⟩, ⟨Z0⟩⟩
      ·rw [if_neg dP] at H
       have gB : decide (200 < (wrap64 ((aa.size : Int) + (ab.size : Int)))) = false := decide_eq_false dP
       clear dP
       have H' := Aside0.mk H
       clear H
       have gO := cells_25 al.out
       go_wp2
       go_meet
       case rel => exact ⟨_, (decide ((aq.size : Int) > 300)), Z10, H', ⟨Z20⟩, ⟨Z3⟩, ⟨Z0⟩⟩
 case rest =>
  clear fT
  try clear c1
  try clear p6
  obtain ⟨kq, iD, rfl, HA, hT, al, HB⟩ := hcut
  cases kq with
  | zero => exact absurd HA.out (by simp [roadbookref07_Few.j0])
  | succ kj1 =>
   have H := HA.out
   clear HA
   simp only [roadbookref07_Few.j0] at H
   by_cases dA : iD = true
   ·subst dA
    replace H := Sq.itT H
    obtain rfl := Option.some.inj H
    go_wp2
    go_ret
    exact ⟨Z6, Z0⟩
   ·replace dA := Bool.eq_false_iff.mpr dA
    subst dA
    replace H := Sq.itF H
    have H' := Aside0.mk H
    clear H
    go_wp2
    go_loopg [3] kj1 (fun kq v3 w' => ∃ (cz : Int), v3 = .int .i64 cz ∧ Aside0 (roadbookref07_Few.l0 kq cz aD aw ax au aA ay av ar aC az ao am ah aj ak ae ag ai an aa ab ac ap aq af = some r) ∧ Aside0 (kq ≤ kj1) ∧ Aside0 (w'.heap[aE]? = some (.cells #[.int .i64 aD, .int .i64 aw, .int .i64 ax, .string au, .int .i64 aA, .int .i64 ay, .string av, .int .i64 ar, .int .i64 aC, .string az, .int .i64 ao, .string am, .int .i64 ah, .int .i64 aj, .int .i64 ak, .int .i64 ae, .int .i64 ag, .int .i64 ai, .int .i64 an, .string aa, .string ab, (.slice aP ac.length aN), .int .i64 ap, .string aq, (.slice aJ af.length aK)] 25 (0, 0))) ∧ Aside0 (Below w.heap.size w w'))
    case atStart => exact ⟨(0), Z10, H', ⟨Nat.le_refl _⟩, ⟨Z3⟩, ⟨Z0⟩⟩
    case round =>
     clear H'
     try clear c1
     try clear p2
     try clear c4
     try clear cf
     try clear fd
     try clear c6
     try clear dW
     try clear ft
     try clear p6
     try clear c8
     try clear dA
     try clear hh
     try clear iI
     try clear p6
     obtain ⟨cz, rfl, HA, HK2, al, HB⟩ := hrel
     cases gk with
     | zero => exact absurd HA.out (by simp [roadbookref07_Few.l0])
     | succ k2 =>
      have H := HA.out
      clear HA
      simp only [roadbookref07_Few.l0] at H
      by_cases dy : cz < (ac.length : Int)
      ·rw [if_pos dy] at H
       have eP : decide (cz < (ac.length : Int)) = true := decide_eq_true dy
       clear dy
       by_cases eM : 0 ≤ cz
       ·rw [if_pos eM] at H
        have fW : decide (0 ≤ cz) = true := decide_eq_true eM
        clear eM
        by_cases ep : (((rd_T46 ac cz).f0).size : Int) > 50
        ·rw [if_pos ep] at H
         have fy : decide (50 < (((rd_T46 ac cz).f0).size : Int)) = true := decide_eq_true ep
         have gL : decide (50 < ((rd_T46 ac cz).f0).size) = true := decide_eq_true Z29
         clear ep
         obtain rfl := Option.some.inj H
         have ig := cells_25 al.out
         have p102 : 0 ≤ (cz : Int) := of_decide_eq_true Z8
         have q102 : cz < (ac.length : Int) := of_decide_eq_true Z8
         obtain ⟨ad102, e102, hx102_0, hx102_1⟩ := at_T46 cc.out cz p102 q102
         cases e102
         replace hx102_0 := Sq.up HB.out hx102_0
         replace hx102_1 := Sq.up HB.out hx102_1
         replace p102 := eq_true p102
         replace q102 := eq_true q102
         go_wp2
         go_ret
         exact ⟨Z6, Z0⟩
        ·rw [if_neg ep] at H
         have fy : decide (50 < (((rd_T46 ac cz).f0).size : Int)) = false := decide_eq_false ep
         have gL : decide (50 < ((rd_T46 ac cz).f0).size) = false := decide_eq_false Z29
         clear ep
         have H' := Aside0.mk H
         clear H
         have iw := cells_25 al.out
         have p102 : 0 ≤ (cz : Int) := of_decide_eq_true Z8
         have q102 : cz < (ac.length : Int) := of_decide_eq_true Z8
         obtain ⟨ad102, e102, hx102_0, hx102_1⟩ := at_T46 cc.out cz p102 q102
         cases e102
         replace hx102_0 := Sq.up HB.out hx102_0
         replace hx102_1 := Sq.up HB.out hx102_1
         replace p102 := eq_true p102
         replace q102 := eq_true q102
         go_wp2
         go_roundg k2
         case measure => have := hT.out; have := HK2.out; omega
         case rel => exact ⟨(wrap64 (cz + 1)), Z10, H', ⟨by have := hT.out; have := HK2.out; omega⟩, ⟨Z3⟩, ⟨Z0⟩⟩
       ·rw [if_neg eM] at H
        exact absurd H Z35
      ·rw [if_neg dy] at H
       have eP : decide (cz < (ac.length : Int)) = false := decide_eq_false dy
       clear dy
       have H' := Aside0.mk H
       clear H
       have ih := cells_25 al.out
       go_wp2
       go_loopg [4] k2 (fun kq v4 w' => ∃ (eX : Int), v4 = .int .i64 eX ∧ Aside0 (roadbookref07_Few.l1 kq eX aD aw ax au aA ay av ar aC az ao am ah aj ak ae ag ai an aa ab ac ap aq af = some r) ∧ Aside0 (kq ≤ k2) ∧ Aside0 (w'.heap[aE]? = some (.cells #[.int .i64 aD, .int .i64 aw, .int .i64 ax, .string au, .int .i64 aA, .int .i64 ay, .string av, .int .i64 ar, .int .i64 aC, .string az, .int .i64 ao, .string am, .int .i64 ah, .int .i64 aj, .int .i64 ak, .int .i64 ae, .int .i64 ag, .int .i64 ai, .int .i64 an, .string aa, .string ab, (.slice aP ac.length aN), .int .i64 ap, .string aq, (.slice aJ af.length aK)] 25 (0, 0))) ∧ Aside0 (Below w.heap.size w w'))
       case atStart => exact ⟨(0), Z10, H', ⟨Nat.le_refl _⟩, ⟨Z3⟩, ⟨Z0⟩⟩
       case round =>
        clear H'
        try clear c1
        try clear p2
        try clear c4
        try clear cf
        try clear fd
        try clear c6
        try clear dW
        try clear ft
        try clear p6
        try clear c8
        try clear fS
        try clear dv
        try clear eS
        try clear dP
        try clear gB
        try clear dA
        try clear dy
        try clear eP
        try clear eM
        try clear jm
        try clear mN
        try clear gO
        try clear ih
        try clear hh
        try clear iI
        try clear ji
        try clear p2
        try clear p6
        obtain ⟨eX, rfl, HA, HK3, al, HB⟩ := hrel
        cases gk with
        | zero => exact absurd HA.out (by simp [roadbookref07_Few.l1])
        | succ k3 =>
         have H := HA.out
         clear HA
         simp only [roadbookref07_Few.l1] at H
         by_cases hl : eX < (af.length : Int)
         ·rw [if_pos hl] at H
          have jF : decide (eX < (af.length : Int)) = true := decide_eq_true hl
          clear hl
          by_cases jU : 0 ≤ eX
          ·rw [if_pos jU] at H
           have c23b0 : decide (0 ≤ eX) = true := decide_eq_true jU
           clear jU
           by_cases dz : (((rd_T48 af eX).f1).size : Int) > 300
           ·rw [if_pos dz] at H
            have mO : decide (300 < (((rd_T48 af eX).f1).size : Int)) = true := decide_eq_true dz
            have mP : decide (300 < ((rd_T48 af eX).f1).size) = true := decide_eq_true Z29
            clear dz
            obtain rfl := Option.some.inj H
            have ii := cells_25 al.out
            have p103 : 0 ≤ (eX : Int) := of_decide_eq_true Z8
            have q103 : eX < (af.length : Int) := of_decide_eq_true Z8
            obtain ⟨ad103, e103, hx103_0, hx103_1⟩ := at_T48 bZ.out eX p103 q103
            cases e103
            replace hx103_0 := Sq.up HB.out hx103_0
            replace hx103_1 := Sq.up HB.out hx103_1
            replace p103 := eq_true p103
            replace q103 := eq_true q103
            go_wp2
            go_ret
            exact ⟨Z6, Z0⟩
           ·rw [if_neg dz] at H
            have mO : decide (300 < (((rd_T48 af eX).f1).size : Int)) = false := decide_eq_false dz
            have mP : decide (300 < ((rd_T48 af eX).f1).size) = false := decide_eq_false Z29
            clear dz
            have H' := Aside0.mk H
            clear H
            have gC := cells_25 al.out
            have p103 : 0 ≤ (eX : Int) := of_decide_eq_true Z8
            have q103 : eX < (af.length : Int) := of_decide_eq_true Z8
            obtain ⟨ad103, e103, hx103_0, hx103_1⟩ := at_T48 bZ.out eX p103 q103
            cases e103
            replace hx103_0 := Sq.up HB.out hx103_0
            replace hx103_1 := Sq.up HB.out hx103_1
            replace p103 := eq_true p103
            replace q103 := eq_true q103
            go_wp2
            go_roundg k3
            case measure => have := hT.out; have := HK2.out; have := HK3.out; omega
            case rel => exact ⟨(wrap64 (eX + 1)), Z10, H', ⟨by have := hT.out; have := HK2.out; have := HK3.out; omega⟩, ⟨Z3⟩, ⟨Z0⟩⟩
          ·rw [if_neg jU] at H
           exact absurd H Z35
         ·rw [if_neg hl] at H
          have jF : decide (eX < (af.length : Int)) = false := decide_eq_false hl
          clear hl
          obtain rfl := Option.some.inj H
          have hz := cells_25 al.out
          go_wp2
          go_ret
          exact ⟨Z6, Z0⟩

/-! ### roadbookref07_FewAll: function 44 -/
def roadbookref07_FewAll.l0 : Nat → List (S25) → Int → Option (Bool)
 | 0, _, _ => none
 | k + 1, x0, x5 => if x5 < (x0.length : Int) then (if 0 ≤ x5 then ((roadbookref07_Few.f k ((rd_T25 x0 x5).f0) ((rd_T25 x0 x5).f1) ((rd_T25 x0 x5).f2) ((rd_T25 x0 x5).f3) ((rd_T25 x0 x5).f4) ((rd_T25 x0 x5).f5) ((rd_T25 x0 x5).f6) ((rd_T25 x0 x5).f7) ((rd_T25 x0 x5).f8) ((rd_T25 x0 x5).f9) ((rd_T25 x0 x5).f10) ((rd_T25 x0 x5).f11) ((rd_T25 x0 x5).f12) ((rd_T25 x0 x5).f13) ((rd_T25 x0 x5).f14) ((rd_T25 x0 x5).f15) ((rd_T25 x0 x5).f16) ((rd_T25 x0 x5).f17) ((rd_T25 x0 x5).f18) ((rd_T25 x0 x5).f19) ((rd_T25 x0 x5).f20) ((rd_T25 x0 x5).f21) ((rd_T25 x0 x5).f22) ((rd_T25 x0 x5).f23) ((rd_T25 x0 x5).f24)).bind fun aU => (if aU = true then (roadbookref07_FewAll.l0 k x0 (wrap64 (x5 + 1))) else (some false))) else (none)) else (some true)
def roadbookref07_FewAll.f (k : Nat) (l0 : List (S25)) (a1 : Int) : Option (Bool) := if (l0.length : Int) > a1 then (some false) else (roadbookref07_FewAll.l0 k l0 0)
theorem roadbookref07_FewAll.mono_l : ∀ k, (∀ y0 y1, LeO (roadbookref07_FewAll.l0 k y0 y1) (roadbookref07_FewAll.l0 (k + 1) y0 y1))
 | 0 => Sq.mz
 | k + 1 => by
  have ih0 := roadbookref07_FewAll.mono_l k
  ·intros
   unfold roadbookref07_FewAll.l0
   have m0 := roadbookref07_Few.mono
   exact Sq.mo
theorem roadbookref07_FewAll.mono : ∀ a0 a1 k, LeO (roadbookref07_FewAll.f k a0 a1) (roadbookref07_FewAll.f (k + 1) a0 a1) := by
 intro a0 a1 k
 have ih0 := roadbookref07_FewAll.mono_l k
 unfold roadbookref07_FewAll.f
 have m0 := roadbookref07_Few.mono
 exact Sq.mo

set_option maxHeartbeats 8000000 in
set_option maxRecDepth 100000 in
theorem roadbookref07_FewAll.calls (k : Nat) (A0 : Option Addr) (c0 : Nat) (l0 : List (S25)) (a1 : Int) (r : Bool) (w : World) (ff : Kd.C k25 w A0 l0.length l0) (eH : l0.length ≤ c0) (h : roadbookref07_FewAll.f k l0 a1 = some r) :
  Calls Try.prog 44 #[.slice A0 l0.length c0, .int .i64 a1] w fun e w' => e = .returned (.bool r) ∧ Below w.heap.size w w' := by
 have dM := Try.underlying25
 have dS := Aside0.mk ff
 have gj := Aside0.mk eH
 clear ff eH
 have HB := Aside0.mk (Below.refl w.heap.size w)
 have H : (if (l0.length : Int) > a1 then (some false) else (roadbookref07_FewAll.l0 k l0 0)) = some r := h
 clear h
 by_cases c3 : (l0.length : Int) > a1
 ·rw [if_pos c3] at H
  have fh : decide (a1 < (l0.length : Int)) = true := decide_eq_true c3
  clear c3
  obtain rfl := Option.some.inj H
  go_enter Try.func44, Try.ntmps44
  go_wp2_with (first | ((with_reducible refine Pre.gate_load 25 rfl ?_); (try (refine gate_guard Z14 ?_; dsimp only)); refine Pre.load_event_a rfl rfl rfl Z14 Pre.range25 Try.underlying25 rfl Z11 ?_))
  go_ret
  exact ⟨Z6, Z2⟩
 ·rw [if_neg c3] at H
  have fh : decide (a1 < (l0.length : Int)) = false := decide_eq_false c3
  clear c3
  have H' := Aside0.mk H
  clear H
  go_enter Try.func44, Try.ntmps44
  go_wp2_with (first | ((with_reducible refine Pre.gate_load 25 rfl ?_); (try (refine gate_guard Z14 ?_; dsimp only)); refine Pre.load_event_a rfl rfl rfl Z14 Pre.range25 Try.underlying25 rfl Z11 ?_))
  go_loopg [5] k (fun kq v5 w' => ∃ (aG : Int), v5 = .int .i64 aG ∧ Aside0 (roadbookref07_FewAll.l0 kq l0 aG = some r) ∧ Aside0 (kq ≤ k) ∧ Aside0 (Below w.heap.size w w'))
  case atStart => exact ⟨(0), Z10, H', ⟨Nat.le_refl _⟩, ⟨Z2⟩⟩
  case round =>
   clear H'
   try clear p2
   try clear c3
   try clear fh
   obtain ⟨aG, rfl, HA, HK1, HB⟩ := hrel
   cases gk with
   | zero => exact absurd HA.out (by simp [roadbookref07_FewAll.l0])
   | succ k1 =>
    have H := HA.out
    clear HA
    simp only [roadbookref07_FewAll.l0] at H
    by_cases c4 : aG < (l0.length : Int)
    ·rw [if_pos c4] at H
     have cf : decide (aG < (l0.length : Int)) = true := decide_eq_true c4
     clear c4
     by_cases c5 : 0 ≤ aG
     ·rw [if_pos c5] at H
      have dx : decide (0 ≤ aG) = true := decide_eq_true c5
      clear c5
      replace H := Option.bind_eq_some_iff.mp H
      obtain ⟨aU, hD, H⟩ := H
      replace H : (if aU = true then (roadbookref07_FewAll.l0 k1 l0 (wrap64 (aG + 1))) else (some false)) = some r := H
      have A6 := Aside0.mk hD
      clear hD
      by_cases c7 : aU = true
      ·subst c7
       replace H := Sq.itT H
       have H' := Aside0.mk H
       clear H
       have p101 : 0 ≤ (aG : Int) := of_decide_eq_true Z8
       have q101 : aG < (l0.length : Int) := of_decide_eq_true Z8
       obtain ⟨ad101, dG, dH, dI, dJ, e101, hx101_0, hx101_1, hx101_2, hx101_3, hx101_4, hx101_5, hx101_6, hx101_7, hx101_8, hx101_9, hx101_10, hx101_11, hx101_12, hx101_13, hx101_14, hx101_15, hx101_16, hx101_17, hx101_18, hx101_19, hx101_20, hx101_21, hx101_22, hx101_23, hx101_24, hl101_21, hi101_21, hl101_24, hi101_24⟩ := at_T25 dS.out aG p101 q101
       cases e101
       replace hx101_0 := Sq.up HB.out hx101_0
       replace hx101_1 := Sq.up HB.out hx101_1
       replace hx101_2 := Sq.up HB.out hx101_2
       replace hx101_3 := Sq.up HB.out hx101_3
       replace hx101_4 := Sq.up HB.out hx101_4
       replace hx101_5 := Sq.up HB.out hx101_5
       replace hx101_6 := Sq.up HB.out hx101_6
       replace hx101_7 := Sq.up HB.out hx101_7
       replace hx101_8 := Sq.up HB.out hx101_8
       replace hx101_9 := Sq.up HB.out hx101_9
       replace hx101_10 := Sq.up HB.out hx101_10
       replace hx101_11 := Sq.up HB.out hx101_11
       replace hx101_12 := Sq.up HB.out hx101_12
       replace hx101_13 := Sq.up HB.out hx101_13
       replace hx101_14 := Sq.up HB.out hx101_14
       replace hx101_15 := Sq.up HB.out hx101_15
       replace hx101_16 := Sq.up HB.out hx101_16
       replace hx101_17 := Sq.up HB.out hx101_17
       replace hx101_18 := Sq.up HB.out hx101_18
       replace hx101_19 := Sq.up HB.out hx101_19
       replace hx101_20 := Sq.up HB.out hx101_20
       replace hx101_21 := Sq.up HB.out hx101_21
       replace hx101_22 := Sq.up HB.out hx101_22
       replace hx101_23 := Sq.up HB.out hx101_23
       replace hx101_24 := Sq.up HB.out hx101_24
       have eQ := Aside0.mk hi101_21
       have de := Aside0.mk hl101_21
       clear hi101_21 hl101_21
       have eR := Aside0.mk hi101_24
       have df := Aside0.mk hl101_24
       clear hi101_24 hl101_24
       replace p101 := eq_true p101
       replace q101 := eq_true q101
       go_wp2_with (first | ((with_reducible refine Pre.gate_load 25 rfl ?_); (try (refine gate_guard Z14 ?_; dsimp only)); refine Pre.load_event_a rfl rfl rfl Z14 Pre.range25 Try.underlying25 rfl Z11 ?_) | ((with_reducible refine gate_callee (f := 16) rfl ?_); refine goesL_ (some 20) rfl rfl Try.func16 Z11 rfl #[.agg #[.int .i64 ((rd_T25 l0 aG).f0), .int .i64 ((rd_T25 l0 aG).f1), .int .i64 ((rd_T25 l0 aG).f2), .string ((rd_T25 l0 aG).f3), .int .i64 ((rd_T25 l0 aG).f4), .int .i64 ((rd_T25 l0 aG).f5), .string ((rd_T25 l0 aG).f6), .int .i64 ((rd_T25 l0 aG).f7), .int .i64 ((rd_T25 l0 aG).f8), .string ((rd_T25 l0 aG).f9), .int .i64 ((rd_T25 l0 aG).f10), .string ((rd_T25 l0 aG).f11), .int .i64 ((rd_T25 l0 aG).f12), .int .i64 ((rd_T25 l0 aG).f13), .int .i64 ((rd_T25 l0 aG).f14), .int .i64 ((rd_T25 l0 aG).f15), .int .i64 ((rd_T25 l0 aG).f16), .int .i64 ((rd_T25 l0 aG).f17), .int .i64 ((rd_T25 l0 aG).f18), .string ((rd_T25 l0 aG).f19), .string ((rd_T25 l0 aG).f20), .slice dG ((rd_T25 l0 aG).f21).length dH, .int .i64 ((rd_T25 l0 aG).f22), .string ((rd_T25 l0 aG).f23), .slice dI ((rd_T25 l0 aG).f24).length dJ]] rfl Z4 ?_; (with_reducible refine (roadbookref07_Few.calls k1 ((rd_T25 l0 aG).f0) ((rd_T25 l0 aG).f1) ((rd_T25 l0 aG).f2) ((rd_T25 l0 aG).f3) ((rd_T25 l0 aG).f4) ((rd_T25 l0 aG).f5) ((rd_T25 l0 aG).f6) ((rd_T25 l0 aG).f7) ((rd_T25 l0 aG).f8) ((rd_T25 l0 aG).f9) ((rd_T25 l0 aG).f10) ((rd_T25 l0 aG).f11) ((rd_T25 l0 aG).f12) ((rd_T25 l0 aG).f13) ((rd_T25 l0 aG).f14) ((rd_T25 l0 aG).f15) ((rd_T25 l0 aG).f16) ((rd_T25 l0 aG).f17) ((rd_T25 l0 aG).f18) ((rd_T25 l0 aG).f19) ((rd_T25 l0 aG).f20) _ _ ((rd_T25 l0 aG).f21) ((rd_T25 l0 aG).f22) ((rd_T25 l0 aG).f23) _ _ ((rd_T25 l0 aG).f24) true _ ?side1 ?side2 ?side3 ?side4 A6.out).mono ?_); (case side1 => exact Z27); (case side2 => exact de.out); (case side3 => exact Z26); (case side4 => exact df.out); rintro e w8 ⟨rfl, hb⟩; refine ⟨_, rfl, ?_⟩; replace HB := Aside0.mk (below_step Z2 hb); clear hb))
       go_roundg k1
       case measure => have := HK1.out; omega
       case rel => exact ⟨(wrap64 (aG + 1)), Z10, H', ⟨Z49⟩, ⟨Z2⟩⟩
      ·replace c7 := Bool.eq_false_iff.mpr c7
       subst c7
       replace H := Sq.itF H
       obtain rfl := Option.some.inj H
       have p101 : 0 ≤ (aG : Int) := of_decide_eq_true Z8
       have q101 : aG < (l0.length : Int) := of_decide_eq_true Z8
       obtain ⟨ad101, dG, dH, dI, dJ, e101, hx101_0, hx101_1, hx101_2, hx101_3, hx101_4, hx101_5, hx101_6, hx101_7, hx101_8, hx101_9, hx101_10, hx101_11, hx101_12, hx101_13, hx101_14, hx101_15, hx101_16, hx101_17, hx101_18, hx101_19, hx101_20, hx101_21, hx101_22, hx101_23, hx101_24, hl101_21, hi101_21, hl101_24, hi101_24⟩ := at_T25 dS.out aG p101 q101
       cases e101
       replace hx101_0 := Sq.up HB.out hx101_0
       replace hx101_1 := Sq.up HB.out hx101_1
       replace hx101_2 := Sq.up HB.out hx101_2
       replace hx101_3 := Sq.up HB.out hx101_3
       replace hx101_4 := Sq.up HB.out hx101_4
       replace hx101_5 := Sq.up HB.out hx101_5
       replace hx101_6 := Sq.up HB.out hx101_6
       replace hx101_7 := Sq.up HB.out hx101_7
       replace hx101_8 := Sq.up HB.out hx101_8
       replace hx101_9 := Sq.up HB.out hx101_9
       replace hx101_10 := Sq.up HB.out hx101_10
       replace hx101_11 := Sq.up HB.out hx101_11
       replace hx101_12 := Sq.up HB.out hx101_12
       replace hx101_13 := Sq.up HB.out hx101_13
       replace hx101_14 := Sq.up HB.out hx101_14
       replace hx101_15 := Sq.up HB.out hx101_15
       replace hx101_16 := Sq.up HB.out hx101_16
       replace hx101_17 := Sq.up HB.out hx101_17
       replace hx101_18 := Sq.up HB.out hx101_18
       replace hx101_19 := Sq.up HB.out hx101_19
       replace hx101_20 := Sq.up HB.out hx101_20
       replace hx101_21 := Sq.up HB.out hx101_21
       replace hx101_22 := Sq.up HB.out hx101_22
       replace hx101_23 := Sq.up HB.out hx101_23
       replace hx101_24 := Sq.up HB.out hx101_24
       have eQ := Aside0.mk hi101_21
       have de := Aside0.mk hl101_21
       clear hi101_21 hl101_21
       have eR := Aside0.mk hi101_24
       have df := Aside0.mk hl101_24
       clear hi101_24 hl101_24
       replace p101 := eq_true p101
       replace q101 := eq_true q101
       go_wp2_with (first | ((with_reducible refine Pre.gate_load 25 rfl ?_); (try (refine gate_guard Z14 ?_; dsimp only)); refine Pre.load_event_a rfl rfl rfl Z14 Pre.range25 Try.underlying25 rfl Z11 ?_) | ((with_reducible refine gate_callee (f := 16) rfl ?_); refine goesL_ (some 20) rfl rfl Try.func16 Z11 rfl #[.agg #[.int .i64 ((rd_T25 l0 aG).f0), .int .i64 ((rd_T25 l0 aG).f1), .int .i64 ((rd_T25 l0 aG).f2), .string ((rd_T25 l0 aG).f3), .int .i64 ((rd_T25 l0 aG).f4), .int .i64 ((rd_T25 l0 aG).f5), .string ((rd_T25 l0 aG).f6), .int .i64 ((rd_T25 l0 aG).f7), .int .i64 ((rd_T25 l0 aG).f8), .string ((rd_T25 l0 aG).f9), .int .i64 ((rd_T25 l0 aG).f10), .string ((rd_T25 l0 aG).f11), .int .i64 ((rd_T25 l0 aG).f12), .int .i64 ((rd_T25 l0 aG).f13), .int .i64 ((rd_T25 l0 aG).f14), .int .i64 ((rd_T25 l0 aG).f15), .int .i64 ((rd_T25 l0 aG).f16), .int .i64 ((rd_T25 l0 aG).f17), .int .i64 ((rd_T25 l0 aG).f18), .string ((rd_T25 l0 aG).f19), .string ((rd_T25 l0 aG).f20), .slice dG ((rd_T25 l0 aG).f21).length dH, .int .i64 ((rd_T25 l0 aG).f22), .string ((rd_T25 l0 aG).f23), .slice dI ((rd_T25 l0 aG).f24).length dJ]] rfl Z4 ?_; (with_reducible refine (roadbookref07_Few.calls k1 ((rd_T25 l0 aG).f0) ((rd_T25 l0 aG).f1) ((rd_T25 l0 aG).f2) ((rd_T25 l0 aG).f3) ((rd_T25 l0 aG).f4) ((rd_T25 l0 aG).f5) ((rd_T25 l0 aG).f6) ((rd_T25 l0 aG).f7) ((rd_T25 l0 aG).f8) ((rd_T25 l0 aG).f9) ((rd_T25 l0 aG).f10) ((rd_T25 l0 aG).f11) ((rd_T25 l0 aG).f12) ((rd_T25 l0 aG).f13) ((rd_T25 l0 aG).f14) ((rd_T25 l0 aG).f15) ((rd_T25 l0 aG).f16) ((rd_T25 l0 aG).f17) ((rd_T25 l0 aG).f18) ((rd_T25 l0 aG).f19) ((rd_T25 l0 aG).f20) _ _ ((rd_T25 l0 aG).f21) ((rd_T25 l0 aG).f22) ((rd_T25 l0 aG).f23) _ _ ((rd_T25 l0 aG).f24) false _ ?side1 ?side2 ?side3 ?side4 A6.out).mono ?_); (case side1 => exact Z27); (case side2 => exact de.out); (case side3 => exact Z26); (case side4 => exact df.out); rintro e w9 ⟨rfl, hb⟩; refine ⟨_, rfl, ?_⟩; replace HB := Aside0.mk (below_step Z2 hb); clear hb))
       go_ret
       exact ⟨Z6, Z2⟩
     ·rw [if_neg c5] at H
      exact absurd H Z35
    ·rw [if_neg c4] at H
     have cf : decide (aG < (l0.length : Int)) = false := decide_eq_false c4
     clear c4
     obtain rfl := Option.some.inj H
     go_wp2_with (first | ((with_reducible refine Pre.gate_load 25 rfl ?_); (try (refine gate_guard Z14 ?_; dsimp only)); refine Pre.load_event_a rfl rfl rfl Z14 Pre.range25 Try.underlying25 rfl Z11 ?_))
     go_ret
     exact ⟨Z6, Z2⟩

/-! ### roadbookref07_dests: function 65 -/
def roadbookref07_dests.l0 : Nat → List (S46) → List (S46) → Int → Option (Bool)
 | 0, _, _, _ => none
 | k + 1, x0, x1, x5 => if x5 < (x0.length : Int) then (if 0 ≤ x5 then (if x5 < (x1.length : Int) then (if (!((((rd_T46 x0 x5).f0).toList) == (((rd_T46 x1 x5).f0).toList)) || (!(((rd_T46 x0 x5).f1) == ((rd_T46 x1 x5).f1)))) = true then (some false) else (roadbookref07_dests.l0 k x0 x1 (wrap64 (x5 + 1)))) else (none)) else (none)) else (some true)
def roadbookref07_dests.f (k : Nat) (l0 : List (S46)) (l1 : List (S46)) : Option (Bool) := if (l0.length : Int) = (l1.length : Int) then (roadbookref07_dests.l0 k l0 l1 0) else (some false)
theorem roadbookref07_dests.mono_l : ∀ k, (∀ y0 y1 y2, LeO (roadbookref07_dests.l0 k y0 y1 y2) (roadbookref07_dests.l0 (k + 1) y0 y1 y2))
 | 0 => Sq.mz
 | k + 1 => by
  have ih0 := roadbookref07_dests.mono_l k
  ·intros
   unfold roadbookref07_dests.l0
   exact Sq.mo
theorem roadbookref07_dests.mono : ∀ a0 a1 k, LeO (roadbookref07_dests.f k a0 a1) (roadbookref07_dests.f (k + 1) a0 a1) := by
 intro a0 a1 k
 have ih0 := roadbookref07_dests.mono_l k
 unfold roadbookref07_dests.f
 exact Sq.mo
set_option maxHeartbeats 8000000 in
set_option maxRecDepth 100000 in
theorem roadbookref07_dests.calls (k : Nat) (A0 : Option Addr) (c0 : Nat) (l0 : List (S46)) (A1 : Option Addr) (c1 : Nat) (l1 : List (S46)) (r : Bool) (w : World) (ff : Kd.C k46 w A0 l0.length l0) (eH : l0.length ≤ c0) (mQ : Kd.C k46 w A1 l1.length l1) (mR : l1.length ≤ c1) (h : roadbookref07_dests.f k l0 l1 = some r) :
  Calls Try.prog 65 #[.slice A0 l0.length c0, .slice A1 l1.length c1] w fun e w' => e = .returned (.bool r) ∧ Drawn0 w w' := by
 have mB := Try.underlying46
 have dS := Aside0.mk ff
 have gj := Aside0.mk eH
 clear ff eH
 have mS := Aside0.mk mQ
 have pg := Aside0.mk mR
 clear mQ mR
 have H : (if (l0.length : Int) = (l1.length : Int) then (roadbookref07_dests.l0 k l0 l1 0) else (some false)) = some r := h
 clear h
 by_cases c3 : (l0.length : Int) = (l1.length : Int)
 ·rw [if_pos c3] at H
  have fh : ((l0.length : Int) == (l1.length : Int)) = true := beq_iff_eq.mpr c3
  have hL : ((l0.length : Int) != (l1.length : Int)) = false := bne_eq_false_iff_eq.mpr c3
  have jG : (l0.length == l1.length) = true := by first | simpa using c3 | (simp at c3 ⊢; omega)
  clear c3
  have H' := Aside0.mk H
  clear H
  go_enter Try.func65, Try.ntmps65
  go_wp2
  repeat (go_quiet (fail); try go_wp2)
  go_loopg [5] k (fun kq v5 w' => ∃ (aG : Int), v5 = .int .i64 aG ∧ Aside0 (roadbookref07_dests.l0 kq l0 l1 aG = some r) ∧ Aside0 (kq ≤ k) ∧ Drawn0 w w')
  case atStart => exact ⟨(0), Z10, H', ⟨Nat.le_refl _⟩, Z16⟩
  case round =>
   clear H'
   try clear c1
   try clear p2
   try clear c3
   try clear fh
   try clear hL
   try clear jG
   obtain ⟨aG, rfl, HA, HK1, ⟨m1, rfl⟩⟩ := hrel
   cases gk with
   | zero => exact absurd HA.out (by simp [roadbookref07_dests.l0])
   | succ k1 =>
    have H := HA.out
    clear HA
    simp only [roadbookref07_dests.l0] at H
    by_cases c4 : aG < (l0.length : Int)
    ·rw [if_pos c4] at H
     have cf : decide (aG < (l0.length : Int)) = true := decide_eq_true c4
     clear c4
     by_cases c5 : 0 ≤ aG
     ·rw [if_pos c5] at H
      have dx : decide (0 ≤ aG) = true := decide_eq_true c5
      clear c5
      by_cases c6 : aG < (l1.length : Int)
      ·rw [if_pos c6] at H
       have dW : decide (aG < (l1.length : Int)) = true := decide_eq_true c6
       clear c6
       by_cases c7 : (!((((rd_T46 l0 aG).f0).toList) == (((rd_T46 l1 aG).f0).toList)) || (!(((rd_T46 l0 aG).f1) == ((rd_T46 l1 aG).f1)))) = true
       ·rw [if_pos c7] at H
        have dT : (!((((rd_T46 l0 aG).f0).toList) == (((rd_T46 l1 aG).f0).toList)) || (!(((rd_T46 l0 aG).f1) == ((rd_T46 l1 aG).f1)))) = true := c7
        clear c7
        obtain rfl := Option.some.inj H
        have p101 : 0 ≤ (aG : Int) := of_decide_eq_true Z8
        have q101 : aG < (l0.length : Int) := of_decide_eq_true Z8
        obtain ⟨ad101, e101, hx101_0, hx101_1⟩ := at_T46 dS.out aG p101 q101
        cases e101
        replace p101 := eq_true p101
        replace q101 := eq_true q101
        have p102 : 0 ≤ (aG : Int) := of_decide_eq_true Z8
        have q102 : aG < (l1.length : Int) := of_decide_eq_true Z8
        obtain ⟨ad102, e102, hx102_0, hx102_1⟩ := at_T46 mS.out aG p102 q102
        cases e102
        replace p102 := eq_true p102
        replace q102 := eq_true q102
        go_wp2
        repeat (go_quiet (fail); try go_wp2)
        go_ret
        exact ⟨Z10, Z16⟩
       ·rw [if_neg c7] at H
        have dT : (!((((rd_T46 l0 aG).f0).toList) == (((rd_T46 l1 aG).f0).toList)) || (!(((rd_T46 l0 aG).f1) == ((rd_T46 l1 aG).f1)))) = false := by first | exact Bool.eq_false_iff.mpr c7 | simpa using c7
        clear c7
        have H' := Aside0.mk H
        clear H
        have p101 : 0 ≤ (aG : Int) := of_decide_eq_true Z8
        have q101 : aG < (l0.length : Int) := of_decide_eq_true Z8
        obtain ⟨ad101, e101, hx101_0, hx101_1⟩ := at_T46 dS.out aG p101 q101
        cases e101
        replace p101 := eq_true p101
        replace q101 := eq_true q101
        have p102 : 0 ≤ (aG : Int) := of_decide_eq_true Z8
        have q102 : aG < (l1.length : Int) := of_decide_eq_true Z8
        obtain ⟨ad102, e102, hx102_0, hx102_1⟩ := at_T46 mS.out aG p102 q102
        cases e102
        replace p102 := eq_true p102
        replace q102 := eq_true q102
        go_wp2
        repeat (go_quiet (fail); try go_wp2)
        go_roundg k1
        case measure => have := HK1.out; omega
        case rel => exact ⟨(wrap64 (aG + 1)), Z10, H', ⟨Z49⟩, Z16⟩
      ·rw [if_neg c6] at H
       exact absurd H Z35
     ·rw [if_neg c5] at H
      exact absurd H Z35
    ·rw [if_neg c4] at H
     have cf : decide (aG < (l0.length : Int)) = false := decide_eq_false c4
     clear c4
     obtain rfl := Option.some.inj H
     go_wp2
     repeat (go_quiet (fail); try go_wp2)
     go_ret
     exact ⟨Z10, Z16⟩
 ·rw [if_neg c3] at H
  have fh : ((l0.length : Int) == (l1.length : Int)) = false := beq_eq_false_iff_ne.mpr c3
  have hL : ((l0.length : Int) != (l1.length : Int)) = true := bne_iff_ne.mpr c3
  have jG : (l0.length == l1.length) = false := by first | simpa using c3 | (simp at c3 ⊢; omega)
  obtain rfl := Option.some.inj H
  go_enter Try.func65, Try.ntmps65
  go_wp2
  repeat (go_quiet (fail); try go_wp2)
  go_ret
  exact ⟨Z10, Z16⟩

/-! ### roadbookref07_subs: function 66 -/
def roadbookref07_subs.l0 : Nat → List (S48) → List (S48) → Int → Option (Bool)
 | 0, _, _, _ => none
 | k + 1, x0, x1, x5 => if x5 < (x0.length : Int) then (if 0 ≤ x5 then (if x5 < (x1.length : Int) then (if (!(((rd_T48 x0 x5).f0) == ((rd_T48 x1 x5).f0)) || (!((((rd_T48 x0 x5).f1).toList) == (((rd_T48 x1 x5).f1).toList)))) = true then (some false) else (roadbookref07_subs.l0 k x0 x1 (wrap64 (x5 + 1)))) else (none)) else (none)) else (some true)
def roadbookref07_subs.f (k : Nat) (l0 : List (S48)) (l1 : List (S48)) : Option (Bool) := if (l0.length : Int) = (l1.length : Int) then (roadbookref07_subs.l0 k l0 l1 0) else (some false)
theorem roadbookref07_subs.mono_l : ∀ k, (∀ y0 y1 y2, LeO (roadbookref07_subs.l0 k y0 y1 y2) (roadbookref07_subs.l0 (k + 1) y0 y1 y2))
 | 0 => Sq.mz
 | k + 1 => by
  have ih0 := roadbookref07_subs.mono_l k
  ·intros
   unfold roadbookref07_subs.l0
   exact Sq.mo
theorem roadbookref07_subs.mono : ∀ a0 a1 k, LeO (roadbookref07_subs.f k a0 a1) (roadbookref07_subs.f (k + 1) a0 a1) := by
 intro a0 a1 k
 have ih0 := roadbookref07_subs.mono_l k
 unfold roadbookref07_subs.f
 exact Sq.mo
set_option maxHeartbeats 8000000 in
set_option maxRecDepth 100000 in
theorem roadbookref07_subs.calls (k : Nat) (A0 : Option Addr) (c0 : Nat) (l0 : List (S48)) (A1 : Option Addr) (c1 : Nat) (l1 : List (S48)) (r : Bool) (w : World) (ff : Kd.C k48 w A0 l0.length l0) (eH : l0.length ≤ c0) (mQ : Kd.C k48 w A1 l1.length l1) (mR : l1.length ≤ c1) (h : roadbookref07_subs.f k l0 l1 = some r) :
  Calls Try.prog 66 #[.slice A0 l0.length c0, .slice A1 l1.length c1] w fun e w' => e = .returned (.bool r) ∧ Drawn0 w w' := by
 have kb := Try.underlying48
 have dS := Aside0.mk ff
 have gj := Aside0.mk eH
 clear ff eH
 have mS := Aside0.mk mQ
 have pg := Aside0.mk mR
 clear mQ mR
 have H : (if (l0.length : Int) = (l1.length : Int) then (roadbookref07_subs.l0 k l0 l1 0) else (some false)) = some r := h
 clear h
 by_cases c3 : (l0.length : Int) = (l1.length : Int)
 ·rw [if_pos c3] at H
  have fh : ((l0.length : Int) == (l1.length : Int)) = true := beq_iff_eq.mpr c3
  have hL : ((l0.length : Int) != (l1.length : Int)) = false := bne_eq_false_iff_eq.mpr c3
  have jG : (l0.length == l1.length) = true := by first | simpa using c3 | (simp at c3 ⊢; omega)
  clear c3
  have H' := Aside0.mk H
  clear H
  go_enter Try.func66, Try.ntmps66
  go_wp2
  repeat (go_quiet (fail); try go_wp2)
  go_loopg [5] k (fun kq v5 w' => ∃ (aG : Int), v5 = .int .i64 aG ∧ Aside0 (roadbookref07_subs.l0 kq l0 l1 aG = some r) ∧ Aside0 (kq ≤ k) ∧ Drawn0 w w')
  case atStart => exact ⟨(0), Z10, H', ⟨Nat.le_refl _⟩, Z16⟩
  case round =>
   clear H'
   try clear c1
   try clear p2
   try clear c3
   try clear fh
   try clear hL
   try clear jG
   obtain ⟨aG, rfl, HA, HK1, ⟨m1, rfl⟩⟩ := hrel
   cases gk with
   | zero => exact absurd HA.out (by simp [roadbookref07_subs.l0])
   | succ k1 =>
    have H := HA.out
    clear HA
    simp only [roadbookref07_subs.l0] at H
    by_cases c4 : aG < (l0.length : Int)
    ·rw [if_pos c4] at H
     have cf : decide (aG < (l0.length : Int)) = true := decide_eq_true c4
     clear c4
     by_cases c5 : 0 ≤ aG
     ·rw [if_pos c5] at H
      have dx : decide (0 ≤ aG) = true := decide_eq_true c5
      clear c5
      by_cases c6 : aG < (l1.length : Int)
      ·rw [if_pos c6] at H
       have dW : decide (aG < (l1.length : Int)) = true := decide_eq_true c6
       clear c6
       by_cases c7 : (!(((rd_T48 l0 aG).f0) == ((rd_T48 l1 aG).f0)) || (!((((rd_T48 l0 aG).f1).toList) == (((rd_T48 l1 aG).f1).toList)))) = true
       ·rw [if_pos c7] at H
        have dT : (!(((rd_T48 l0 aG).f0) == ((rd_T48 l1 aG).f0)) || (!((((rd_T48 l0 aG).f1).toList) == (((rd_T48 l1 aG).f1).toList)))) = true := c7
        clear c7
        obtain rfl := Option.some.inj H
        have p101 : 0 ≤ (aG : Int) := of_decide_eq_true Z8
        have q101 : aG < (l0.length : Int) := of_decide_eq_true Z8
        obtain ⟨ad101, e101, hx101_0, hx101_1⟩ := at_T48 dS.out aG p101 q101
        cases e101
        replace p101 := eq_true p101
        replace q101 := eq_true q101
        have p102 : 0 ≤ (aG : Int) := of_decide_eq_true Z8
        have q102 : aG < (l1.length : Int) := of_decide_eq_true Z8
        obtain ⟨ad102, e102, hx102_0, hx102_1⟩ := at_T48 mS.out aG p102 q102
        cases e102
        replace p102 := eq_true p102
        replace q102 := eq_true q102
        go_wp2
        repeat (go_quiet (fail); try go_wp2)
        go_ret
        exact ⟨Z10, Z16⟩
       ·rw [if_neg c7] at H
        have dT : (!(((rd_T48 l0 aG).f0) == ((rd_T48 l1 aG).f0)) || (!((((rd_T48 l0 aG).f1).toList) == (((rd_T48 l1 aG).f1).toList)))) = false := by first | exact Bool.eq_false_iff.mpr c7 | simpa using c7
        clear c7
        have H' := Aside0.mk H
        clear H
        have p101 : 0 ≤ (aG : Int) := of_decide_eq_true Z8
        have q101 : aG < (l0.length : Int) := of_decide_eq_true Z8
        obtain ⟨ad101, e101, hx101_0, hx101_1⟩ := at_T48 dS.out aG p101 q101
        cases e101
        replace p101 := eq_true p101
        replace q101 := eq_true q101
        have p102 : 0 ≤ (aG : Int) := of_decide_eq_true Z8
        have q102 : aG < (l1.length : Int) := of_decide_eq_true Z8
        obtain ⟨ad102, e102, hx102_0, hx102_1⟩ := at_T48 mS.out aG p102 q102
        cases e102
        replace p102 := eq_true p102
        replace q102 := eq_true q102
        go_wp2
        repeat (go_quiet (fail); try go_wp2)
        go_roundg k1
        case measure => have := HK1.out; omega
        case rel => exact ⟨(wrap64 (aG + 1)), Z10, H', ⟨Z49⟩, Z16⟩
      ·rw [if_neg c6] at H
       exact absurd H Z35
     ·rw [if_neg c5] at H
      exact absurd H Z35
    ·rw [if_neg c4] at H
     have cf : decide (aG < (l0.length : Int)) = false := decide_eq_false c4
     clear c4
     obtain rfl := Option.some.inj H
     go_wp2
     repeat (go_quiet (fail); try go_wp2)
     go_ret
     exact ⟨Z10, Z16⟩
 ·rw [if_neg c3] at H
  have fh : ((l0.length : Int) == (l1.length : Int)) = false := beq_eq_false_iff_ne.mpr c3
  have hL : ((l0.length : Int) != (l1.length : Int)) = true := bne_iff_ne.mpr c3
  have jG : (l0.length == l1.length) = false := by first | simpa using c3 | (simp at c3 ⊢; omega)
  obtain rfl := Option.some.inj H
  go_enter Try.func66, Try.ntmps66
  go_wp2
  repeat (go_quiet (fail); try go_wp2)
  go_ret
  exact ⟨Z10, Z16⟩

/-! ### roadbookref07_Subs: function 75 -/
def roadbookref07_Subs.l0 : Nat → List (S48) → Int → Int → Int → Option (Bool)
 | 0, _, _, _, _ => none
 | k + 1, x0, x1, x2, x7 => if x7 < (x0.length : Int) then (if 0 ≤ x7 then (if ((rd_T48 x0 x7).f0) < x1 then (some false) else (if ((rd_T48 x0 x7).f0) > x2 then (some false) else (if (((rd_T48 x0 x7).f1).size : Int) > 255 then (some false) else (roadbookref07_Subs.l0 k x0 x1 x2 (wrap64 (x7 + 1)))))) else (none)) else (some true)
def roadbookref07_Subs.f (k : Nat) (l0 : List (S48)) (a1 : Int) (a2 : Int) : Option (Bool) := roadbookref07_Subs.l0 k l0 a1 a2 0
theorem roadbookref07_Subs.mono_l : ∀ k, (∀ y0 y1 y2 y3, LeO (roadbookref07_Subs.l0 k y0 y1 y2 y3) (roadbookref07_Subs.l0 (k + 1) y0 y1 y2 y3))
 | 0 => Sq.mz
 | k + 1 => by
  have ih0 := roadbookref07_Subs.mono_l k
  ·intros
   unfold roadbookref07_Subs.l0
   exact Sq.mo
theorem roadbookref07_Subs.mono : ∀ a0 a1 a2 k, LeO (roadbookref07_Subs.f k a0 a1 a2) (roadbookref07_Subs.f (k + 1) a0 a1 a2) := by
 intro a0 a1 a2 k
 have ih0 := roadbookref07_Subs.mono_l k
 unfold roadbookref07_Subs.f
 exact Sq.mo
set_option maxHeartbeats 8000000 in
set_option maxRecDepth 100000 in
theorem roadbookref07_Subs.calls (k : Nat) (A0 : Option Addr) (c0 : Nat) (l0 : List (S48)) (a1 : Int) (a2 : Int) (r : Bool) (w : World) (ff : Kd.C k48 w A0 l0.length l0) (eH : l0.length ≤ c0) (h : roadbookref07_Subs.f k l0 a1 a2 = some r) :
  Calls Try.prog 75 #[.slice A0 l0.length c0, .int .i64 a1, .int .i64 a2] w fun e w' => e = .returned (.bool r) ∧ Drawn0 w w' := by
 have dS := Aside0.mk ff
 have gj := Aside0.mk eH
 clear ff eH
 have H : (roadbookref07_Subs.l0 k l0 a1 a2 0) = some r := h
 clear h
 have H' := Aside0.mk H
 clear H
 go_enter Try.func75, Try.ntmps75
 go_wp2
 go_loopg [7] k (fun kq v7 w' => ∃ (bW : Int), v7 = .int .i64 bW ∧ Aside0 (roadbookref07_Subs.l0 kq l0 a1 a2 bW = some r) ∧ Aside0 (kq ≤ k) ∧ Drawn0 w w')
 case atStart => exact ⟨(0), Z10, H', ⟨Nat.le_refl _⟩, Z16⟩
 case round =>
  clear H'
  try clear p2
  obtain ⟨bW, rfl, HA, HK1, ⟨m1, rfl⟩⟩ := hrel
  cases gk with
  | zero => exact absurd HA.out (by simp [roadbookref07_Subs.l0])
  | succ k1 =>
   have H := HA.out
   clear HA
   simp only [roadbookref07_Subs.l0] at H
   by_cases c4 : bW < (l0.length : Int)
   ·rw [if_pos c4] at H
    have cf : decide (bW < (l0.length : Int)) = true := decide_eq_true c4
    clear c4
    by_cases c5 : 0 ≤ bW
    ·rw [if_pos c5] at H
     have dx : decide (0 ≤ bW) = true := decide_eq_true c5
     clear c5
     by_cases c6 : ((rd_T48 l0 bW).f0) < a1
     ·rw [if_pos c6] at H
      have dW : decide (((rd_T48 l0 bW).f0) < a1) = true := decide_eq_true c6
      clear c6
      obtain rfl := Option.some.inj H
      have p101 : 0 ≤ (bW : Int) := of_decide_eq_true Z8
      have q101 : bW < (l0.length : Int) := of_decide_eq_true Z8
      obtain ⟨ad101, e101, hx101_0, hx101_1⟩ := at_T48 dS.out bW p101 q101
      cases e101
      replace p101 := eq_true p101
      replace q101 := eq_true q101
      go_wp2
      go_ret
      exact ⟨Z10, Z16⟩
     ·rw [if_neg c6] at H
      have dW : decide (((rd_T48 l0 bW).f0) < a1) = false := decide_eq_false c6
      clear c6
      by_cases c7 : ((rd_T48 l0 bW).f0) > a2
      ·rw [if_pos c7] at H
       have dT : decide (a2 < ((rd_T48 l0 bW).f0)) = true := decide_eq_true c7
       clear c7
       obtain rfl := Option.some.inj H
       have p101 : 0 ≤ (bW : Int) := of_decide_eq_true Z8
       have q101 : bW < (l0.length : Int) := of_decide_eq_true Z8
       obtain ⟨ad101, e101, hx101_0, hx101_1⟩ := at_T48 dS.out bW p101 q101
       cases e101
       replace p101 := eq_true p101
       replace q101 := eq_true q101
       have p102 : 0 ≤ (bW : Int) := of_decide_eq_true Z8
       have q102 : bW < (l0.length : Int) := of_decide_eq_true Z8
       obtain ⟨ad102, e102, hx102_0, hx102_1⟩ := at_T48 dS.out bW p102 q102
       obtain rfl : ad101 = ad102 := (by injection e102)
       replace p102 := eq_true p102
       replace q102 := eq_true q102
       go_wp2
       go_ret
       exact ⟨Z10, Z16⟩
      ·rw [if_neg c7] at H
       have dT : decide (a2 < ((rd_T48 l0 bW).f0)) = false := decide_eq_false c7
       clear c7
       by_cases c8 : (((rd_T48 l0 bW).f1).size : Int) > 255
       ·rw [if_pos c8] at H
        have fS : decide (255 < (((rd_T48 l0 bW).f1).size : Int)) = true := decide_eq_true c8
        have gF : decide (255 < ((rd_T48 l0 bW).f1).size) = true := decide_eq_true Z29
        clear c8
        obtain rfl := Option.some.inj H
        have p101 : 0 ≤ (bW : Int) := of_decide_eq_true Z8
        have q101 : bW < (l0.length : Int) := of_decide_eq_true Z8
        obtain ⟨ad101, e101, hx101_0, hx101_1⟩ := at_T48 dS.out bW p101 q101
        cases e101
        replace p101 := eq_true p101
        replace q101 := eq_true q101
        have p102 : 0 ≤ (bW : Int) := of_decide_eq_true Z8
        have q102 : bW < (l0.length : Int) := of_decide_eq_true Z8
        obtain ⟨ad102, e102, hx102_0, hx102_1⟩ := at_T48 dS.out bW p102 q102
        obtain rfl : ad101 = ad102 := (by injection e102)
        replace p102 := eq_true p102
        replace q102 := eq_true q102
        have p103 : 0 ≤ (bW : Int) := of_decide_eq_true Z8
        have q103 : bW < (l0.length : Int) := of_decide_eq_true Z8
        obtain ⟨ad103, e103, hx103_0, hx103_1⟩ := at_T48 dS.out bW p103 q103
        obtain rfl : ad101 = ad103 := (by injection e103)
        replace p103 := eq_true p103
        replace q103 := eq_true q103
        go_wp2
        go_ret
        exact ⟨Z10, Z16⟩
       ·rw [if_neg c8] at H
        have fS : decide (255 < (((rd_T48 l0 bW).f1).size : Int)) = false := decide_eq_false c8
        have gF : decide (255 < ((rd_T48 l0 bW).f1).size) = false := decide_eq_false Z29
        clear c8
        have H' := Aside0.mk H
        clear H
        have p101 : 0 ≤ (bW : Int) := of_decide_eq_true Z8
        have q101 : bW < (l0.length : Int) := of_decide_eq_true Z8
        obtain ⟨ad101, e101, hx101_0, hx101_1⟩ := at_T48 dS.out bW p101 q101
        cases e101
        replace p101 := eq_true p101
        replace q101 := eq_true q101
        have p102 : 0 ≤ (bW : Int) := of_decide_eq_true Z8
        have q102 : bW < (l0.length : Int) := of_decide_eq_true Z8
        obtain ⟨ad102, e102, hx102_0, hx102_1⟩ := at_T48 dS.out bW p102 q102
        obtain rfl : ad101 = ad102 := (by injection e102)
        replace p102 := eq_true p102
        replace q102 := eq_true q102
        have p103 : 0 ≤ (bW : Int) := of_decide_eq_true Z8
        have q103 : bW < (l0.length : Int) := of_decide_eq_true Z8
        obtain ⟨ad103, e103, hx103_0, hx103_1⟩ := at_T48 dS.out bW p103 q103
        obtain rfl : ad101 = ad103 := (by injection e103)
        replace p103 := eq_true p103
        replace q103 := eq_true q103
        go_wp2
        go_roundg k1
        case measure => have := HK1.out; omega
        case rel => exact ⟨(wrap64 (bW + 1)), Z10, H', ⟨Z49⟩, Z16⟩
    ·rw [if_neg c5] at H
     exact absurd H Z35
   ·rw [if_neg c4] at H
    have cf : decide (bW < (l0.length : Int)) = false := decide_eq_false c4
    clear c4
    obtain rfl := Option.some.inj H
    go_wp2
    go_ret
    exact ⟨Z10, Z16⟩

end Go.Proofs.Ytccjakjjaemmkaa.PAE
