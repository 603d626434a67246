-- Written by mp.py, a program of this work (wip/tools), out of the translation; Lean checks it.
import Derived.Test.YtnllanjoebjeiaaGreatPVxZ
import Derived.Test.YtnllanjoebjeiaaGreatPVxEq80
import Derived.Test.YtnllanjoebjeiaaGreatBox
import Derived.Test.YtnllanjoebjeiaaGreatStore
namespace Go.Proofs.YtnllanjoebjeiaaGreat.PV
open Go.RowKit Go.Proofs.YtnllanjoebjeiaaGreatW.PrintWords Go.Proofs.YtnllanjoebjeiaaGreatW.PrintLast Go.Proofs.YtnllanjoebjeiaaGreatW.PrintMore
attribute [local go_sem] max2_int min2_int max_two min_two max_three min_three max_four min_four   -- for this text's walks alone
set_option linter.unusedVariables false
set_option linter.unusedSimpArgs false

attribute [local go_sem high] eqA80
/-! ### roadbookref07_Few: function 23 -/
mutual
def roadbookref07_Few.j0 : Nat → Bool → Int → Int → Int → ByteArray → Int → Int → ByteArray → Int → Int → ByteArray → Int → ByteArray → Int → Int → Int → Int → Int → Int → Int → ByteArray → ByteArray → List (S78) → Int → ByteArray → List (S80) → Option (Bool)
 | 0, _, _, _, _, _, _, _, _, _, _, _, _, _, _, _, _, _, _, _, _, _, _, _, _, _, _ => none
 | k + 1, iC, aQ, bo, bp, bq, br, aU, bs, bu, bv, aV, bf, aW, bg, bw, bm, bh, bi, bx, bA, bn, bB, bj, aZ, bk, bb => if iC = true then (some false) else (roadbookref07_Few.l0 k 0 aQ bo bp bq br aU bs bu bv aV bf aW bg bw bm bh bi bx bA bn bB bj aZ bk bb)
def roadbookref07_Few.l0 : Nat → Int → Int → Int → Int → ByteArray → Int → Int → ByteArray → Int → Int → ByteArray → Int → ByteArray → Int → Int → Int → Int → Int → Int → Int → ByteArray → ByteArray → List (S78) → Int → ByteArray → List (S80) → Option (Bool)
 | 0, _, _, _, _, _, _, _, _, _, _, _, _, _, _, _, _, _, _, _, _, _, _, _, _, _, _ => none
 | k + 1, x3, aQ, bo, bp, bq, br, aU, bs, bu, bv, aV, bf, aW, bg, bw, bm, bh, bi, bx, bA, bn, bB, bj, aZ, bk, bb => if x3 < (bj.length : Int) then (if 0 ≤ x3 then (if (((rd_T78 bj x3).f0).size : Int) > 50 then (some false) else (roadbookref07_Few.l0 k (wrap64 (x3 + 1)) aQ bo bp bq br aU bs bu bv aV bf aW bg bw bm bh bi bx bA bn bB bj aZ bk bb)) else (none)) else (roadbookref07_Few.l1 k 0 aQ bo bp bq br aU bs bu bv aV bf aW bg bw bm bh bi bx bA bn bB bj aZ bk bb)
def roadbookref07_Few.l1 : Nat → Int → Int → Int → Int → ByteArray → Int → Int → ByteArray → Int → Int → ByteArray → Int → ByteArray → Int → Int → Int → Int → Int → Int → Int → ByteArray → ByteArray → List (S78) → Int → ByteArray → List (S80) → Option (Bool)
 | 0, _, _, _, _, _, _, _, _, _, _, _, _, _, _, _, _, _, _, _, _, _, _, _, _, _, _ => none
 | k + 1, x4, aQ, bo, bp, bq, br, aU, bs, bu, bv, aV, bf, aW, bg, bw, bm, bh, bi, bx, bA, bn, bB, bj, aZ, bk, bb => if x4 < (bb.length : Int) then (if 0 ≤ x4 then (if (((rd_T80 bb x4).f1).size : Int) > 300 then (some false) else (roadbookref07_Few.l1 k (wrap64 (x4 + 1)) aQ bo bp bq br aU bs bu bv aV bf aW bg bw bm bh bi bx bA bn bB bj aZ bk bb)) else (none)) else (some true)
end
def roadbookref07_Few.f (k : Nat) (ar : Int) (aC : Int) (az : Int) (ay : ByteArray) (aA : Int) (au : Int) (aw : ByteArray) (av : Int) (aD : Int) (ax : ByteArray) (am : Int) (ag : ByteArray) (ac : Int) (aq : Int) (ab : Int) (ao : Int) (ak : Int) (ai : Int) (ae : Int) (ah : ByteArray) (ap : ByteArray) (aa : List (S78)) (aj : Int) (al : ByteArray) (af : List (S80)) : Option (Bool) := if (aa.length : Int) > 300 then (roadbookref07_Few.j0 k true ar aC az ay aA au aw av aD ax am ag ac aq ab ao ak ai ae ah ap aa aj al af) else (if (af.length : Int) > 60 then (roadbookref07_Few.j0 k true ar aC az ay aA au aw av aD ax am ag ac aq ab ao ak ai ae ah ap aa aj al af) else (if (wrap64 ((ay.size : Int) + (aw.size : Int))) > 200 then (roadbookref07_Few.j0 k true ar aC az ay aA au aw av aD ax am ag ac aq ab ao ak ai ae ah ap aa aj al af) else (if (wrap64 ((ax.size : Int) + (ag.size : Int))) > 200 then (roadbookref07_Few.j0 k true ar aC az ay aA au aw av aD ax am ag ac aq ab ao ak ai ae ah ap aa aj al af) else (if (wrap64 ((ah.size : Int) + (ap.size : Int))) > 200 then (roadbookref07_Few.j0 k true ar aC az ay aA au aw av aD ax am ag ac aq ab ao ak ai ae ah ap aa aj al af) else (roadbookref07_Few.j0 k (decide ((al.size : Int) > 300)) ar aC az ay aA au aw av aD ax am ag ac aq ab ao ak ai ae ah ap aa aj al af)))))
theorem roadbookref07_Few.mono_l : ∀ k, (∀ y0 y1 y2 y3 y4 y5 y6 y7 y8 y9 cn cp cq cr ct cu cv cw cx cy cA cB cC cD cE cF, LeO (roadbookref07_Few.j0 k y0 y1 y2 y3 y4 y5 y6 y7 y8 y9 cn cp cq cr ct cu cv cw cx cy cA cB cC cD cE cF) (roadbookref07_Few.j0 (k + 1) y0 y1 y2 y3 y4 y5 y6 y7 y8 y9 cn cp cq cr ct cu cv cw cx cy cA cB cC cD cE cF)) ∧ (∀ y0 y1 y2 y3 y4 y5 y6 y7 y8 y9 cn cp cq cr ct cu cv cw cx cy cA cB cC cD cE cF, LeO (roadbookref07_Few.l0 k y0 y1 y2 y3 y4 y5 y6 y7 y8 y9 cn cp cq cr ct cu cv cw cx cy cA cB cC cD cE cF) (roadbookref07_Few.l0 (k + 1) y0 y1 y2 y3 y4 y5 y6 y7 y8 y9 cn cp cq cr ct cu cv cw cx cy cA cB cC cD cE cF)) ∧ (∀ y0 y1 y2 y3 y4 y5 y6 y7 y8 y9 cn cp cq cr ct cu cv cw cx cy cA cB cC cD cE cF, LeO (roadbookref07_Few.l1 k y0 y1 y2 y3 y4 y5 y6 y7 y8 y9 cn cp cq cr ct cu cv cw cx cy cA cB cC cD cE cF) (roadbookref07_Few.l1 (k + 1) y0 y1 y2 y3 y4 y5 y6 y7 y8 y9 cn cp cq cr ct cu cv cw cx cy cA cB cC cD cE cF))
 | 0 => ⟨Sq.mz, Sq.mz, Sq.mz⟩
 | k + 1 => by
  obtain ⟨ih0, ih1, ih2⟩ := roadbookref07_Few.mono_l k
  refine ⟨?_, ?_, ?_⟩
  ·intros
   unfold roadbookref07_Few.j0
   exact Sq.mo
  ·intros
   unfold roadbookref07_Few.l0
   exact Sq.mo
  ·intros
   unfold roadbookref07_Few.l1
   exact Sq.mo
theorem roadbookref07_Few.mono : ∀ a0 a1 a2 a3 a4 a5 a6 a7 a8 a9 dc dd de df dg dh di dj dk dl dm dn dp dq dr k, LeO (roadbookref07_Few.f k a0 a1 a2 a3 a4 a5 a6 a7 a8 a9 dc dd de df dg dh di dj dk dl dm dn dp dq dr) (roadbookref07_Few.f (k + 1) a0 a1 a2 a3 a4 a5 a6 a7 a8 a9 dc dd de df dg dh di dj dk dl dm dn dp dq dr) := by
 intros
 rename_i k
 obtain ⟨ih0, ih1, ih2⟩ := roadbookref07_Few.mono_l k
 unfold roadbookref07_Few.f
 exact Sq.mo
set_option maxHeartbeats 8000000 in
set_option maxRecDepth 100000 in
theorem roadbookref07_Few.calls (k : Nat) (ar : Int) (aC : Int) (az : Int) (ay : ByteArray) (aA : Int) (au : Int) (aw : ByteArray) (av : Int) (aD : Int) (ax : ByteArray) (am : Int) (ag : ByteArray) (ac : Int) (aq : Int) (ab : Int) (ao : Int) (ak : Int) (ai : Int) (ae : Int) (ah : ByteArray) (ap : ByteArray) (aJ : Option Addr) (aK : Nat) (aa : List (S78)) (aj : Int) (al : ByteArray) (aH : Option Addr) (aI : Nat) (af : List (S80)) (r : Bool) (w : World) (bD : Kd.C k78 w aJ aa.length aa) (bE : aa.length ≤ aK) (bF : Kd.C k80 w aH af.length af) (bG : af.length ≤ aI) (h : roadbookref07_Few.f k ar aC az ay aA au aw av aD ax am ag ac aq ab ao ak ai ae ah ap aa aj al af = some r) :
  Calls Tryz.prog 23 #[.agg #[.int .i64 ar, .int .i64 aC, .int .i64 az, .string ay, .int .i64 aA, .int .i64 au, .string aw, .int .i64 av, .int .i64 aD, .string ax, .int .i64 am, .string ag, .int .i64 ac, .int .i64 aq, .int .i64 ab, .int .i64 ao, .int .i64 ak, .int .i64 ai, .int .i64 ae, .string ah, .string ap, .slice aJ aa.length aK, .int .i64 aj, .string al, .slice aH af.length aI]] w fun e w' => e = .returned (.bool r) ∧ Below w.heap.size w w' := by
 have dP := Tryz.underlying32
 have bY := Aside0.mk bD
 have bH := Aside0.mk bE
 clear bD bE
 have bZ := Aside0.mk bF
 have aT := Aside0.mk bG
 clear bF bG
 have HB := Aside0.mk (Below.refl w.heap.size w)
 have H : (if (aa.length : Int) > 300 then (roadbookref07_Few.j0 k true ar aC az ay aA au aw av aD ax am ag ac aq ab ao ak ai ae ah ap aa aj al af) else (if (af.length : Int) > 60 then (roadbookref07_Few.j0 k true ar aC az ay aA au aw av aD ax am ag ac aq ab ao ak ai ae ah ap aa aj al af) else (if (wrap64 ((ay.size : Int) + (aw.size : Int))) > 200 then (roadbookref07_Few.j0 k true ar aC az ay aA au aw av aD ax am ag ac aq ab ao ak ai ae ah ap aa aj al af) else (if (wrap64 ((ax.size : Int) + (ag.size : Int))) > 200 then (roadbookref07_Few.j0 k true ar aC az ay aA au aw av aD ax am ag ac aq ab ao ak ai ae ah ap aa aj al af) else (if (wrap64 ((ah.size : Int) + (ap.size : Int))) > 200 then (roadbookref07_Few.j0 k true ar aC az ay aA au aw av aD ax am ag ac aq ab ao ak ai ae ah ap aa aj al af) else (roadbookref07_Few.j0 k (decide ((al.size : Int) > 300)) ar aC az ay aA au aw av aD ax am ag ac aq ab ao ak ai ae ah ap aa aj al af)))))) = some r := h
 clear h
 have dY := Aside0.mk H
 clear H
 go_enter Tryz.func23, Tryz.ntmps23
 go_upto_region 1 with (first | ((with_reducible refine gate_dst (N := 1) rfl ?_); (try (refine gate_guard Z16 ?_; dsimp only)); refine Sq.box 1 #[.int .i64 ar, .int .i64 aC, .int .i64 az, .string ay, .int .i64 aA, .int .i64 au, .string aw, .int .i64 av, .int .i64 aD, .string ax, .int .i64 am, .string ag, .int .i64 ac, .int .i64 aq, .int .i64 ab, .int .i64 ao, .int .i64 ak, .int .i64 ai, .int .i64 ae, .string ah, .string ap, .slice aJ aa.length aK, .int .i64 aj, .string al, .slice aH af.length aI] 32 ?_; intro aN hg w3 hbox hb; have aE := Aside0.mk (hbox); have cG := Aside0.mk (Sq.ge hg Z2); have cg := Aside0.mk (Sq.ge hg Z2); replace HB := Aside0.mk (below_step Z2 hb); clear hb hbox hg))
 (try simp only [Act.put, Sq.s1, Sq.s2, Sq.s3])
 go_cut [50] (fun iD wc => ∃ (kq : Nat) (el : Bool), iD = .bool el ∧ Aside0 (roadbookref07_Few.j0 kq el ar aC az ay aA au aw av aD ax am ag ac aq ab ao ak ai ae ah ap aa aj al af = some r) ∧ Aside0 (kq ≤ k) ∧ Aside0 (wc.heap[aN]? = some (.cells #[.int .i64 ar, .int .i64 aC, .int .i64 az, .string ay, .int .i64 aA, .int .i64 au, .string aw, .int .i64 av, .int .i64 aD, .string ax, .int .i64 am, .string ag, .int .i64 ac, .int .i64 aq, .int .i64 ab, .int .i64 ao, .int .i64 ak, .int .i64 ai, .int .i64 ae, .string ah, .string ap, (.slice aJ aa.length aK), .int .i64 aj, .string al, (.slice aH af.length aI)] 32 (0, 0))) ∧ Aside0 (Below w.heap.size w wc))
 case first =>
  have H := dY.out
  clear dY
  by_cases c4 : (aa.length : Int) > 300
  ·rw [if_pos c4] at H
   have bP : decide (300 < (aa.length : Int)) = true := decide_eq_true c4
   have cl : decide (300 < aa.length) = true := decide_eq_true Z23
   clear c4
   (first | rw [bP] | (simp only [i64_w, i32_w]; rw [bP]) | skip)
   have H' := Aside0.mk H
   clear H
   have eE := cells_25 aE.out
   go_wp2
   go_meet
   case rel => exact ⟨_, (true), Z8, H', ⟨Z22⟩, ⟨Z4⟩, ⟨Z1⟩⟩
  ·rw [if_neg c4] at H
   have bP : decide (300 < (aa.length : Int)) = false := decide_eq_false c4
   have cl : decide (300 < aa.length) = false := decide_eq_false Z23
   clear c4
   (first | rw [bP] | (simp only [i64_w, i32_w]; rw [bP]) | skip)
   by_cases c6 : (af.length : Int) > 60
   ·rw [if_pos c6] at H
    have ce : decide (60 < (af.length : Int)) = true := decide_eq_true c6
    have cJ : decide (60 < af.length) = true := decide_eq_true Z23
    clear c6
    have H' := Aside0.mk H
    clear H
    have gV := cells_25 aE.out
    go_wp2
    go_meet
    case rel => exact ⟨_, (true), Z8, H', ⟨Z22⟩, ⟨Z4⟩, ⟨Z1⟩⟩
   ·rw [if_neg c6] at H
    have ce : decide (60 < (af.length : Int)) = false := decide_eq_false c6
    have cJ : decide (60 < af.length) = false := decide_eq_false Z23
    clear c6
    by_cases c8 : (wrap64 ((ay.size : Int) + (aw.size : Int))) > 200
    ·rw [if_pos c8] at H
     have ec : decide (200 < (wrap64 ((ay.size : Int) + (aw.size : Int)))) = true := decide_eq_true c8
     clear c8
     have H' := Aside0.mk H
     clear H
     have eW := cells_25 aE.out
     go_wp2
     go_meet
     case rel => exact ⟨_, (true), Z8, H', ⟨Z22⟩, ⟨Z4⟩, ⟨Z1⟩⟩
    ·rw [if_neg c8] at H
     have ec : decide (200 < (wrap64 ((ay.size : Int) + (aw.size : Int)))) = false := decide_eq_false c8
     clear c8
     by_cases bW : (wrap64 ((ax.size : Int) + (ag.size : Int))) > 200
     ·rw [if_pos bW] at H
      have bX : decide (200 < (wrap64 ((ax.size : Int) + (ag.size : Int)))) = true := decide_eq_true bW
      clear bW
      have H' := Aside0.mk H
      clear H
      have fe := cells_25 aE.out
      go_wp2
      go_meet
      case rel => exact ⟨_, (true), Z8, H', ⟨Z22⟩, ⟨Z4⟩, ⟨Z1⟩⟩
     ·rw [if_neg bW] at H
      have bX : decide (200 < (wrap64 ((ax.size : Int) + (ag.size : Int)))) = false := decide_eq_false bW
      clear bW
      by_cases da : (wrap64 ((ah.size : Int) + (ap.size : Int))) > 200
      ·rw [if_pos da] at H
       have eh : decide (200 < (wrap64 ((ah.size : Int) + (ap.size : Int)))) = true := decide_eq_true da
       clear da
       have H' := Aside0.mk H
       clear H
       have eu := cells_25 aE.out
       go_wp2
       go_meet
       case rel => exact ⟨_, (true), Z8, H', ⟨Z22⟩, ⟨Z4⟩, ⟨Z1⟩⟩
      ·rw [if_neg da] at H
       have eh : decide (200 < (wrap64 ((ah.size : Int) + (ap.size : Int)))) = false := decide_eq_false da
       clear da
       have H' := Aside0.mk H
       clear H
       have ej := cells_25 aE.out
       go_wp2
       go_meet
       case rel => exact ⟨_, (decide ((al.size : Int) > 300)), Z8, H', ⟨Z22⟩, ⟨Z4⟩, ⟨Z1⟩⟩
 case rest =>
  clear dY
  try clear c2
  try clear p6
  obtain ⟨kq, el, rfl, HA, eP, aE, HB⟩ := hcut
  cases kq with
  | zero => exact absurd HA.out (by simp [roadbookref07_Few.j0])
  | succ kj1 =>
   have H := HA.out
   clear HA
   simp only [roadbookref07_Few.j0] at H
   by_cases dC : el = true
   ·subst dC
    replace H := Sq.itT H
    obtain rfl := Option.some.inj H
    go_wp2
    go_ret
    exact ⟨Z5, Z1⟩
   ·replace dC := Bool.eq_false_iff.mpr dC
    subst dC
    replace H := Sq.itF H
    have H' := Aside0.mk H
    clear H
    go_wp2
    go_loopg [3] kj1 (fun kq v3 w' => ∃ (cc : Int), v3 = .int .i64 cc ∧ Aside0 (roadbookref07_Few.l0 kq cc ar aC az ay aA au aw av aD ax am ag ac aq ab ao ak ai ae ah ap aa aj al af = some r) ∧ Aside0 (kq ≤ kj1) ∧ Aside0 (w'.heap[aN]? = some (.cells #[.int .i64 ar, .int .i64 aC, .int .i64 az, .string ay, .int .i64 aA, .int .i64 au, .string aw, .int .i64 av, .int .i64 aD, .string ax, .int .i64 am, .string ag, .int .i64 ac, .int .i64 aq, .int .i64 ab, .int .i64 ao, .int .i64 ak, .int .i64 ai, .int .i64 ae, .string ah, .string ap, (.slice aJ aa.length aK), .int .i64 aj, .string al, (.slice aH af.length aI)] 32 (0, 0))) ∧ Aside0 (Below w.heap.size w w'))
    case atStart => exact ⟨(0), Z8, H', ⟨Nat.le_refl _⟩, ⟨Z4⟩, ⟨Z1⟩⟩
    case round =>
     clear H'
     try clear c1
     try clear c2
     try clear p2
     try clear c4
     try clear bP
     try clear cl
     try clear c6
     try clear ce
     try clear cJ
     try clear p6
     try clear c8
     try clear dC
     try clear eE
     try clear gV
     try clear p6
     obtain ⟨cc, rfl, HA, HK2, aE, HB⟩ := hrel
     cases gk with
     | zero => exact absurd HA.out (by simp [roadbookref07_Few.l0])
     | succ k2 =>
      have H := HA.out
      clear HA
      simp only [roadbookref07_Few.l0] at H
      by_cases et : cc < (aa.length : Int)
      ·rw [if_pos et] at H
       have eG : decide (cc < (aa.length : Int)) = true := decide_eq_true et
       clear et
       by_cases eU : 0 ≤ cc
       ·rw [if_pos eU] at H
        have c17b0 : decide (0 ≤ cc) = true := decide_eq_true eU
        clear eU
        by_cases dD : (((rd_T78 aa cc).f0).size : Int) > 50
        ·rw [if_pos dD] at H
         have ei : decide (50 < (((rd_T78 aa cc).f0).size : Int)) = true := decide_eq_true dD
         have fr : decide (50 < ((rd_T78 aa cc).f0).size) = true := decide_eq_true Z23
         clear dD
         obtain rfl := Option.some.inj H
         have fU := cells_25 aE.out
         have p102 : 0 ≤ (cc : Int) := of_decide_eq_true Z7
         have q102 : cc < (aa.length : Int) := of_decide_eq_true Z7
         obtain ⟨ad102, e102, hx102_0, hx102_1⟩ := at_T78 bY.out cc p102 q102
         cases e102
         replace hx102_0 := Sq.up HB.out hx102_0
         replace hx102_1 := Sq.up HB.out hx102_1
         replace p102 := eq_true p102
         replace q102 := eq_true q102
         go_wp2
         go_ret
         exact ⟨Z5, Z1⟩
        ·rw [if_neg dD] at H
         have ei : decide (50 < (((rd_T78 aa cc).f0).size : Int)) = false := decide_eq_false dD
         have fr : decide (50 < ((rd_T78 aa cc).f0).size) = false := decide_eq_false Z23
         clear dD
         have H' := Aside0.mk H
         clear H
         have dT := cells_25 aE.out
         have p102 : 0 ≤ (cc : Int) := of_decide_eq_true Z7
         have q102 : cc < (aa.length : Int) := of_decide_eq_true Z7
         obtain ⟨ad102, e102, hx102_0, hx102_1⟩ := at_T78 bY.out cc p102 q102
         cases e102
         replace hx102_0 := Sq.up HB.out hx102_0
         replace hx102_1 := Sq.up HB.out hx102_1
         replace p102 := eq_true p102
         replace q102 := eq_true q102
         go_wp2
         go_roundg k2
         case measure => have := eP.out; have := HK2.out; omega
         case rel => exact ⟨(wrap64 (cc + 1)), Z8, H', ⟨by have := eP.out; have := HK2.out; omega⟩, ⟨Z4⟩, ⟨Z1⟩⟩
       ·rw [if_neg eU] at H
        exact absurd H Z27
      ·rw [if_neg et] at H
       have eG : decide (cc < (aa.length : Int)) = false := decide_eq_false et
       clear et
       have H' := Aside0.mk H
       clear H
       have gW := cells_25 aE.out
       go_wp2
       go_loopg [4] k2 (fun kq v4 w' => ∃ (cd : Int), v4 = .int .i64 cd ∧ Aside0 (roadbookref07_Few.l1 kq cd ar aC az ay aA au aw av aD ax am ag ac aq ab ao ak ai ae ah ap aa aj al af = some r) ∧ Aside0 (kq ≤ k2) ∧ Aside0 (w'.heap[aN]? = some (.cells #[.int .i64 ar, .int .i64 aC, .int .i64 az, .string ay, .int .i64 aA, .int .i64 au, .string aw, .int .i64 av, .int .i64 aD, .string ax, .int .i64 am, .string ag, .int .i64 ac, .int .i64 aq, .int .i64 ab, .int .i64 ao, .int .i64 ak, .int .i64 ai, .int .i64 ae, .string ah, .string ap, (.slice aJ aa.length aK), .int .i64 aj, .string al, (.slice aH af.length aI)] 32 (0, 0))) ∧ Aside0 (Below w.heap.size w w'))
       case atStart => exact ⟨(0), Z8, H', ⟨Nat.le_refl _⟩, ⟨Z4⟩, ⟨Z1⟩⟩
       case round =>
        clear H'
        try clear c1
        try clear c2
        try clear p2
        try clear c4
        try clear bP
        try clear cl
        try clear c6
        try clear ce
        try clear cJ
        try clear p6
        try clear c8
        try clear ec
        try clear bW
        try clear bX
        try clear da
        try clear eh
        try clear dC
        try clear et
        try clear eG
        try clear eU
        try clear fe
        try clear eu
        try clear ej
        try clear gW
        try clear eE
        try clear gV
        try clear eW
        try clear p2
        try clear p6
        obtain ⟨cd, rfl, HA, HK3, aE, HB⟩ := hrel
        cases gk with
        | zero => exact absurd HA.out (by simp [roadbookref07_Few.l1])
        | succ k3 =>
         have H := HA.out
         clear HA
         simp only [roadbookref07_Few.l1] at H
         by_cases dt : cd < (af.length : Int)
         ·rw [if_pos dt] at H
          have ev : decide (cd < (af.length : Int)) = true := decide_eq_true dt
          clear dt
          by_cases eT : 0 ≤ cd
          ·rw [if_pos eT] at H
           have c23b0 : decide (0 ≤ cd) = true := decide_eq_true eT
           clear eT
           by_cases cT : (((rd_T80 af cd).f1).size : Int) > 300
           ·rw [if_pos cT] at H
            have ew : decide (300 < (((rd_T80 af cd).f1).size : Int)) = true := decide_eq_true cT
            have ex : decide (300 < ((rd_T80 af cd).f1).size) = true := decide_eq_true Z23
            clear cT
            obtain rfl := Option.some.inj H
            have gN := cells_25 aE.out
            have p103 : 0 ≤ (cd : Int) := of_decide_eq_true Z7
            have q103 : cd < (af.length : Int) := of_decide_eq_true Z7
            obtain ⟨ad103, e103, hx103_0, hx103_1⟩ := at_T80 bZ.out cd p103 q103
            cases e103
            replace hx103_0 := Sq.up HB.out hx103_0
            replace hx103_1 := Sq.up HB.out hx103_1
            replace p103 := eq_true p103
            replace q103 := eq_true q103
            go_wp2
            go_ret
            exact ⟨Z5, Z1⟩
           ·rw [if_neg cT] at H
            have ew : decide (300 < (((rd_T80 af cd).f1).size : Int)) = false := decide_eq_false cT
            have ex : decide (300 < ((rd_T80 af cd).f1).size) = false := decide_eq_false Z23
            clear cT
            have H' := Aside0.mk H
            clear H
            have gO := cells_25 aE.out
            have p103 : 0 ≤ (cd : Int) := of_decide_eq_true Z7
            have q103 : cd < (af.length : Int) := of_decide_eq_true Z7
            obtain ⟨ad103, e103, hx103_0, hx103_1⟩ := at_T80 bZ.out cd p103 q103
            cases e103
            replace hx103_0 := Sq.up HB.out hx103_0
            replace hx103_1 := Sq.up HB.out hx103_1
            replace p103 := eq_true p103
            replace q103 := eq_true q103
            go_wp2
            go_roundg k3
            case measure => have := eP.out; have := HK2.out; have := HK3.out; omega
            case rel => exact ⟨(wrap64 (cd + 1)), Z8, H', ⟨by have := eP.out; have := HK2.out; have := HK3.out; omega⟩, ⟨Z4⟩, ⟨Z1⟩⟩
          ·rw [if_neg eT] at H
           exact absurd H Z27
         ·rw [if_neg dt] at H
          have ev : decide (cd < (af.length : Int)) = false := decide_eq_false dt
          clear dt
          obtain rfl := Option.some.inj H
          have hcz27 := cells_25 aE.out
          go_wp2
          go_ret
          exact ⟨Z5, Z1⟩

/-! ### roadbookref07_FewAll: function 9 -/
def roadbookref07_FewAll.l0 : Nat → List (S32) → Int → Option (Bool)
 | 0, _, _ => none
 | k + 1, x0, x5 => if x5 < (x0.length : Int) then (if 0 ≤ x5 then ((roadbookref07_Few.f k ((rd_T32 x0 x5).f0) ((rd_T32 x0 x5).f1) ((rd_T32 x0 x5).f2) ((rd_T32 x0 x5).f3) ((rd_T32 x0 x5).f4) ((rd_T32 x0 x5).f5) ((rd_T32 x0 x5).f6) ((rd_T32 x0 x5).f7) ((rd_T32 x0 x5).f8) ((rd_T32 x0 x5).f9) ((rd_T32 x0 x5).f10) ((rd_T32 x0 x5).f11) ((rd_T32 x0 x5).f12) ((rd_T32 x0 x5).f13) ((rd_T32 x0 x5).f14) ((rd_T32 x0 x5).f15) ((rd_T32 x0 x5).f16) ((rd_T32 x0 x5).f17) ((rd_T32 x0 x5).f18) ((rd_T32 x0 x5).f19) ((rd_T32 x0 x5).f20) ((rd_T32 x0 x5).f21) ((rd_T32 x0 x5).f22) ((rd_T32 x0 x5).f23) ((rd_T32 x0 x5).f24)).bind fun bl => (if bl = true then (roadbookref07_FewAll.l0 k x0 (wrap64 (x5 + 1))) else (some false))) else (none)) else (some true)
def roadbookref07_FewAll.f (k : Nat) (l0 : List (S32)) (a1 : Int) : Option (Bool) := if (l0.length : Int) > a1 then (some false) else (roadbookref07_FewAll.l0 k l0 0)
theorem roadbookref07_FewAll.mono_l : ∀ k, (∀ y0 y1, LeO (roadbookref07_FewAll.l0 k y0 y1) (roadbookref07_FewAll.l0 (k + 1) y0 y1))
 | 0 => Sq.mz
 | k + 1 => by
  have ih0 := roadbookref07_FewAll.mono_l k
  ·intros
   unfold roadbookref07_FewAll.l0
   have m0 := roadbookref07_Few.mono
   exact Sq.mo
theorem roadbookref07_FewAll.mono : ∀ a0 a1 k, LeO (roadbookref07_FewAll.f k a0 a1) (roadbookref07_FewAll.f (k + 1) a0 a1) := by
 intro a0 a1 k
 have ih0 := roadbookref07_FewAll.mono_l k
 unfold roadbookref07_FewAll.f
 have m0 := roadbookref07_Few.mono
 exact Sq.mo

set_option maxHeartbeats 8000000 in
set_option maxRecDepth 100000 in
theorem roadbookref07_FewAll.calls (k : Nat) (A0 : Option Addr) (c0 : Nat) (l0 : List (S32)) (a1 : Int) (r : Bool) (w : World) (du : Kd.C k32 w A0 l0.length l0) (cO : l0.length ≤ c0) (h : roadbookref07_FewAll.f k l0 a1 = some r) :
  Calls Tryz.prog 9 #[.slice A0 l0.length c0, .int .i64 a1] w fun e w' => e = .returned (.bool r) ∧ Below w.heap.size w w' := by
 have dP := Tryz.underlying32
 have dv := Aside0.mk du
 have eC := Aside0.mk cO
 clear du cO
 have HB := Aside0.mk (Below.refl w.heap.size w)
 have H : (if (l0.length : Int) > a1 then (some false) else (roadbookref07_FewAll.l0 k l0 0)) = some r := h
 clear h
 by_cases c3 : (l0.length : Int) > a1
 ·rw [if_pos c3] at H
  have bU : decide (a1 < (l0.length : Int)) = true := decide_eq_true c3
  clear c3
  obtain rfl := Option.some.inj H
  go_enter Tryz.func9, Tryz.ntmps9
  go_wp2_with (first | ((with_reducible refine Pre.gate_load 32 rfl ?_); (try (refine gate_guard Z16 ?_; dsimp only)); refine Pre.load_event_a rfl rfl rfl Z16 Pre.range25 Tryz.underlying32 rfl Z12 ?_))
  go_ret
  exact ⟨Z5, Z2⟩
 ·rw [if_neg c3] at H
  have bU : decide (a1 < (l0.length : Int)) = false := decide_eq_false c3
  clear c3
  have H' := Aside0.mk H
  clear H
  go_enter Tryz.func9, Tryz.ntmps9
  go_wp2_with (first | ((with_reducible refine Pre.gate_load 32 rfl ?_); (try (refine gate_guard Z16 ?_; dsimp only)); refine Pre.load_event_a rfl rfl rfl Z16 Pre.range25 Tryz.underlying32 rfl Z12 ?_))
  go_loopg [5] k (fun kq v5 w' => ∃ (aG : Int), v5 = .int .i64 aG ∧ Aside0 (roadbookref07_FewAll.l0 kq l0 aG = some r) ∧ Aside0 (kq ≤ k) ∧ Aside0 (Below w.heap.size w w'))
  case atStart => exact ⟨(0), Z8, H', ⟨Nat.le_refl _⟩, ⟨Z2⟩⟩
  case round =>
   clear H'
   try clear p2
   try clear c3
   try clear bU
   obtain ⟨aG, rfl, HA, HK1, HB⟩ := hrel
   cases gk with
   | zero => exact absurd HA.out (by simp [roadbookref07_FewAll.l0])
   | succ k1 =>
    have H := HA.out
    clear HA
    simp only [roadbookref07_FewAll.l0] at H
    by_cases c4 : aG < (l0.length : Int)
    ·rw [if_pos c4] at H
     have bP : decide (aG < (l0.length : Int)) = true := decide_eq_true c4
     clear c4
     by_cases c5 : 0 ≤ aG
     ·rw [if_pos c5] at H
      have ca : decide (0 ≤ aG) = true := decide_eq_true c5
      clear c5
      replace H := Option.bind_eq_some_iff.mp H
      obtain ⟨bl, fR, H⟩ := H
      replace H : (if bl = true then (roadbookref07_FewAll.l0 k1 l0 (wrap64 (aG + 1))) else (some false)) = some r := H
      have A6 := Aside0.mk fR
      clear fR
      by_cases c7 : bl = true
      ·subst c7
       replace H := Sq.itT H
       have H' := Aside0.mk H
       clear H
       have p101 : 0 ≤ (aG : Int) := of_decide_eq_true Z7
       have q101 : aG < (l0.length : Int) := of_decide_eq_true Z7
       obtain ⟨ad101, dF, dG, dH, dI, e101, hx101_0, hx101_1, hx101_2, hx101_3, hx101_4, hx101_5, hx101_6, hx101_7, hx101_8, hx101_9, hx101_10, hx101_11, hx101_12, hx101_13, hx101_14, hx101_15, hx101_16, hx101_17, hx101_18, hx101_19, hx101_20, hx101_21, hx101_22, hx101_23, hx101_24, hl101_21, hi101_21, hl101_24, hi101_24⟩ := at_T32 dv.out aG p101 q101
       cases e101
       replace hx101_0 := Sq.up HB.out hx101_0
       replace hx101_1 := Sq.up HB.out hx101_1
       replace hx101_2 := Sq.up HB.out hx101_2
       replace hx101_3 := Sq.up HB.out hx101_3
       replace hx101_4 := Sq.up HB.out hx101_4
       replace hx101_5 := Sq.up HB.out hx101_5
       replace hx101_6 := Sq.up HB.out hx101_6
       replace hx101_7 := Sq.up HB.out hx101_7
       replace hx101_8 := Sq.up HB.out hx101_8
       replace hx101_9 := Sq.up HB.out hx101_9
       replace hx101_10 := Sq.up HB.out hx101_10
       replace hx101_11 := Sq.up HB.out hx101_11
       replace hx101_12 := Sq.up HB.out hx101_12
       replace hx101_13 := Sq.up HB.out hx101_13
       replace hx101_14 := Sq.up HB.out hx101_14
       replace hx101_15 := Sq.up HB.out hx101_15
       replace hx101_16 := Sq.up HB.out hx101_16
       replace hx101_17 := Sq.up HB.out hx101_17
       replace hx101_18 := Sq.up HB.out hx101_18
       replace hx101_19 := Sq.up HB.out hx101_19
       replace hx101_20 := Sq.up HB.out hx101_20
       replace hx101_21 := Sq.up HB.out hx101_21
       replace hx101_22 := Sq.up HB.out hx101_22
       replace hx101_23 := Sq.up HB.out hx101_23
       replace hx101_24 := Sq.up HB.out hx101_24
       have dU := Aside0.mk hi101_21
       have cY := Aside0.mk hl101_21
       clear hi101_21 hl101_21
       have dV := Aside0.mk hi101_24
       have cZ := Aside0.mk hl101_24
       clear hi101_24 hl101_24
       replace p101 := eq_true p101
       replace q101 := eq_true q101
       go_wp2_with (first | ((with_reducible refine Pre.gate_load 32 rfl ?_); (try (refine gate_guard Z16 ?_; dsimp only)); refine Pre.load_event_a rfl rfl rfl Z16 Pre.range25 Tryz.underlying32 rfl Z12 ?_) | ((with_reducible refine gate_callee (f := 23) rfl ?_); refine goesL_ (some 20) rfl rfl Tryz.func23 Z12 rfl #[.agg #[.int .i64 ((rd_T32 l0 aG).f0), .int .i64 ((rd_T32 l0 aG).f1), .int .i64 ((rd_T32 l0 aG).f2), .string ((rd_T32 l0 aG).f3), .int .i64 ((rd_T32 l0 aG).f4), .int .i64 ((rd_T32 l0 aG).f5), .string ((rd_T32 l0 aG).f6), .int .i64 ((rd_T32 l0 aG).f7), .int .i64 ((rd_T32 l0 aG).f8), .string ((rd_T32 l0 aG).f9), .int .i64 ((rd_T32 l0 aG).f10), .string ((rd_T32 l0 aG).f11), .int .i64 ((rd_T32 l0 aG).f12), .int .i64 ((rd_T32 l0 aG).f13), .int .i64 ((rd_T32 l0 aG).f14), .int .i64 ((rd_T32 l0 aG).f15), .int .i64 ((rd_T32 l0 aG).f16), .int .i64 ((rd_T32 l0 aG).f17), .int .i64 ((rd_T32 l0 aG).f18), .string ((rd_T32 l0 aG).f19), .string ((rd_T32 l0 aG).f20), .slice dF ((rd_T32 l0 aG).f21).length dG, .int .i64 ((rd_T32 l0 aG).f22), .string ((rd_T32 l0 aG).f23), .slice dH ((rd_T32 l0 aG).f24).length dI]] rfl Z3 ?_; (with_reducible refine (roadbookref07_Few.calls k1 ((rd_T32 l0 aG).f0) ((rd_T32 l0 aG).f1) ((rd_T32 l0 aG).f2) ((rd_T32 l0 aG).f3) ((rd_T32 l0 aG).f4) ((rd_T32 l0 aG).f5) ((rd_T32 l0 aG).f6) ((rd_T32 l0 aG).f7) ((rd_T32 l0 aG).f8) ((rd_T32 l0 aG).f9) ((rd_T32 l0 aG).f10) ((rd_T32 l0 aG).f11) ((rd_T32 l0 aG).f12) ((rd_T32 l0 aG).f13) ((rd_T32 l0 aG).f14) ((rd_T32 l0 aG).f15) ((rd_T32 l0 aG).f16) ((rd_T32 l0 aG).f17) ((rd_T32 l0 aG).f18) ((rd_T32 l0 aG).f19) ((rd_T32 l0 aG).f20) _ _ ((rd_T32 l0 aG).f21) ((rd_T32 l0 aG).f22) ((rd_T32 l0 aG).f23) _ _ ((rd_T32 l0 aG).f24) true _ ?side1 ?side2 ?side3 ?side4 A6.out).mono ?_); (case side1 => exact Z44); (case side2 => exact cY.out); (case side3 => exact Z43); (case side4 => exact cZ.out); rintro e w8 ⟨rfl, hb⟩; refine ⟨_, rfl, ?_⟩; replace HB := Aside0.mk (below_step Z2 hb); clear hb))
       go_roundg k1
       case measure => have := HK1.out; omega
       case rel => exact ⟨(wrap64 (aG + 1)), Z8, H', ⟨Z35⟩, ⟨Z2⟩⟩
      ·replace c7 := Bool.eq_false_iff.mpr c7
       subst c7
       replace H := Sq.itF H
       obtain rfl := Option.some.inj H
       have p101 : 0 ≤ (aG : Int) := of_decide_eq_true Z7
       have q101 : aG < (l0.length : Int) := of_decide_eq_true Z7
       obtain ⟨ad101, dF, dG, dH, dI, e101, hx101_0, hx101_1, hx101_2, hx101_3, hx101_4, hx101_5, hx101_6, hx101_7, hx101_8, hx101_9, hx101_10, hx101_11, hx101_12, hx101_13, hx101_14, hx101_15, hx101_16, hx101_17, hx101_18, hx101_19, hx101_20, hx101_21, hx101_22, hx101_23, hx101_24, hl101_21, hi101_21, hl101_24, hi101_24⟩ := at_T32 dv.out aG p101 q101
       cases e101
       replace hx101_0 := Sq.up HB.out hx101_0
       replace hx101_1 := Sq.up HB.out hx101_1
       replace hx101_2 := Sq.up HB.out hx101_2
       replace hx101_3 := Sq.up HB.out hx101_3
       replace hx101_4 := Sq.up HB.out hx101_4
       replace hx101_5 := Sq.up HB.out hx101_5
       replace hx101_6 := Sq.up HB.out hx101_6
       replace hx101_7 := Sq.up HB.out hx101_7
       replace hx101_8 := Sq.up HB.out hx101_8
       replace hx101_9 := Sq.up HB.out hx101_9
       replace hx101_10 := Sq.up HB.out hx101_10
       replace hx101_11 := Sq.up HB.out hx101_11
       replace hx101_12 := Sq.up HB.out hx101_12
       replace hx101_13 := Sq.up HB.out hx101_13
       replace hx101_14 := Sq.up HB.out hx101_14
       replace hx101_15 := Sq.up HB.out hx101_15
       replace hx101_16 := Sq.up HB.out hx101_16
       replace hx101_17 := Sq.up HB.out hx101_17
       replace hx101_18 := Sq.up HB.out hx101_18
       replace hx101_19 := Sq.up HB.out hx101_19
       replace hx101_20 := Sq.up HB.out hx101_20
       replace hx101_21 := Sq.up HB.out hx101_21
       replace hx101_22 := Sq.up HB.out hx101_22
       replace hx101_23 := Sq.up HB.out hx101_23
       replace hx101_24 := Sq.up HB.out hx101_24
       have dU := Aside0.mk hi101_21
       have cY := Aside0.mk hl101_21
       clear hi101_21 hl101_21
       have dV := Aside0.mk hi101_24
       have cZ := Aside0.mk hl101_24
       clear hi101_24 hl101_24
       replace p101 := eq_true p101
       replace q101 := eq_true q101
       go_wp2_with (first | ((with_reducible refine Pre.gate_load 32 rfl ?_); (try (refine gate_guard Z16 ?_; dsimp only)); refine Pre.load_event_a rfl rfl rfl Z16 Pre.range25 Tryz.underlying32 rfl Z12 ?_) | ((with_reducible refine gate_callee (f := 23) rfl ?_); refine goesL_ (some 20) rfl rfl Tryz.func23 Z12 rfl #[.agg #[.int .i64 ((rd_T32 l0 aG).f0), .int .i64 ((rd_T32 l0 aG).f1), .int .i64 ((rd_T32 l0 aG).f2), .string ((rd_T32 l0 aG).f3), .int .i64 ((rd_T32 l0 aG).f4), .int .i64 ((rd_T32 l0 aG).f5), .string ((rd_T32 l0 aG).f6), .int .i64 ((rd_T32 l0 aG).f7), .int .i64 ((rd_T32 l0 aG).f8), .string ((rd_T32 l0 aG).f9), .int .i64 ((rd_T32 l0 aG).f10), .string ((rd_T32 l0 aG).f11), .int .i64 ((rd_T32 l0 aG).f12), .int .i64 ((rd_T32 l0 aG).f13), .int .i64 ((rd_T32 l0 aG).f14), .int .i64 ((rd_T32 l0 aG).f15), .int .i64 ((rd_T32 l0 aG).f16), .int .i64 ((rd_T32 l0 aG).f17), .int .i64 ((rd_T32 l0 aG).f18), .string ((rd_T32 l0 aG).f19), .string ((rd_T32 l0 aG).f20), .slice dF ((rd_T32 l0 aG).f21).length dG, .int .i64 ((rd_T32 l0 aG).f22), .string ((rd_T32 l0 aG).f23), .slice dH ((rd_T32 l0 aG).f24).length dI]] rfl Z3 ?_; (with_reducible refine (roadbookref07_Few.calls k1 ((rd_T32 l0 aG).f0) ((rd_T32 l0 aG).f1) ((rd_T32 l0 aG).f2) ((rd_T32 l0 aG).f3) ((rd_T32 l0 aG).f4) ((rd_T32 l0 aG).f5) ((rd_T32 l0 aG).f6) ((rd_T32 l0 aG).f7) ((rd_T32 l0 aG).f8) ((rd_T32 l0 aG).f9) ((rd_T32 l0 aG).f10) ((rd_T32 l0 aG).f11) ((rd_T32 l0 aG).f12) ((rd_T32 l0 aG).f13) ((rd_T32 l0 aG).f14) ((rd_T32 l0 aG).f15) ((rd_T32 l0 aG).f16) ((rd_T32 l0 aG).f17) ((rd_T32 l0 aG).f18) ((rd_T32 l0 aG).f19) ((rd_T32 l0 aG).f20) _ _ ((rd_T32 l0 aG).f21) ((rd_T32 l0 aG).f22) ((rd_T32 l0 aG).f23) _ _ ((rd_T32 l0 aG).f24) false _ ?side1 ?side2 ?side3 ?side4 A6.out).mono ?_); (case side1 => exact Z44); (case side2 => exact cY.out); (case side3 => exact Z43); (case side4 => exact cZ.out); rintro e w9 ⟨rfl, hb⟩; refine ⟨_, rfl, ?_⟩; replace HB := Aside0.mk (below_step Z2 hb); clear hb))
       go_ret
       exact ⟨Z5, Z2⟩
     ·rw [if_neg c5] at H
      exact absurd H Z27
    ·rw [if_neg c4] at H
     have bP : decide (aG < (l0.length : Int)) = false := decide_eq_false c4
     clear c4
     obtain rfl := Option.some.inj H
     go_wp2_with (first | ((with_reducible refine Pre.gate_load 32 rfl ?_); (try (refine gate_guard Z16 ?_; dsimp only)); refine Pre.load_event_a rfl rfl rfl Z16 Pre.range25 Tryz.underlying32 rfl Z12 ?_))
     go_ret
     exact ⟨Z5, Z2⟩

/-! ### roadbookref07_dests: function 35 -/
set_option maxHeartbeats 8000000 in
set_option maxRecDepth 100000 in
/-- Of no parts alone. -/
theorem roadbookref07_dests.calls (A A' : Option Addr) (c c' : Nat) (w : World) : Calls Tryz.prog 35 #[.slice A 0 c, .slice A' 0 c'] w fun e w' => e = .returned (.bool true) ∧ Below w.heap.size w w' := by
 have HO := Bx.start w
 go_enter Tryz.func35, Tryz.ntmps35
 go_wp2
 go_loopg [5] 0 (fun kq v5 w' => v5 = .int .i64 0 ∧ Aside0 (Bx.Own w.heap.size w w' []))
 case atStart => exact ⟨rfl, HO⟩
 case round =>
  clear HO
  obtain ⟨rfl, HO⟩ := hrel
  go_wp2
  go_ret
  exact ⟨rfl, Bx.fin HO⟩

/-! ### roadbookref07_subs: function 36 -/
-- eqA 80
set_option maxHeartbeats 8000000 in
set_option maxRecDepth 100000 in
/-- Of a list and itself. -/
theorem roadbookref07_subs.calls (A A' : Option Addr) (c c' : Nat) (l : List S80) (w : World) (h0 : Kd.C k80 w A l.length l) (h1 : Kd.C k80 w A' l.length l) : Calls Tryz.prog 36 #[.slice A l.length c, .slice A' l.length c'] w fun e w' => e = .returned (.bool true) ∧ Below w.heap.size w w' := by
 have HO := Bx.start w
 have H0 := Aside0.mk h0
 have H1 := Aside0.mk h1
 have hu := Tryz.underlying80
 clear h0 h1
 go_enter Tryz.func36, Tryz.ntmps36
 go_wp2
 go_loopg [5] l.length (fun kq v5 w' => ∃ i : Int, v5 = .int .i64 i ∧ 0 ≤ i ∧ i + kq = l.length ∧ Aside0 (Bx.Own w.heap.size w w' []))
 case atStart => exact ⟨0, rfl, Int.le_refl _, Int.zero_add _, HO⟩
 case round =>
  clear HO
  obtain ⟨i, rfl, hi, hk, HO⟩ := hrel
  cases gk with
  | zero =>
   have f1 : decide (i < (l.length : Int)) = false := decide_eq_false Z23
   clear hi hk
   go_wp2
   go_ret
   exact ⟨rfl, Bx.fin HO⟩
  | succ k1 =>
   have hl := H0.out.2.1
   have q : i < (l.length : Int) := by omega
   have f1 : decide (i < (l.length : Int)) = true := decide_eq_true q
   have HB := Bx.fin HO
   obtain ⟨ad, e, x0, x1⟩ := at_T80 (Kd.C_below H0.out HB) i hi q
   cases e
   obtain ⟨ad', e, y0, y1⟩ := at_T80 (Kd.C_below H1.out HB) i hi q
   cases e
   have hw : wrap64 (i + 1) = i + 1 := by unfold wrap64; omega
   have NX := Aside0.mk (show 0 ≤ i + 1 ∧ (i + 1) + (k1 : Int) = l.length by omega)
   have q1 := eq_true hi
   have q2 := eq_true q
   clear hi q hk hl HB
   go_wp2
   repeat (go_quiet (fail); try go_wp2)
   try rw [hw]
   go_roundg k1
   case measure => omega
   case rel => exact ⟨i + 1, by first | rfl | rw [hw], NX.out.1, NX.out.2, ⟨(by first | exact Bx.fin HO | exact Bx.fin (Bx.dr HO ⟨⟨_, rfl⟩⟩) | exact Bx.fin (Bx.dr HO ⟨_, rfl⟩)), Nat.le_refl _, fun _ h => absurd h Z27, List.Pairwise.nil⟩⟩

/-! ### roadbookref07_Same: function 19 -/
set_option maxHeartbeats 8000000 in
set_option maxRecDepth 100000 in
/-- Of a message that leads to no destinations, and itself. -/
theorem roadbookref07_Same.callsE (a0 : Int) (a1 : Int) (a2 : Int) (a3 : ByteArray) (a4 : Int) (a5 : Int) (a6 : ByteArray) (a7 : Int) (a8 : Int) (a9 : ByteArray) (dc : Int) (dd : ByteArray) (de : Int) (df : Int) (dg : Int) (dh : Int) (di : Int) (dj : Int) (dk : Int) (dl : ByteArray) (dm : ByteArray) (dp : Int) (dq : ByteArray) (aJ : Option Addr) (aK : Nat) (aH : Option Addr) (aI : Nat) (A1_21 : Option Addr) (c1_21 : Nat) (A1_24 : Option Addr) (c1_24 : Nat) (l : List S80) (w : World) (h0 : Kd.C k80 w aH l.length l) (h1 : Kd.C k80 w A1_24 l.length l) : Calls Tryz.prog 19 #[.agg #[.int .i64 a0, .int .i64 a1, .int .i64 a2, .string a3, .int .i64 a4, .int .i64 a5, .string a6, .int .i64 a7, .int .i64 a8, .string a9, .int .i64 dc, .string dd, .int .i64 de, .int .i64 df, .int .i64 dg, .int .i64 dh, .int .i64 di, .int .i64 dj, .int .i64 dk, .string dl, .string dm, .slice aJ 0 aK, .int .i64 dp, .string dq, .slice aH l.length aI], .agg #[.int .i64 a0, .int .i64 a1, .int .i64 a2, .string a3, .int .i64 a4, .int .i64 a5, .string a6, .int .i64 a7, .int .i64 a8, .string a9, .int .i64 dc, .string dd, .int .i64 de, .int .i64 df, .int .i64 dg, .int .i64 dh, .int .i64 di, .int .i64 dj, .int .i64 dk, .string dl, .string dm, .slice A1_21 0 c1_21, .int .i64 dp, .string dq, .slice A1_24 l.length c1_24]] w fun e w' => e = .returned (.bool true) ∧ Below w.heap.size w w' := by
 have HO := Bx.start w
 have H0 := Aside0.mk h0
 have H1 := Aside0.mk h1
 clear h0 h1
 have dP := Tryz.underlying32
 go_enter Tryz.func19, Tryz.ntmps19
 go_upto_region 1 with (first | ((with_reducible refine gate_dst (N := 2) rfl ?_); refine Bx.mk 2 #[.int .i64 a0, .int .i64 a1, .int .i64 a2, .string a3, .int .i64 a4, .int .i64 a5, .string a6, .int .i64 a7, .int .i64 a8, .string a9, .int .i64 dc, .string dd, .int .i64 de, .int .i64 df, .int .i64 dg, .int .i64 dh, .int .i64 di, .int .i64 dj, .int .i64 dk, .string dl, .string dm, .slice aJ 0 aK, .int .i64 dp, .string dq, .slice aH l.length aI] 32 HO ?_; clear HO; intro g2 w2 HO) | ((with_reducible refine gate_dst (N := 3) rfl ?_); refine Bx.mk 3 #[.int .i64 a0, .int .i64 a1, .int .i64 a2, .string a3, .int .i64 a4, .int .i64 a5, .string a6, .int .i64 a7, .int .i64 a8, .string a9, .int .i64 dc, .string dd, .int .i64 de, .int .i64 df, .int .i64 dg, .int .i64 dh, .int .i64 di, .int .i64 dj, .int .i64 dk, .string dl, .string dm, .slice A1_21 0 c1_21, .int .i64 dp, .string dq, .slice A1_24 l.length c1_24] 32 HO ?_; clear HO; intro g3 w3 HO))
 refine wp_region_lit ?_
 simp only [List.append]
 go_upto_region 3 with (first | ((with_reducible refine Pre.gate_load 3 rfl ?_); (try (refine gate_guard Z16 ?_; dsimp only)); refine Bx.ld HO Tryz.underlying3 ?_) | ((with_reducible refine Pre.gate_load 9 rfl ?_); (try (refine gate_guard Z16 ?_; dsimp only)); refine Bx.ld HO Tryz.underlying9 ?_))
 refine wp_region_lit ?_
 simp only [List.append]
 go_wp2_with (first | ((with_reducible refine Pre.gate_load 3 rfl ?_); (try (refine gate_guard Z16 ?_; dsimp only)); refine Bx.ld HO Tryz.underlying3 ?_) | ((with_reducible refine Pre.gate_load 9 rfl ?_); (try (refine gate_guard Z16 ?_; dsimp only)); refine Bx.ld HO Tryz.underlying9 ?_) | ((with_reducible refine Pre.gate_load 29 rfl ?_); (try (refine gate_guard Z16 ?_; dsimp only)); refine Bx.ld HO Tryz.underlying29 ?_) | ((with_reducible refine Pre.gate_load 30 rfl ?_); (try (refine gate_guard Z16 ?_; dsimp only)); refine Bx.ld HO Tryz.underlying30 ?_) | ((with_reducible refine gate_callee (f := 35) rfl ?_); refine goesL_ (some 166) rfl rfl Tryz.func35 Z12 rfl #[.slice aJ 0 aK, .slice A1_21 0 c1_21] rfl (by (try simp only [List.map_toArray, List.map_cons, List.map_nil]); first | done | rfl) ?_; (with_reducible refine (roadbookref07_dests.calls aJ A1_21 aK c1_21 _).mono ?_); rintro e w8 ⟨rfl, hb⟩; refine ⟨_, rfl, ?_⟩; replace HO := Bx.stp HO hb; clear hb) | ((with_reducible refine gate_callee (f := 36) rfl ?_); (refine gate_guard Z16 ?_; dsimp only); refine goesL_ (some 172) rfl rfl Tryz.func36 Z12 rfl #[.slice aH l.length aI, .slice A1_24 l.length c1_24] rfl (by (try simp only [List.map_toArray, List.map_cons, List.map_nil]); first | done | rfl) ?_; (with_reducible refine (roadbookref07_subs.calls aH A1_24 aI c1_24 l _ (Kd.C_below H0.out (Bx.fin HO)) (Kd.C_below H1.out (Bx.fin HO))).mono ?_); rintro e w8 ⟨rfl, hb⟩; refine ⟨_, rfl, ?_⟩; replace HO := Bx.stp HO hb; clear hb))
 go_ret
 exact ⟨rfl, Bx.fin HO⟩
/-- Of a message that leads to no row, and itself. -/
theorem roadbookref07_Same.calls (a0 : Int) (a1 : Int) (a2 : Int) (a3 : ByteArray) (a4 : Int) (a5 : Int) (a6 : ByteArray) (a7 : Int) (a8 : Int) (a9 : ByteArray) (dc : Int) (dd : ByteArray) (de : Int) (df : Int) (dg : Int) (dh : Int) (di : Int) (dj : Int) (dk : Int) (dl : ByteArray) (dm : ByteArray) (dp : Int) (dq : ByteArray) (aJ : Option Addr) (aK : Nat) (aH : Option Addr) (aI : Nat) (A1_21 : Option Addr) (c1_21 : Nat) (A1_24 : Option Addr) (c1_24 : Nat) (w : World) : Calls Tryz.prog 19 #[.agg #[.int .i64 a0, .int .i64 a1, .int .i64 a2, .string a3, .int .i64 a4, .int .i64 a5, .string a6, .int .i64 a7, .int .i64 a8, .string a9, .int .i64 dc, .string dd, .int .i64 de, .int .i64 df, .int .i64 dg, .int .i64 dh, .int .i64 di, .int .i64 dj, .int .i64 dk, .string dl, .string dm, .slice aJ 0 aK, .int .i64 dp, .string dq, .slice aH 0 aI], .agg #[.int .i64 a0, .int .i64 a1, .int .i64 a2, .string a3, .int .i64 a4, .int .i64 a5, .string a6, .int .i64 a7, .int .i64 a8, .string a9, .int .i64 dc, .string dd, .int .i64 de, .int .i64 df, .int .i64 dg, .int .i64 dh, .int .i64 di, .int .i64 dj, .int .i64 dk, .string dl, .string dm, .slice A1_21 0 c1_21, .int .i64 dp, .string dq, .slice A1_24 0 c1_24]] w fun e w' => e = .returned (.bool true) ∧ Below w.heap.size w w' := roadbookref07_Same.callsE a0 a1 a2 a3 a4 a5 a6 a7 a8 a9 dc dd de df dg dh di dj dk dl dm dp dq aJ aK aH aI A1_21 c1_21 A1_24 c1_24 [] w ⟨rfl, Nat.zero_le _, fun h => absurd h (Nat.lt_irrefl 0)⟩ ⟨rfl, Nat.zero_le _, fun h => absurd h (Nat.lt_irrefl 0)⟩

/-! ### roadbookref07_SameAll: function 14 -/
/-- Of two lists of one message, which is the same and leads to no row. -/
def roadbookref07_SameAll.f (l0 l1 : List S32) : Option Bool := if l0.length = 1 ∧ l1.length = 1 ∧ (rd_T32 l0 0).f21.isEmpty = true ∧ (rd_T32 l1 0).f21.isEmpty = true ∧ (rd_T32 l0 0).f24.isEmpty = true ∧ (rd_T32 l1 0).f24.isEmpty = true ∧ (rd_T32 l0 0).f0 = (rd_T32 l1 0).f0 ∧ (rd_T32 l0 0).f1 = (rd_T32 l1 0).f1 ∧ (rd_T32 l0 0).f2 = (rd_T32 l1 0).f2 ∧ (rd_T32 l0 0).f3 = (rd_T32 l1 0).f3 ∧ (rd_T32 l0 0).f4 = (rd_T32 l1 0).f4 ∧ (rd_T32 l0 0).f5 = (rd_T32 l1 0).f5 ∧ (rd_T32 l0 0).f6 = (rd_T32 l1 0).f6 ∧ (rd_T32 l0 0).f7 = (rd_T32 l1 0).f7 ∧ (rd_T32 l0 0).f8 = (rd_T32 l1 0).f8 ∧ (rd_T32 l0 0).f9 = (rd_T32 l1 0).f9 ∧ (rd_T32 l0 0).f10 = (rd_T32 l1 0).f10 ∧ (rd_T32 l0 0).f11 = (rd_T32 l1 0).f11 ∧ (rd_T32 l0 0).f12 = (rd_T32 l1 0).f12 ∧ (rd_T32 l0 0).f13 = (rd_T32 l1 0).f13 ∧ (rd_T32 l0 0).f14 = (rd_T32 l1 0).f14 ∧ (rd_T32 l0 0).f15 = (rd_T32 l1 0).f15 ∧ (rd_T32 l0 0).f16 = (rd_T32 l1 0).f16 ∧ (rd_T32 l0 0).f17 = (rd_T32 l1 0).f17 ∧ (rd_T32 l0 0).f18 = (rd_T32 l1 0).f18 ∧ (rd_T32 l0 0).f19 = (rd_T32 l1 0).f19 ∧ (rd_T32 l0 0).f20 = (rd_T32 l1 0).f20 ∧ (rd_T32 l0 0).f22 = (rd_T32 l1 0).f22 ∧ (rd_T32 l0 0).f23 = (rd_T32 l1 0).f23 then some true else none
def roadbookref07_SameAll.T6 : Bool × List (List Nat × List Nat) := (true, [([], []), ([], []), ([0, 1], [0, 1]), ([2], [2]), ([], []), ([], []), ([4, 5], [4, 5]), ([6], [6]), ([3, 7], [3, 7]), ([8], [8])])
def roadbookref07_SameAll.B6 : List Nat := [0, 0, 3, 7, 0, 0, 48, 112, 255, 511]
theorem roadbookref07_SameAll.tab6 : rtab .any (opsOf Tryz.f14 6) = roadbookref07_SameAll.T6 := by kernel_rfl
theorem roadbookref07_SameAll.bits6 : waitsOk roadbookref07_SameAll.T6.2 roadbookref07_SameAll.B6 = true := by kernel_rfl
theorem roadbookref07_SameAll.one {x y : S32} (h0 : x.f21 = []) (h1 : y.f21 = []) (h2 : x.f24 = []) (h3 : y.f24 = []) (h : x.f0 = y.f0 ∧ x.f1 = y.f1 ∧ x.f2 = y.f2 ∧ x.f3 = y.f3 ∧ x.f4 = y.f4 ∧ x.f5 = y.f5 ∧ x.f6 = y.f6 ∧ x.f7 = y.f7 ∧ x.f8 = y.f8 ∧ x.f9 = y.f9 ∧ x.f10 = y.f10 ∧ x.f11 = y.f11 ∧ x.f12 = y.f12 ∧ x.f13 = y.f13 ∧ x.f14 = y.f14 ∧ x.f15 = y.f15 ∧ x.f16 = y.f16 ∧ x.f17 = y.f17 ∧ x.f18 = y.f18 ∧ x.f19 = y.f19 ∧ x.f20 = y.f20 ∧ x.f22 = y.f22 ∧ x.f23 = y.f23) : x = y := by
 cases x
 cases y
 simp only at h0 h1 h2 h3 h
 obtain ⟨rfl, rfl, rfl, rfl, rfl, rfl, rfl, rfl, rfl, rfl, rfl, rfl, rfl, rfl, rfl, rfl, rfl, rfl, rfl, rfl, rfl, rfl, rfl⟩ := h
 subst h0 h1 h2 h3
 rfl
set_option maxHeartbeats 8000000 in
set_option maxRecDepth 100000 in
theorem roadbookref07_SameAll.calls (A0 : Option Addr) (c0 : Nat) (l0 : List S32) (A1 : Option Addr) (c1 : Nat) (l1 : List S32) (r : Bool) (w : World) (du : Kd.C k32 w A0 l0.length l0) (cO : l0.length ≤ c0) (fv : Kd.C k32 w A1 l1.length l1) (fw : l1.length ≤ c1) (h : roadbookref07_SameAll.f l0 l1 = some r) :
  Calls Tryz.prog 14 #[.slice A0 l0.length c0, .slice A1 l1.length c1] w fun e w' => e = .returned (.bool r) ∧ Below w.heap.size w w' := by
 unfold roadbookref07_SameAll.f at h
 split at h
 rotate_left
 ·cases h
 next c =>
 obtain rfl := Option.some.inj h
 obtain ⟨n0, n1, e0, e1, e2, e3, e⟩ := c
 have hE := roadbookref07_SameAll.one (List.isEmpty_iff.mp e0) (List.isEmpty_iff.mp e1) (List.isEmpty_iff.mp e2) (List.isEmpty_iff.mp e3) e
 have E := Aside0.mk (And.intro hE (And.intro (List.isEmpty_iff.mp e0) (List.isEmpty_iff.mp e2)))
 have N0 := Aside0.mk n0
 have N1 := Aside0.mk n1
 have f0 : ((l0.length : Int) != (l1.length : Int)) = false := by rw [n0, n1]; rfl
 have dv := Aside0.mk du
 have gX := Aside0.mk fv
 have HO := Bx.start w
 have hu := Tryz.underlying32
 clear h n0 n1 e0 e1 e2 e3 e hE du fv cO fw
 go_enter Tryz.func14, Tryz.ntmps14
 go_wp2
 go_loopg [5] 1 (fun kq v5 w' => ∃ x : Int, v5 = .int .i64 x ∧ Aside0 (x = 0 ∧ kq = 1 ∨ x = 1 ∧ kq = 0) ∧ Aside0 (Bx.Own w.heap.size w w' []))
 case atStart => exact ⟨0, rfl, ⟨.inl ⟨rfl, rfl⟩⟩, HO⟩
 case round =>
 clear HO
 obtain ⟨x, rfl, HA, HO⟩ := hrel
 rcases HA.out with ⟨ex, ek⟩ | ⟨ex, ek⟩
 rotate_left
 ·have f1 : decide (x < (l0.length : Int)) = false := decide_eq_false (by rw [N0.out, ex]; decide)
  clear ex ek
  go_wp2
  go_ret
  exact ⟨rfl, Bx.fin HO⟩
 have p : 0 ≤ x := by omega
 have q : x < (l0.length : Int) := by rw [N0.out]; omega
 have q1 : x < (l1.length : Int) := by rw [N1.out]; omega
 have f1 : decide (x < (l0.length : Int)) = true := decide_eq_true q
 have EX := Aside0.mk (And.intro ex ek)
 obtain ⟨hE, h21, h24⟩ := E.out
 rw [← ex] at hE h21 h24
 obtain ⟨ad, aJ, aK, aH, aI, ea, hx0, hx1, hx2, hx3, hx4, hx5, hx6, hx7, hx8, hx9, hx10, hx11, hx12, hx13, hx14, hx15, hx16, hx17, hx18, hx19, hx20, hx21, hx22, hx23, hx24, -, -, -, -⟩ := at_T32 dv.out x p q
 cases ea
 obtain ⟨ae, A1_21, c1_21, A1_24, c1_24, ea, hy0, hy1, hy2, hy3, hy4, hy5, hy6, hy7, hy8, hy9, hy10, hy11, hy12, hy13, hy14, hy15, hy16, hy17, hy18, hy19, hy20, hy21, hy22, hy23, hy24, -, -, -, -⟩ := at_T32 gX.out x p q1
 cases ea
 rw [← hE] at hy0 hy1 hy2 hy3 hy4 hy5 hy6 hy7 hy8 hy9 hy10 hy11 hy12 hy13 hy14 hy15 hy16 hy17 hy18 hy19 hy20 hy21 hy22 hy23 hy24
 rw [h21, List.length_nil] at hx21 hy21
 rw [h24, List.length_nil] at hx24 hy24
 have HX := Aside0.mk (show ∀ j v, ([.int .i64 (rd_T32 l0 x).f0, .int .i64 (rd_T32 l0 x).f1, .int .i64 (rd_T32 l0 x).f2, .string (rd_T32 l0 x).f3, .int .i64 (rd_T32 l0 x).f4, .int .i64 (rd_T32 l0 x).f5, .string (rd_T32 l0 x).f6, .int .i64 (rd_T32 l0 x).f7, .int .i64 (rd_T32 l0 x).f8, .string (rd_T32 l0 x).f9, .int .i64 (rd_T32 l0 x).f10, .string (rd_T32 l0 x).f11, .int .i64 (rd_T32 l0 x).f12, .int .i64 (rd_T32 l0 x).f13, .int .i64 (rd_T32 l0 x).f14, .int .i64 (rd_T32 l0 x).f15, .int .i64 (rd_T32 l0 x).f16, .int .i64 (rd_T32 l0 x).f17, .int .i64 (rd_T32 l0 x).f18, .string (rd_T32 l0 x).f19, .string (rd_T32 l0 x).f20, .slice aJ 0 aK, .int .i64 (rd_T32 l0 x).f22, .string (rd_T32 l0 x).f23, .slice aH 0 aI] : List Value)[j]? = some v → w.cell? ((ad.add (x.toNat * 25)).add j) = some v from Pre.range25)
 have HY := Aside0.mk (show ∀ j v, ([.int .i64 (rd_T32 l0 x).f0, .int .i64 (rd_T32 l0 x).f1, .int .i64 (rd_T32 l0 x).f2, .string (rd_T32 l0 x).f3, .int .i64 (rd_T32 l0 x).f4, .int .i64 (rd_T32 l0 x).f5, .string (rd_T32 l0 x).f6, .int .i64 (rd_T32 l0 x).f7, .int .i64 (rd_T32 l0 x).f8, .string (rd_T32 l0 x).f9, .int .i64 (rd_T32 l0 x).f10, .string (rd_T32 l0 x).f11, .int .i64 (rd_T32 l0 x).f12, .int .i64 (rd_T32 l0 x).f13, .int .i64 (rd_T32 l0 x).f14, .int .i64 (rd_T32 l0 x).f15, .int .i64 (rd_T32 l0 x).f16, .int .i64 (rd_T32 l0 x).f17, .int .i64 (rd_T32 l0 x).f18, .string (rd_T32 l0 x).f19, .string (rd_T32 l0 x).f20, .slice A1_21 0 c1_21, .int .i64 (rd_T32 l0 x).f22, .string (rd_T32 l0 x).f23, .slice A1_24 0 c1_24] : List Value)[j]? = some v → w.cell? ((ae.add (x.toNat * 25)).add j) = some v from Pre.range25)
 clear hx0 hx1 hx2 hx3 hx4 hx5 hx6 hx7 hx8 hx9 hx10 hx11 hx12 hx13 hx14 hx15 hx16 hx17 hx18 hx19 hx20 hx21 hx22 hx23 hx24 hy0 hy1 hy2 hy3 hy4 hy5 hy6 hy7 hy8 hy9 hy10 hy11 hy12 hy13 hy14 hy15 hy16 hy17 hy18 hy19 hy20 hy21 hy22 hy23 hy24 hE h21 h24 ex ek
 generalize rd_T32 l0 x = M at HX HY
 obtain ⟨a0, a1, a2, a3, a4, a5, a6, a7, a8, a9, dc, dd, de, df, dg, dh, di, dj, dk, dl, dm, dn, dp, dq, dr⟩ := M
 dsimp only at HX HY
 replace p := eq_true p
 replace q := eq_true q
 replace q1 := eq_true q1
 go_upto_region 6 with fail
 refine Bx.rgoS (Sq.b 10 0) [] (fun v => Below w.heap.size w v) roadbookref07_SameAll.tab6 roadbookref07_SameAll.bits6 HO ?_ (fun v h => h.below)
 clear HO
 intro w9 HO HS HT_ HW_
 refine Sq.pur 0 (some 17) (Sq.b 10 1) HT_.out ?_
 refine Sq.pur 1 (some 18) (Sq.b 10 3) HT_.out ?_
 refine Sq.pur 2 (some 19) (Sq.b 10 7) HT_.out ?_
 refine Bx.rldA 3 20 (Sq.b 10 15) HT_ HW_ HS (fun v hv j u e => (hv.cell (World.block_lt_of_cell? w _ (HX.out j u e))).trans (HX.out j u e)) Tryz.underlying32 ?_
 refine Sq.pur 4 (some 21) (Sq.b 10 31) HT_.out ?_
 refine Sq.pur 5 (some 22) (Sq.b 10 63) HT_.out ?_
 refine Sq.pur 6 (some 23) (Sq.b 10 127) HT_.out ?_
 refine Bx.rldA 7 24 (Sq.b 10 255) HT_ HW_ HS (fun v hv j u e => (hv.cell (World.block_lt_of_cell? w _ (HY.out j u e))).trans (HY.out j u e)) Tryz.underlying32 ?_
 refine one_ (i := 8) (N := some 25) (Sq.b 10 511) rfl rfl (one_of HT_.out Z12) Z34 (fun K hK => ?_)
 refine goes_ Tryz.func19 Z12 rfl #[.agg #[.int .i64 a0, .int .i64 a1, .int .i64 a2, .string a3, .int .i64 a4, .int .i64 a5, .string a6, .int .i64 a7, .int .i64 a8, .string a9, .int .i64 dc, .string dd, .int .i64 de, .int .i64 df, .int .i64 dg, .int .i64 dh, .int .i64 di, .int .i64 dj, .int .i64 dk, .string dl, .string dm, .slice aJ 0 aK, .int .i64 dp, .string dq, .slice aH 0 aI], .agg #[.int .i64 a0, .int .i64 a1, .int .i64 a2, .string a3, .int .i64 a4, .int .i64 a5, .string a6, .int .i64 a7, .int .i64 a8, .string a9, .int .i64 dc, .string dd, .int .i64 de, .int .i64 df, .int .i64 dg, .int .i64 dh, .int .i64 di, .int .i64 dj, .int .i64 dk, .string dl, .string dm, .slice A1_21 0 c1_21, .int .i64 dp, .string dq, .slice A1_24 0 c1_24]] Z16 rfl rfl (by (try simp only [List.map_toArray, List.map_cons, List.map_nil]); first | done | rfl) ?_
 with_reducible refine (roadbookref07_Same.calls a0 a1 a2 a3 a4 a5 a6 a7 a8 a9 dc dd de df dg dh di dj dk dl dm dp dq aJ aK aH aI A1_21 c1_21 A1_24 c1_24 _).mono ?_
 rintro e w9 ⟨rfl, hb⟩
 refine ⟨_, rfl, ?_⟩
 replace HO := Bx.stp HO hb; clear hb
 refine hK.out _ _ HO.out.below (fun _ => ?_)
 clear hK K
 refine norm_ (a' := ?_) ?_ ?_
 rotate_left
 ·show Act.put _ (some 25) _ = _
  simp only [Act.put, Sq.s1, Sq.s2, Sq.s3, i64_w, i32_w]
  rfl
 refine Sq.pur 9 (some 26) (Sq.b 10 1023) HT_.out ?_
 refine done_ (done_of HT_.out Z12) ?_
 go_wp2
 go_roundg 0
 case measure => have := EX.out.2; omega
 case rel => exact ⟨wrap64 (x + 1), rfl, ⟨.inr ⟨by rw [EX.out.1]; kernel_rfl, rfl⟩⟩, HO⟩

/-! ### roadbookref07_Bytes: function 138 -/
def roadbookref07_Bytes.l0 : Nat → List (S80) → Int → Int → Option (Int)
 | 0, _, _, _ => none
 | k + 1, x0, x3, x4 => if x4 < (x0.length : Int) then (if 0 ≤ x4 then (roadbookref07_Bytes.l0 k x0 (wrap64 ((wrap64 (x3 + 2)) + (((rd_T80 x0 x4).f1).size : Int))) (wrap64 (x4 + 1))) else (none)) else (some x3)
def roadbookref07_Bytes.f (k : Nat) (l0 : List (S80)) : Option (Int) := roadbookref07_Bytes.l0 k l0 0 0
theorem roadbookref07_Bytes.mono_l : ∀ k, (∀ y0 y1 y2, LeO (roadbookref07_Bytes.l0 k y0 y1 y2) (roadbookref07_Bytes.l0 (k + 1) y0 y1 y2))
 | 0 => Sq.mz
 | k + 1 => by
  have ih0 := roadbookref07_Bytes.mono_l k
  ·intros
   unfold roadbookref07_Bytes.l0
   exact Sq.mo
theorem roadbookref07_Bytes.mono : ∀ a0 k, LeO (roadbookref07_Bytes.f k a0) (roadbookref07_Bytes.f (k + 1) a0) := by
 intro a0 k
 have ih0 := roadbookref07_Bytes.mono_l k
 unfold roadbookref07_Bytes.f
 exact Sq.mo
set_option maxHeartbeats 8000000 in
set_option maxRecDepth 100000 in
theorem roadbookref07_Bytes.calls (k : Nat) (A0 : Option Addr) (c0 : Nat) (l0 : List (S80)) (r : Int) (w : World) (du : Kd.C k80 w A0 l0.length l0) (cO : l0.length ≤ c0) (h : roadbookref07_Bytes.f k l0 = some r) :
  Calls Tryz.prog 138 #[.slice A0 l0.length c0] w fun e w' => e = .returned (.int .i64 r) ∧ Drawn0 w w' := by
 have dv := Aside0.mk du
 have eC := Aside0.mk cO
 clear du cO
 have H : (roadbookref07_Bytes.l0 k l0 0 0) = some r := h
 clear h
 have H' := Aside0.mk H
 clear H
 go_enter Tryz.func138, Tryz.ntmps138
 go_wp2
 go_loopg [3, 4] k (fun kq v3 v4 w' => ∃ (dB : Int) (dR : Int), v3 = .int .i64 dB ∧ v4 = .int .i64 dR ∧ Aside0 (roadbookref07_Bytes.l0 kq l0 dB dR = some r) ∧ Aside0 (kq ≤ k) ∧ Drawn0 w w')
 case atStart => exact ⟨(0), (0), Z8, Z8, H', ⟨Nat.le_refl _⟩, Z11⟩
 case round =>
  clear H'
  try clear c1
  obtain ⟨dB, dR, rfl, rfl, HA, HK1, ⟨m1, rfl⟩⟩ := hrel
  cases gk with
  | zero => exact absurd HA.out (by simp [roadbookref07_Bytes.l0])
  | succ k1 =>
   have H := HA.out
   clear HA
   simp only [roadbookref07_Bytes.l0] at H
   by_cases c2 : dR < (l0.length : Int)
   ·rw [if_pos c2] at H
    have cK : decide (dR < (l0.length : Int)) = true := decide_eq_true c2
    clear c2
    by_cases c3 : 0 ≤ dR
    ·rw [if_pos c3] at H
     have bU : decide (0 ≤ dR) = true := decide_eq_true c3
     clear c3
     have H' := Aside0.mk H
     clear H
     have p101 : 0 ≤ (dR : Int) := of_decide_eq_true Z7
     have q101 : dR < (l0.length : Int) := of_decide_eq_true Z7
     obtain ⟨ad101, e101, hx101_0, hx101_1⟩ := at_T80 dv.out dR p101 q101
     cases e101
     replace p101 := eq_true p101
     replace q101 := eq_true q101
     go_wp2
     go_roundg k1
     case measure => have := HK1.out; omega
     case rel => exact ⟨(wrap64 ((wrap64 (dB + 2)) + (((rd_T80 l0 dR).f1).size : Int))), (wrap64 (dR + 1)), Z8, Z8, H', ⟨Z35⟩, Z11⟩
    ·rw [if_neg c3] at H
     exact absurd H Z27
   ·rw [if_neg c2] at H
    have cK : decide (dR < (l0.length : Int)) = false := decide_eq_false c2
    clear c2
    obtain rfl := Option.some.inj H
    go_wp2
    go_ret
    exact ⟨Z8, Z11⟩

end Go.Proofs.YtnllanjoebjeiaaGreat.PV
