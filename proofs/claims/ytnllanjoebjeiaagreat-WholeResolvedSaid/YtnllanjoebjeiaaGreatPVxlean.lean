-- Written by mp.py, a program of this work (wip/tools), out of the translation; Lean checks it.
import Derived.Test.YtnllanjoebjeiaaGreatPVxZ
import Derived.Test.YtnllanjoebjeiaaGreatPVxaddr
import Derived.Test.YtnllanjoebjeiaaGreatPVxctxRight
import Derived.Test.YtnllanjoebjeiaaGreatPVxfieldPut
import Derived.Test.YtnllanjoebjeiaaGreatPVxfieldRight
import Derived.Test.YtnllanjoebjeiaaGreatPVxfieldwritertwo
import Derived.Test.YtnllanjoebjeiaaGreatPVxframe
import Derived.Test.YtnllanjoebjeiaaGreatPVxmsgBare
import Derived.Test.YtnllanjoebjeiaaGreatPVxprefix
import Derived.Test.YtnllanjoebjeiaaGreatPVxroutePut
import Derived.Test.YtnllanjoebjeiaaGreatPVxrouteRight
import Derived.Test.YtnllanjoebjeiaaGreatPVxsub
import Derived.Test.YtnllanjoebjeiaaGreatStore
namespace Go.Proofs.YtnllanjoebjeiaaGreat.PV
open Go.RowKit Go.Proofs.YtnllanjoebjeiaaGreatW.PrintWords Go.Proofs.YtnllanjoebjeiaaGreatW.PrintLast Go.Proofs.YtnllanjoebjeiaaGreatW.PrintMore
attribute [local go_sem] max2_int min2_int max_two min_two max_three min_three max_four min_four   -- for this text's walks alone
set_option linter.unusedVariables false
set_option linter.unusedSimpArgs false

/-! ### lean_Right: function 29 -/
def lean_Right.j0 : Nat → Int → Bool → Int → Int → Int → ByteArray → Int → Int → ByteArray → Int → Int → ByteArray → Int → ByteArray → Int → Int → Int → Int → Int → Int → Int → ByteArray → ByteArray → List (S78) → Int → ByteArray → List (S80) → Option (Bool)
 | 0, _, _, _, _, _, _, _, _, _, _, _, _, _, _, _, _, _, _, _, _, _, _, _, _, _, _, _ => none
 | k + 1, x4, x9, aQ, bo, bp, bq, br, aU, bs, bu, bv, aV, bf, aW, bg, bw, bm, bh, bi, bx, bA, bn, bB, bj, aZ, bk, bb => if x9 = true then ((route_Right.f k aQ bo bp bq br aU bs bu bv aV bf aW bg bw bm bh bi bx bA bn bB bj aZ bk bb).bind fun bK => (some bK)) else (if x4 = 14 then ((msg_Bare.f aQ bo bp bq br aU bs bu bv aV bf aW bg bw bm bh bi bx bA bn bB bj aZ bk bb).bind fun bQ => (if bQ = true then (if aZ > 10 then (if aZ < 256 then (some (decide ((bk.size : Int) < 256))) else (some false)) else (some false)) else (some false))) else ((field_Right.f k aQ bo bp bq br aU bs bu bv aV bf aW bg bw bm bh bi bx bA bn bB bj aZ bk bb).bind fun ch => (some ch)))
def lean_Right.f (k : Nat) (ar : Int) (aC : Int) (az : Int) (ay : ByteArray) (aA : Int) (au : Int) (aw : ByteArray) (av : Int) (aD : Int) (ax : ByteArray) (am : Int) (ag : ByteArray) (ac : Int) (aq : Int) (ab : Int) (ao : Int) (ak : Int) (ai : Int) (ae : Int) (ah : ByteArray) (ap : ByteArray) (aa : List (S78)) (aj : Int) (al : ByteArray) (af : List (S80)) : Option (Bool) := if ar = 11 then ((ctx_Right.f k ar aC az ay aA au aw av aD ax am ag ac aq ab ao ak ai ae ah ap aa aj al af).bind fun bl => (some bl)) else (if ar = 12 then (lean_Right.j0 k ar (ar == 12) ar aC az ay aA au aw av aD ax am ag ac aq ab ao ak ai ae ah ap aa aj al af) else (lean_Right.j0 k ar (ar == 13) ar aC az ay aA au aw av aD ax am ag ac aq ab ao ak ai ae ah ap aa aj al af))
theorem lean_Right.mono_l : ∀ k, (∀ y0 y1 y2 y3 y4 y5 y6 y7 y8 y9 cn cp cq cr ct cu cv cw cx cy cA cB cC cD cE cF eL, LeO (lean_Right.j0 k y0 y1 y2 y3 y4 y5 y6 y7 y8 y9 cn cp cq cr ct cu cv cw cx cy cA cB cC cD cE cF eL) (lean_Right.j0 (k + 1) y0 y1 y2 y3 y4 y5 y6 y7 y8 y9 cn cp cq cr ct cu cv cw cx cy cA cB cC cD cE cF eL))
 | 0 => Sq.mz
 | k + 1 => by
  have ih0 := lean_Right.mono_l k
  ·intros
   unfold lean_Right.j0
   have m0 := ctx_Right.mono
   have m1 := field_Right.mono
   have m2 := route_Right.mono
   exact Sq.mo
theorem lean_Right.mono : ∀ a0 a1 a2 a3 a4 a5 a6 a7 a8 a9 dc dd de df dg dh di dj dk dl dm dn dp dq dr k, LeO (lean_Right.f k a0 a1 a2 a3 a4 a5 a6 a7 a8 a9 dc dd de df dg dh di dj dk dl dm dn dp dq dr) (lean_Right.f (k + 1) a0 a1 a2 a3 a4 a5 a6 a7 a8 a9 dc dd de df dg dh di dj dk dl dm dn dp dq dr) := by
 intro a0 a1 a2 a3 a4 a5 a6 a7 a8 a9 dc dd de df dg dh di dj dk dl dm dn dp dq dr k
 have ih0 := lean_Right.mono_l k
 unfold lean_Right.f
 have m0 := ctx_Right.mono
 have m1 := field_Right.mono
 have m2 := route_Right.mono
 exact Sq.mo

set_option maxHeartbeats 8000000 in
set_option maxRecDepth 100000 in
theorem lean_Right.calls (k : Nat) (ar : Int) (aC : Int) (az : Int) (ay : ByteArray) (aA : Int) (au : Int) (aw : ByteArray) (av : Int) (aD : Int) (ax : ByteArray) (am : Int) (ag : ByteArray) (ac : Int) (aq : Int) (ab : Int) (ao : Int) (ak : Int) (ai : Int) (ae : Int) (ah : ByteArray) (ap : ByteArray) (aJ : Option Addr) (aK : Nat) (aa : List (S78)) (aj : Int) (al : ByteArray) (aH : Option Addr) (aI : Nat) (af : List (S80)) (r : Bool) (w : World) (bD : Kd.C k78 w aJ aa.length aa) (bE : aa.length ≤ aK) (bF : Kd.C k80 w aH af.length af) (bG : af.length ≤ aI) (h : lean_Right.f k ar aC az ay aA au aw av aD ax am ag ac aq ab ao ak ai ae ah ap aa aj al af = some r) :
  Calls Tryz.prog 29 #[.agg #[.int .i64 ar, .int .i64 aC, .int .i64 az, .string ay, .int .i64 aA, .int .i64 au, .string aw, .int .i64 av, .int .i64 aD, .string ax, .int .i64 am, .string ag, .int .i64 ac, .int .i64 aq, .int .i64 ab, .int .i64 ao, .int .i64 ak, .int .i64 ai, .int .i64 ae, .string ah, .string ap, .slice aJ aa.length aK, .int .i64 aj, .string al, .slice aH af.length aI]] w fun e w' => e = .returned (.bool r) ∧ Below w.heap.size w w' := by
 have dP := Tryz.underlying32
 have bY := Aside0.mk bD
 have bH := Aside0.mk bE
 clear bD bE
 have bZ := Aside0.mk bF
 have aT := Aside0.mk bG
 clear bF bG
 have HB := Aside0.mk (Below.refl w.heap.size w)
 have H : (if ar = 11 then ((ctx_Right.f k ar aC az ay aA au aw av aD ax am ag ac aq ab ao ak ai ae ah ap aa aj al af).bind fun bl => (some bl)) else (if ar = 12 then (lean_Right.j0 k ar (ar == 12) ar aC az ay aA au aw av aD ax am ag ac aq ab ao ak ai ae ah ap aa aj al af) else (lean_Right.j0 k ar (ar == 13) ar aC az ay aA au aw av aD ax am ag ac aq ab ao ak ai ae ah ap aa aj al af))) = some r := h
 clear h
 by_cases c2 : ar = 11
 ·rw [if_pos c2] at H
  have cK : (ar == 11) = true := beq_iff_eq.mpr c2
  have cR : (ar != 11) = false := bne_eq_false_iff_eq.mpr c2
  clear c2
  replace H := Option.bind_eq_some_iff.mp H
  obtain ⟨bl, cU, H⟩ := H
  replace H : (some bl) = some r := H
  have A3 := Aside0.mk cU
  clear cU
  obtain rfl := Option.some.inj H
  go_enter Tryz.func29, Tryz.ntmps29
  go_wp2_with (first | ((with_reducible refine Pre.gate_load 32 rfl ?_); (try (refine gate_guard Z16 ?_; dsimp only)); refine Pre.load_event rfl rfl rfl Z16 Z0 Tryz.underlying32 rfl Z12 ?_) | ((with_reducible refine gate_dst (N := 1) rfl ?_); (try (refine gate_guard Z16 ?_; dsimp only)); refine Sq.box 1 #[.int .i64 ar, .int .i64 aC, .int .i64 az, .string ay, .int .i64 aA, .int .i64 au, .string aw, .int .i64 av, .int .i64 aD, .string ax, .int .i64 am, .string ag, .int .i64 ac, .int .i64 aq, .int .i64 ab, .int .i64 ao, .int .i64 ak, .int .i64 ai, .int .i64 ae, .string ah, .string ap, .slice aJ aa.length aK, .int .i64 aj, .string al, .slice aH af.length aI] 32 ?_; intro aN hg w4 hbox hb; have aE := Aside0.mk (hbox); have cG := Aside0.mk (Sq.ge hg Z2); have cg := Aside0.mk (Sq.ge hg Z2); replace HB := Aside0.mk (below_step Z2 hb); clear hb hbox hg; have eE := cells_25 aE.out) | ((with_reducible refine gate_callee (f := 63) rfl ?_); refine goesL_ (some 8) rfl rfl Tryz.func63 Z12 rfl #[.agg #[.int .i64 ar, .int .i64 aC, .int .i64 az, .string ay, .int .i64 aA, .int .i64 au, .string aw, .int .i64 av, .int .i64 aD, .string ax, .int .i64 am, .string ag, .int .i64 ac, .int .i64 aq, .int .i64 ab, .int .i64 ao, .int .i64 ak, .int .i64 ai, .int .i64 ae, .string ah, .string ap, .slice aJ aa.length aK, .int .i64 aj, .string al, .slice aH af.length aI]] rfl Z3 ?_; (with_reducible refine (ctx_Right.calls k ar aC az ay aA au aw av aD ax am ag ac aq ab ao ak ai ae ah ap _ _ aa aj al _ _ af bl _ ?side1 ?side2 ?side3 ?side4 A3.out).mono ?_); (case side1 => exact Z9); (case side2 => exact bH.out); (case side3 => exact Z6); (case side4 => exact aT.out); rintro e w6 ⟨rfl, hb⟩; refine ⟨_, rfl, ?_⟩; replace aE := Aside0.mk (blk_below (g := aN) Z4 hb); replace HB := Aside0.mk (below_step Z1 hb); clear hb))
  go_ret
  exact ⟨Z5, Z1⟩
 ·rw [if_neg c2] at H
  have cK : (ar == 11) = false := beq_eq_false_iff_ne.mpr c2
  have cR : (ar != 11) = true := bne_iff_ne.mpr c2
  have ia := Aside0.mk H
  clear H
  go_enter Tryz.func29, Tryz.ntmps29
  go_upto_if 9 with (first | ((with_reducible refine Pre.gate_load 32 rfl ?_); (try (refine gate_guard Z16 ?_; dsimp only)); refine Pre.load_event rfl rfl rfl Z16 Z0 Tryz.underlying32 rfl Z12 ?_) | ((with_reducible refine gate_dst (N := 1) rfl ?_); (try (refine gate_guard Z16 ?_; dsimp only)); refine Sq.box 1 #[.int .i64 ar, .int .i64 aC, .int .i64 az, .string ay, .int .i64 aA, .int .i64 au, .string aw, .int .i64 av, .int .i64 aD, .string ax, .int .i64 am, .string ag, .int .i64 ac, .int .i64 aq, .int .i64 ab, .int .i64 ao, .int .i64 ak, .int .i64 ai, .int .i64 ae, .string ah, .string ap, .slice aJ aa.length aK, .int .i64 aj, .string al, .slice aH af.length aI] 32 ?_; intro aN hg w8 hbox hb; have aE := Aside0.mk (hbox); have cG := Aside0.mk (Sq.ge hg Z2); have cg := Aside0.mk (Sq.ge hg Z2); replace HB := Aside0.mk (below_step Z2 hb); clear hb hbox hg; have eW := cells_25 aE.out))
  (try simp only [Act.put, Sq.s1, Sq.s2, Sq.s3])
  go_cut [9] (fun v9 wc => ∃ (kq : Nat) (fa : Bool), v9 = .bool fa ∧ Aside0 (lean_Right.j0 kq ar fa ar aC az ay aA au aw av aD ax am ag ac aq ab ao ak ai ae ah ap aa aj al af = some r) ∧ Aside0 (kq ≤ k) ∧ Aside0 (wc.heap[aN]? = some (.cells #[.int .i64 ar, .int .i64 aC, .int .i64 az, .string ay, .int .i64 aA, .int .i64 au, .string aw, .int .i64 av, .int .i64 aD, .string ax, .int .i64 am, .string ag, .int .i64 ac, .int .i64 aq, .int .i64 ab, .int .i64 ao, .int .i64 ak, .int .i64 ai, .int .i64 ae, .string ah, .string ap, (.slice aJ aa.length aK), .int .i64 aj, .string al, (.slice aH af.length aI)] 32 (0, 0))) ∧ Aside0 (Below w.heap.size w wc))
  case first =>
   have H := ia.out
   clear ia
   by_cases bW : ar = 12
   ·rw [if_pos bW] at H
    have bX : (ar == 12) = true := beq_iff_eq.mpr bW
    have dx : (ar != 12) = false := bne_eq_false_iff_eq.mpr bW
    clear bW
    (first | rw [bX] | (simp only [i64_w, i32_w]; rw [bX]) | skip)
    have H' := Aside0.mk H
    clear H
    go_wp2_with (first | ((with_reducible refine Pre.gate_load 32 rfl ?_); (try (refine gate_guard Z16 ?_; dsimp only)); refine Pre.load_event rfl rfl rfl Z16 Z0 Tryz.underlying32 rfl Z12 ?_))
    go_meet
    case rel => exact ⟨_, ((ar == 12)), Z8, H', ⟨Z22⟩, ⟨Z4⟩, ⟨Z1⟩⟩
   ·rw [if_neg bW] at H
    have bX : (ar == 12) = false := beq_eq_false_iff_ne.mpr bW
    have dx : (ar != 12) = true := bne_iff_ne.mpr bW
    (first | rw [bX] | (simp only [i64_w, i32_w]; rw [bX]) | skip)
    have H' := Aside0.mk H
    clear H
    go_wp2_with (first | ((with_reducible refine Pre.gate_load 32 rfl ?_); (try (refine gate_guard Z16 ?_; dsimp only)); refine Pre.load_event rfl rfl rfl Z16 Z0 Tryz.underlying32 rfl Z12 ?_))
    go_meet
    case rel => exact ⟨_, ((ar == 13)), Z8, H', ⟨Z22⟩, ⟨Z4⟩, ⟨Z1⟩⟩
  case rest =>
   clear ia
   try clear c2
   try clear cK
   try clear cR
   try clear p2
   try clear c6
   try clear eE
   try clear eW
   obtain ⟨kq, fa, rfl, HA, HJ6, aE, HB⟩ := hcut
   cases kq with
   | zero => exact absurd HA.out (by simp [lean_Right.j0])
   | succ kj6 =>
    have H := HA.out
    clear HA
    simp only [lean_Right.j0] at H
    by_cases cS : fa = true
    ·subst cS
     replace H := Sq.itT H
     replace H := Option.bind_eq_some_iff.mp H
     obtain ⟨bK, gL, H⟩ := H
     replace H : (some bK) = some r := H
     have iz := Aside0.mk gL
     clear gL
     obtain rfl := Option.some.inj H
     have eu := cells_25 aE.out
     go_wp2_with (first | ((with_reducible refine Pre.gate_load 32 rfl ?_); (try (refine gate_guard Z16 ?_; dsimp only)); refine Pre.load_event rfl rfl rfl Z16 Z0 Tryz.underlying32 rfl Z12 ?_) | ((with_reducible refine gate_callee (f := 64) rfl ?_); refine goesL_ (some 13) rfl rfl Tryz.func64 Z12 rfl #[.agg #[.int .i64 ar, .int .i64 aC, .int .i64 az, .string ay, .int .i64 aA, .int .i64 au, .string aw, .int .i64 av, .int .i64 aD, .string ax, .int .i64 am, .string ag, .int .i64 ac, .int .i64 aq, .int .i64 ab, .int .i64 ao, .int .i64 ak, .int .i64 ai, .int .i64 ae, .string ah, .string ap, .slice aJ aa.length aK, .int .i64 aj, .string al, .slice aH af.length aI]] rfl Z3 ?_; (with_reducible refine (route_Right.calls kj6 ar aC az ay aA au aw av aD ax am ag ac aq ab ao ak ai ae ah ap _ _ aa aj al _ _ af bK _ ?side1 ?side2 ?side3 ?side4 iz.out).mono ?_); (case side1 => exact Z9); (case side2 => exact bH.out); (case side3 => exact Z6); (case side4 => exact aT.out); rintro e fd ⟨rfl, hb⟩; refine ⟨_, rfl, ?_⟩; replace aE := Aside0.mk (blk_below (g := aN) Z4 hb); replace HB := Aside0.mk (below_step Z1 hb); clear hb))
     go_ret
     exact ⟨Z5, Z1⟩
    ·replace cS := Bool.eq_false_iff.mpr cS
     subst cS
     replace H := Sq.itF H
     by_cases dC : ar = 14
     ·rw [if_pos dC] at H
      have fp : (ar == 14) = true := beq_iff_eq.mpr dC
      have fq : (ar != 14) = false := bne_eq_false_iff_eq.mpr dC
      clear dC
      replace H := Option.bind_eq_some_iff.mp H
      obtain ⟨bQ, gM, H⟩ := H
      replace H : (if bQ = true then (if aj > 10 then (if aj < 256 then (some (decide ((al.size : Int) < 256))) else (some false)) else (some false)) else (some false)) = some r := H
      have hN := Aside0.mk gM
      clear gM
      by_cases eU : bQ = true
      ·subst eU
       replace H := Sq.itT H
       by_cases dD : aj > 10
       ·rw [if_pos dD] at H
        have ei : decide (10 < aj) = true := decide_eq_true dD
        clear dD
        by_cases eI : aj < 256
        ·rw [if_pos eI] at H
         have fs : decide (aj < 256) = true := decide_eq_true eI
         clear eI
         obtain rfl := Option.some.inj H
         have dT := cells_25 aE.out
         go_wp2_with (first | ((with_reducible refine Pre.gate_load 32 rfl ?_); (try (refine gate_guard Z16 ?_; dsimp only)); refine Pre.load_event rfl rfl rfl Z16 Z0 Tryz.underlying32 rfl Z12 ?_) | ((with_reducible refine gate_callee (f := 65) rfl ?_); refine goesL_ (some 17) rfl rfl Tryz.func65 Z12 rfl #[.agg #[.int .i64 ar, .int .i64 aC, .int .i64 az, .string ay, .int .i64 aA, .int .i64 au, .string aw, .int .i64 av, .int .i64 aD, .string ax, .int .i64 am, .string ag, .int .i64 ac, .int .i64 aq, .int .i64 ab, .int .i64 ao, .int .i64 ak, .int .i64 ai, .int .i64 ae, .string ah, .string ap, .slice aJ aa.length aK, .int .i64 aj, .string al, .slice aH af.length aI]] rfl Z3 ?_; (with_reducible refine (msg_Bare.calls ar aC az ay aA au aw av aD ax am ag ac aq ab ao ak ai ae ah ap _ _ aa aj al _ _ af true _ ?side1 ?side2 ?side3 ?side4 hN.out).mono ?_); (case side1 => exact Z9); (case side2 => exact bH.out); (case side3 => exact Z6); (case side4 => exact aT.out); rintro e hJ ⟨rfl, hb⟩; refine ⟨_, rfl, ?_⟩; replace aE := Aside0.mk (blk_below (g := aN) Z4 hb); replace HB := Aside0.mk (below_step Z1 hb); clear hb; have fu := cells_25 aE.out))
         go_ret
         exact ⟨Z5, Z1⟩
        ·rw [if_neg eI] at H
         have fs : decide (aj < 256) = false := decide_eq_false eI
         clear eI
         obtain rfl := Option.some.inj H
         have fW := cells_25 aE.out
         go_wp2_with (first | ((with_reducible refine Pre.gate_load 32 rfl ?_); (try (refine gate_guard Z16 ?_; dsimp only)); refine Pre.load_event rfl rfl rfl Z16 Z0 Tryz.underlying32 rfl Z12 ?_) | ((with_reducible refine gate_callee (f := 65) rfl ?_); refine goesL_ (some 17) rfl rfl Tryz.func65 Z12 rfl #[.agg #[.int .i64 ar, .int .i64 aC, .int .i64 az, .string ay, .int .i64 aA, .int .i64 au, .string aw, .int .i64 av, .int .i64 aD, .string ax, .int .i64 am, .string ag, .int .i64 ac, .int .i64 aq, .int .i64 ab, .int .i64 ao, .int .i64 ak, .int .i64 ai, .int .i64 ae, .string ah, .string ap, .slice aJ aa.length aK, .int .i64 aj, .string al, .slice aH af.length aI]] rfl Z3 ?_; (with_reducible refine (msg_Bare.calls ar aC az ay aA au aw av aD ax am ag ac aq ab ao ak ai ae ah ap _ _ aa aj al _ _ af true _ ?side1 ?side2 ?side3 ?side4 hN.out).mono ?_); (case side1 => exact Z9); (case side2 => exact bH.out); (case side3 => exact Z6); (case side4 => exact aT.out); rintro e w24 ⟨rfl, hb⟩; refine ⟨_, rfl, ?_⟩; replace aE := Aside0.mk (blk_below (g := aN) Z4 hb); replace HB := Aside0.mk (below_step Z1 hb); clear hb; have gN := cells_25 aE.out))
         go_ret
         exact ⟨Z5, Z1⟩
       ·rw [if_neg dD] at H
        have ei : decide (10 < aj) = false := decide_eq_false dD
        clear dD
        obtain rfl := Option.some.inj H
        have gO := cells_25 aE.out
        go_wp2_with (first | ((with_reducible refine Pre.gate_load 32 rfl ?_); (try (refine gate_guard Z16 ?_; dsimp only)); refine Pre.load_event rfl rfl rfl Z16 Z0 Tryz.underlying32 rfl Z12 ?_) | ((with_reducible refine gate_callee (f := 65) rfl ?_); refine goesL_ (some 17) rfl rfl Tryz.func65 Z12 rfl #[.agg #[.int .i64 ar, .int .i64 aC, .int .i64 az, .string ay, .int .i64 aA, .int .i64 au, .string aw, .int .i64 av, .int .i64 aD, .string ax, .int .i64 am, .string ag, .int .i64 ac, .int .i64 aq, .int .i64 ab, .int .i64 ao, .int .i64 ak, .int .i64 ai, .int .i64 ae, .string ah, .string ap, .slice aJ aa.length aK, .int .i64 aj, .string al, .slice aH af.length aI]] rfl Z3 ?_; (with_reducible refine (msg_Bare.calls ar aC az ay aA au aw av aD ax am ag ac aq ab ao ak ai ae ah ap _ _ aa aj al _ _ af true _ ?side1 ?side2 ?side3 ?side4 hN.out).mono ?_); (case side1 => exact Z9); (case side2 => exact bH.out); (case side3 => exact Z6); (case side4 => exact aT.out); rintro e w27 ⟨rfl, hb⟩; refine ⟨_, rfl, ?_⟩; replace aE := Aside0.mk (blk_below (g := aN) Z4 hb); replace HB := Aside0.mk (below_step Z1 hb); clear hb; have hcz28 := cells_25 aE.out))
        go_ret
        exact ⟨Z5, Z1⟩
      ·replace eU := Bool.eq_false_iff.mpr eU
       subst eU
       replace H := Sq.itF H
       obtain rfl := Option.some.inj H
       have gP := cells_25 aE.out
       go_wp2_with (first | ((with_reducible refine Pre.gate_load 32 rfl ?_); (try (refine gate_guard Z16 ?_; dsimp only)); refine Pre.load_event rfl rfl rfl Z16 Z0 Tryz.underlying32 rfl Z12 ?_) | ((with_reducible refine gate_callee (f := 65) rfl ?_); refine goesL_ (some 17) rfl rfl Tryz.func65 Z12 rfl #[.agg #[.int .i64 ar, .int .i64 aC, .int .i64 az, .string ay, .int .i64 aA, .int .i64 au, .string aw, .int .i64 av, .int .i64 aD, .string ax, .int .i64 am, .string ag, .int .i64 ac, .int .i64 aq, .int .i64 ab, .int .i64 ao, .int .i64 ak, .int .i64 ai, .int .i64 ae, .string ah, .string ap, .slice aJ aa.length aK, .int .i64 aj, .string al, .slice aH af.length aI]] rfl Z3 ?_; (with_reducible refine (msg_Bare.calls ar aC az ay aA au aw av aD ax am ag ac aq ab ao ak ai ae ah ap _ _ aa aj al _ _ af false _ ?side1 ?side2 ?side3 ?side4 hN.out).mono ?_); (case side1 => exact Z9); (case side2 => exact bH.out); (case side3 => exact Z6); (case side4 => exact aT.out); rintro e w30 ⟨rfl, hb⟩; refine ⟨_, rfl, ?_⟩; replace aE := Aside0.mk (blk_below (g := aN) Z4 hb); replace HB := Aside0.mk (below_step Z1 hb); clear hb))
       go_ret
       exact ⟨Z5, Z1⟩
     ·rw [if_neg dC] at H
      have fp : (ar == 14) = false := beq_eq_false_iff_ne.mpr dC
      have fq : (ar != 14) = true := bne_iff_ne.mpr dC
      replace H := Option.bind_eq_some_iff.mp H
      obtain ⟨ch, gQ, H⟩ := H
      replace H : (some ch) = some r := H
      have iA := Aside0.mk gQ
      clear gQ
      obtain rfl := Option.some.inj H
      have ff := cells_25 aE.out
      go_wp2_with (first | ((with_reducible refine Pre.gate_load 32 rfl ?_); (try (refine gate_guard Z16 ?_; dsimp only)); refine Pre.load_event rfl rfl rfl Z16 Z0 Tryz.underlying32 rfl Z12 ?_) | ((with_reducible refine gate_callee (f := 66) rfl ?_); refine goesL_ (some 35) rfl rfl Tryz.func66 Z12 rfl #[.agg #[.int .i64 ar, .int .i64 aC, .int .i64 az, .string ay, .int .i64 aA, .int .i64 au, .string aw, .int .i64 av, .int .i64 aD, .string ax, .int .i64 am, .string ag, .int .i64 ac, .int .i64 aq, .int .i64 ab, .int .i64 ao, .int .i64 ak, .int .i64 ai, .int .i64 ae, .string ah, .string ap, .slice aJ aa.length aK, .int .i64 aj, .string al, .slice aH af.length aI]] rfl Z3 ?_; (with_reducible refine (field_Right.calls kj6 ar aC az ay aA au aw av aD ax am ag ac aq ab ao ak ai ae ah ap _ _ aa aj al _ _ af ch _ ?side1 ?side2 ?side3 ?side4 iA.out).mono ?_); (case side1 => exact Z9); (case side2 => exact bH.out); (case side3 => exact Z6); (case side4 => exact aT.out); rintro e w33 ⟨rfl, hb⟩; refine ⟨_, rfl, ?_⟩; replace aE := Aside0.mk (blk_below (g := aN) Z4 hb); replace HB := Aside0.mk (below_step Z1 hb); clear hb))
      go_ret
      exact ⟨Z5, Z1⟩

/-! ### lean_other: function 67 -/
def lean_other.j0 : Nat → Int → Bool → Int → Int → Int → ByteArray → Int → Int → ByteArray → Int → Int → ByteArray → Int → ByteArray → Int → Int → Int → Int → Int → Int → Int → ByteArray → ByteArray → List (S78) → Int → ByteArray → List (S80) → Option (ByteArray)
 | 0, _, _, _, _, _, _, _, _, _, _, _, _, _, _, _, _, _, _, _, _, _, _, _, _, _, _, _ => none
 | k + 1, x5, er, aQ, bo, bp, bq, br, aU, bs, bu, bv, aV, bf, aW, bg, bw, bm, bh, bi, bx, bA, bn, bB, bj, aZ, bk, bb => if er = true then ((route_Put.f k aQ bo bp bq br aU bs bu bv aV bf aW bg bw bm bh bi bx bA bn bB bj aZ bk bb).bind fun gR => (some gR.1)) else (if x5 = 14 then ((frame_Put.f aZ bk).bind fun eg => (some eg.1)) else ((field_Put.f k aQ bo bp bq br aU bs bu bv aV bf aW bg bw bm bh bi bx bA bn bB bj aZ bk bb).bind fun gS => (some gS.1)))
def lean_other.f (k : Nat) (ar : Int) (aC : Int) (az : Int) (ay : ByteArray) (aA : Int) (au : Int) (aw : ByteArray) (av : Int) (aD : Int) (ax : ByteArray) (am : Int) (ag : ByteArray) (ac : Int) (aq : Int) (ab : Int) (ao : Int) (ak : Int) (ai : Int) (ae : Int) (ah : ByteArray) (ap : ByteArray) (aa : List (S78)) (aj : Int) (al : ByteArray) (af : List (S80)) : Option (ByteArray) := if ar = 12 then (lean_other.j0 k ar (ar == 12) ar aC az ay aA au aw av aD ax am ag ac aq ab ao ak ai ae ah ap aa aj al af) else (lean_other.j0 k ar (ar == 13) ar aC az ay aA au aw av aD ax am ag ac aq ab ao ak ai ae ah ap aa aj al af)
theorem lean_other.mono_l : ∀ k, (∀ y0 y1 y2 y3 y4 y5 y6 y7 y8 y9 cn cp cq cr ct cu cv cw cx cy cA cB cC cD cE cF eL, LeO (lean_other.j0 k y0 y1 y2 y3 y4 y5 y6 y7 y8 y9 cn cp cq cr ct cu cv cw cx cy cA cB cC cD cE cF eL) (lean_other.j0 (k + 1) y0 y1 y2 y3 y4 y5 y6 y7 y8 y9 cn cp cq cr ct cu cv cw cx cy cA cB cC cD cE cF eL))
 | 0 => Sq.mz
 | k + 1 => by
  have ih0 := lean_other.mono_l k
  ·intros
   unfold lean_other.j0
   have m0 := field_Put.mono
   have m1 := route_Put.mono
   exact Sq.mo
theorem lean_other.mono : ∀ a0 a1 a2 a3 a4 a5 a6 a7 a8 a9 dc dd de df dg dh di dj dk dl dm dn dp dq dr k, LeO (lean_other.f k a0 a1 a2 a3 a4 a5 a6 a7 a8 a9 dc dd de df dg dh di dj dk dl dm dn dp dq dr) (lean_other.f (k + 1) a0 a1 a2 a3 a4 a5 a6 a7 a8 a9 dc dd de df dg dh di dj dk dl dm dn dp dq dr) := by
 intro a0 a1 a2 a3 a4 a5 a6 a7 a8 a9 dc dd de df dg dh di dj dk dl dm dn dp dq dr k
 have ih0 := lean_other.mono_l k
 unfold lean_other.f
 have m0 := field_Put.mono
 have m1 := route_Put.mono
 exact Sq.mo

set_option maxHeartbeats 8000000 in
set_option maxRecDepth 100000 in
theorem lean_other.calls (k : Nat) (ar : Int) (aC : Int) (az : Int) (ay : ByteArray) (aA : Int) (au : Int) (aw : ByteArray) (av : Int) (aD : Int) (ax : ByteArray) (am : Int) (ag : ByteArray) (ac : Int) (aq : Int) (ab : Int) (ao : Int) (ak : Int) (ai : Int) (ae : Int) (ah : ByteArray) (ap : ByteArray) (aJ : Option Addr) (aK : Nat) (aa : List (S78)) (aj : Int) (al : ByteArray) (aH : Option Addr) (aI : Nat) (af : List (S80)) (r : ByteArray) (w : World) (bD : Kd.C k78 w aJ aa.length aa) (bE : aa.length ≤ aK) (bF : Kd.C k80 w aH af.length af) (bG : af.length ≤ aI) (h : lean_other.f k ar aC az ay aA au aw av aD ax am ag ac aq ab ao ak ai ae ah ap aa aj al af = some r) :
  Calls Tryz.prog 67 #[.agg #[.int .i64 ar, .int .i64 aC, .int .i64 az, .string ay, .int .i64 aA, .int .i64 au, .string aw, .int .i64 av, .int .i64 aD, .string ax, .int .i64 am, .string ag, .int .i64 ac, .int .i64 aq, .int .i64 ab, .int .i64 ao, .int .i64 ak, .int .i64 ai, .int .i64 ae, .string ah, .string ap, .slice aJ aa.length aK, .int .i64 aj, .string al, .slice aH af.length aI]] w fun e w' => e = .returned (.string r) ∧ Below w.heap.size w w' := by
 have dP := Tryz.underlying32
 have bY := Aside0.mk bD
 have bH := Aside0.mk bE
 clear bD bE
 have bZ := Aside0.mk bF
 have aT := Aside0.mk bG
 clear bF bG
 have HB := Aside0.mk (Below.refl w.heap.size w)
 have H : (if ar = 12 then (lean_other.j0 k ar (ar == 12) ar aC az ay aA au aw av aD ax am ag ac aq ab ao ak ai ae ah ap aa aj al af) else (lean_other.j0 k ar (ar == 13) ar aC az ay aA au aw av aD ax am ag ac aq ab ao ak ai ae ah ap aa aj al af)) = some r := h
 clear h
 have dY := Aside0.mk H
 clear H
 go_enter Tryz.func67, Tryz.ntmps67
 go_upto_if 11 with (first | ((with_reducible refine Pre.gate_load 32 rfl ?_); (try (refine gate_guard Z16 ?_; dsimp only)); refine Pre.load_event rfl rfl rfl Z16 Z0 Tryz.underlying32 rfl Z12 ?_) | ((with_reducible refine gate_dst (N := 1) rfl ?_); refine Sq.box 1 #[.int .i64 ar, .int .i64 aC, .int .i64 az, .string ay, .int .i64 aA, .int .i64 au, .string aw, .int .i64 av, .int .i64 aD, .string ax, .int .i64 am, .string ag, .int .i64 ac, .int .i64 aq, .int .i64 ab, .int .i64 ao, .int .i64 ak, .int .i64 ai, .int .i64 ae, .string ah, .string ap, .slice aJ aa.length aK, .int .i64 aj, .string al, .slice aH af.length aI] 32 ?_; intro aN hg w3 hbox hb; have aE := Aside0.mk (hbox); have cG := Aside0.mk (Sq.ge hg Z2); have cg := Aside0.mk (Sq.ge hg Z2); replace HB := Aside0.mk (below_step Z2 hb); clear hb hbox hg; have ib := cells_25 aE.out))
 (try simp only [Act.put, Sq.s1, Sq.s2, Sq.s3])
 go_cut [11] (fun es wc => ∃ (kq : Nat) (bJ : Bool), es = .bool bJ ∧ Aside0 (lean_other.j0 kq ar bJ ar aC az ay aA au aw av aD ax am ag ac aq ab ao ak ai ae ah ap aa aj al af = some r) ∧ Aside0 (kq ≤ k) ∧ Aside0 (wc.heap[aN]? = some (.cells #[.int .i64 ar, .int .i64 aC, .int .i64 az, .string ay, .int .i64 aA, .int .i64 au, .string aw, .int .i64 av, .int .i64 aD, .string ax, .int .i64 am, .string ag, .int .i64 ac, .int .i64 aq, .int .i64 ab, .int .i64 ao, .int .i64 ak, .int .i64 ai, .int .i64 ae, .string ah, .string ap, (.slice aJ aa.length aK), .int .i64 aj, .string al, (.slice aH af.length aI)] 32 (0, 0))) ∧ Aside0 (Below w.heap.size w wc))
 case first =>
  have H := dY.out
  clear dY
  by_cases c5 : ar = 12
  ·rw [if_pos c5] at H
   have ca : (ar == 12) = true := beq_iff_eq.mpr c5
   have dM : (ar != 12) = false := bne_eq_false_iff_eq.mpr c5
   clear c5
   (first | rw [ca] | (simp only [i64_w, i32_w]; rw [ca]) | skip)
   have H' := Aside0.mk H
   clear H
   go_wp2_with (first | ((with_reducible refine Pre.gate_load 32 rfl ?_); (try (refine gate_guard Z16 ?_; dsimp only)); refine Pre.load_event rfl rfl rfl Z16 Z0 Tryz.underlying32 rfl Z12 ?_))
   go_meet
   case rel => exact ⟨_, ((ar == 12)), Z8, H', ⟨Z22⟩, ⟨Z4⟩, ⟨Z1⟩⟩
  ·rw [if_neg c5] at H
   have ca : (ar == 12) = false := beq_eq_false_iff_ne.mpr c5
   have dM : (ar != 12) = true := bne_iff_ne.mpr c5
   (first | rw [ca] | (simp only [i64_w, i32_w]; rw [ca]) | skip)
   have H' := Aside0.mk H
   clear H
   go_wp2_with (first | ((with_reducible refine Pre.gate_load 32 rfl ?_); (try (refine gate_guard Z16 ?_; dsimp only)); refine Pre.load_event rfl rfl rfl Z16 Z0 Tryz.underlying32 rfl Z12 ?_))
   go_meet
   case rel => exact ⟨_, ((ar == 13)), Z8, H', ⟨Z22⟩, ⟨Z4⟩, ⟨Z1⟩⟩
 case rest =>
  clear dY
  try clear ib
  obtain ⟨kq, bJ, rfl, HA, eP, aE, HB⟩ := hcut
  cases kq with
  | zero => exact absurd HA.out (by simp [lean_other.j0])
  | succ kj1 =>
   have H := HA.out
   clear HA
   simp only [lean_other.j0] at H
   by_cases c6 : bJ = true
   ·subst c6
    replace H := Sq.itT H
    replace H := Option.bind_eq_some_iff.mp H
    obtain ⟨⟨bl, bK⟩, eJ, H⟩ := H
    replace H : (some bl) = some r := H
    have A7 := Aside0.mk eJ
    clear eJ
    obtain rfl := Option.some.inj H
    have hcz8 := cells_25 aE.out
    go_wp2_with (first | ((with_reducible refine Pre.gate_load 32 rfl ?_); (try (refine gate_guard Z16 ?_; dsimp only)); refine Pre.load_event rfl rfl rfl Z16 Z0 Tryz.underlying32 rfl Z12 ?_) | ((with_reducible refine gate_callee (f := 129) rfl ?_); refine goesL_ (some 16) rfl rfl Tryz.func129 Z12 rfl #[.agg #[.int .i64 ar, .int .i64 aC, .int .i64 az, .string ay, .int .i64 aA, .int .i64 au, .string aw, .int .i64 av, .int .i64 aD, .string ax, .int .i64 am, .string ag, .int .i64 ac, .int .i64 aq, .int .i64 ab, .int .i64 ao, .int .i64 ak, .int .i64 ai, .int .i64 ae, .string ah, .string ap, .slice aJ aa.length aK, .int .i64 aj, .string al, .slice aH af.length aI]] rfl Z3 ?_; (with_reducible refine (route_Put.calls kj1 ar aC az ay aA au aw av aD ax am ag ac aq ab ao ak ai ae ah ap _ _ aa aj al _ _ af bl bK _ ?side1 ?side2 ?side3 ?side4 A7.out).mono ?_); (case side1 => exact Z9); (case side2 => exact bH.out); (case side3 => exact Z6); (case side4 => exact aT.out); rintro e w9 ⟨rfl, hb⟩; refine ⟨_, rfl, ?_⟩; replace aE := Aside0.mk (blk_below (g := aN) Z4 hb); replace HB := Aside0.mk (below_step Z1 hb); clear hb))
    go_ret
    exact ⟨Z5, Z1⟩
   ·replace c6 := Bool.eq_false_iff.mpr c6
    subst c6
    replace H := Sq.itF H
    by_cases bW : ar = 14
    ·rw [if_pos bW] at H
     have bX : (ar == 14) = true := beq_iff_eq.mpr bW
     have dx : (ar != 14) = false := bne_eq_false_iff_eq.mpr bW
     clear bW
     replace H := Option.bind_eq_some_iff.mp H
     obtain ⟨⟨bQ, ch⟩, eD, H⟩ := H
     replace H : (some bQ) = some r := H
     have gl := Aside0.mk eD
     clear eD
     obtain rfl := Option.some.inj H
     have eK := cells_25 aE.out
     go_wp2_with (first | ((with_reducible refine Pre.gate_load 32 rfl ?_); (try (refine gate_guard Z16 ?_; dsimp only)); refine Pre.load_event rfl rfl rfl Z16 Z0 Tryz.underlying32 rfl Z12 ?_) | ((with_reducible refine gate_callee (f := 130) rfl ?_); refine goesL_ (some 26) rfl rfl Tryz.func130 Z12 rfl #[.int .i64 aj, .string al] rfl Z3 ?_; (with_reducible refine (frame_Put.calls aj al bQ ch _ gl.out).mono ?_); rintro e gi ⟨rfl, hb⟩; refine ⟨_, rfl, ?_⟩; replace aE := Aside0.mk (blk_below (g := aN) Z4 hb); replace HB := Aside0.mk (below_step Z1 hb); clear hb))
     go_ret
     exact ⟨Z5, Z1⟩
    ·rw [if_neg bW] at H
     have bX : (ar == 14) = false := beq_eq_false_iff_ne.mpr bW
     have dx : (ar != 14) = true := bne_iff_ne.mpr bW
     replace H := Option.bind_eq_some_iff.mp H
     obtain ⟨⟨cb, ci⟩, gT, H⟩ := H
     replace H : (some cb) = some r := H
     have iB := Aside0.mk gT
     clear gT
     obtain rfl := Option.some.inj H
     have fT := cells_25 aE.out
     go_wp2_with (first | ((with_reducible refine Pre.gate_load 32 rfl ?_); (try (refine gate_guard Z16 ?_; dsimp only)); refine Pre.load_event rfl rfl rfl Z16 Z0 Tryz.underlying32 rfl Z12 ?_) | ((with_reducible refine gate_callee (f := 131) rfl ?_); refine goesL_ (some 8) rfl rfl Tryz.func131 Z12 rfl #[.agg #[.int .i64 ar, .int .i64 aC, .int .i64 az, .string ay, .int .i64 aA, .int .i64 au, .string aw, .int .i64 av, .int .i64 aD, .string ax, .int .i64 am, .string ag, .int .i64 ac, .int .i64 aq, .int .i64 ab, .int .i64 ao, .int .i64 ak, .int .i64 ai, .int .i64 ae, .string ah, .string ap, .slice aJ aa.length aK, .int .i64 aj, .string al, .slice aH af.length aI]] rfl Z3 ?_; (with_reducible refine (field_Put.calls kj1 ar aC az ay aA au aw av aD ax am ag ac aq ab ao ak ai ae ah ap _ _ aa aj al _ _ af cb ci _ ?side1 ?side2 ?side3 ?side4 iB.out).mono ?_); (case side1 => exact Z9); (case side2 => exact bH.out); (case side3 => exact Z6); (case side4 => exact aT.out); rintro e hD ⟨rfl, hb⟩; refine ⟨_, rfl, ?_⟩; replace aE := Aside0.mk (blk_below (g := aN) Z4 hb); replace HB := Aside0.mk (below_step Z1 hb); clear hb))
     go_ret
     exact ⟨Z5, Z1⟩

/-! ### lean_writer_put: function 132 -/
/-- What a writer that has xs has behind a TLV. -/
def lean_writer_put.f (xs : List Int) (a1 : Int) (a2 : ByteArray) : Option (List Int) := (frame_Put.f a1 a2).bind fun t => if xs.length + t.1.size < 140737488355328 then some (xs ++ bytesOf t.1) else none
set_option maxHeartbeats 8000000 in
set_option maxRecDepth 100000 in
theorem lean_writer_put.calls (g : Nat) (u : Value) (p0 : ByteArray) (p1 : ByteArray) (p2 : ByteArray) (p3 : ByteArray) (h0 : ByteArray) (h1 : ByteArray) (id : ByteArray) (xs : List Int) (a1 : Int) (a2 : ByteArray) (ys : List Int) (w0 w : World) (hB : Below w0.heap.size w0 w) (hg : w0.heap.size ≤ g) (hK : w.heap[g]? = some (.cells #[u, .string p0, .string p1, .string p2, .string p3, .string h0, .string h1, .string id] 87 (0, 0))) (hR : Kd.R (Kd.int .u8) 5 w w0.heap.size (fun _ => True) u xs) (h : lean_writer_put.f xs a1 a2 = some ys) :
  Calls Tryz.prog 132 #[.pointer (some ⟨g, 0, none⟩), .int .i64 a1, .string a2] w fun e w' => e = .returned (.tuple #[]) ∧ ∃ u', w'.heap[g]? = some (.cells #[u', .string p0, .string p1, .string p2, .string p3, .string h0, .string h1, .string id] 87 (0, 0)) ∧ Kd.R (Kd.int .u8) 5 w' w0.heap.size (fun _ => True) u' ys ∧ Below w0.heap.size w0 w' ∧ KeepBut w w' g u.ownBlock := by
 have gU := Tryz.underlying87
 unfold lean_writer_put.f at h
 obtain ⟨⟨t1, t2⟩, h1, h⟩ := Option.bind_eq_some_iff.mp h
 dsimp only at h
 by_cases c : xs.length + t1.size < 140737488355328
 ·rw [if_pos c] at h
  have Ny := Aside0.mk (Option.some.inj h).symm
  have LM := Aside0.mk c
  have A1 := Aside0.mk h1
  have HB := Aside0.mk hB
  have dW := Aside0.mk hg
  have bC := Aside0.mk hK
  have HO := Aside0.mk hR
  have HK := Aside0.mk (KeepBut.refl w g u.ownBlock)
  clear h c h1 hB hg hK hR
  go_enter Tryz.func132, Tryz.ntmps132
  have hz0 := (blk_cell bC.out 0).trans rfl
  go_wp2_with (first | ((with_reducible refine gate_callee (f := 130) rfl ?_); refine goesL_ (some 11) rfl rfl Tryz.func130 Z12 rfl #[.int .i64 a1, .string a2] rfl Z3 ?_; (with_reducible refine (frame_Put.calls a1 a2 t1 t2 _ A1.out).mono ?_); rintro e dL ⟨rfl, hb⟩; refine ⟨_, rfl, ?_⟩; have bL := Aside0.mk (Kd.R_below Z15 hb); have bM := Aside0.mk (blk_below (g := g) Z14 hb); have cf := Aside0.mk (below_step Z10 hb); have cQ := Aside0.mk (KeepBut.trans Z20 (KeepBut.of_below hb g u.ownBlock) (.inl rfl)); clear HO bC HB HK hz0 hb; have HO := bL; have bC := bM; have HB := cf; have HK := cQ; clear bL bM cf cQ; have hz0 := (blk_cell bC.out 0).trans rfl) | (at_builtin; refine print_append_str (w0 := w0) w0.heap.size rfl (.tmp 18) _ 64 9 5 rfl Tryz.underlying64 Tryz.underlying9 info5 u xs t1 rfl rfl ?aO ?aB ?aS ?aL ?_; (case aB => exact Z10); (case aO => exact (Kd.own_of_R Z15)); (case aS => exact (below_size Z10)); (case aL => have := LM.out; omega); intro v2 ep ho0 hb hg; have ho := Kd.R_of_own (h1 := fun _ => rfl) (ok := fun _ => True) ho0 (fun _ _ => trivial); clear ho0; rw [← Ny.out] at ho; change Kd.R (Kd.int .u8) 5 ep w0.heap.size (fun _ => True) v2 ys at ho; have bL := Aside0.mk ho; have bM := Aside0.mk (blk_grown (g := g) Z14 hg (Kd.R_ne HO.out bC.out Z34)); have cf := Aside0.mk hb; have cQ := Aside0.mk (KeepBut.trans Z20 (KeepBut.of_grown hg g) (.inl rfl)); clear HO bC HB HK hz0 ho hb hg; have HO := bL; have bC := bM; have HB := cf; have HK := cQ; clear bL bM cf cQ; have hz0 := (blk_cell bC.out 0).trans rfl; have hf0 := blk_frozen bC.out 0; obtain ⟨gc, gg, eo2⟩ := Kd.R_slice HO.out; subst eo2))
  go_end0
  exact ⟨rfl, _, (by (with_reducible repeat (first | refine blk_drewN ?_ _ | refine blk_drew ?_ | refine blk_alloc ?_ _)); refine blk_put (cs := #[u, .string p0, .string p1, .string p2, .string p3, .string h0, .string h1, .string id]) ?_ 0 _ rfl; (with_reducible repeat (first | refine blk_drewN ?_ _ | refine blk_drew ?_ | refine blk_alloc ?_ _)); exact bC.out), (by (with_reducible repeat (first | apply Kd.R_alloc | apply Kd.R_drewN | apply Kd.R_drew)); exact Kd.R_mono (Kd.R_far (p := ⟨g, 0, none⟩) (Kd.R_types HO.out bC.out Z34) (fun _ hk => hk.2) _) (fun _ _ => trivial)), Z10, Z21⟩
 ·rw [if_neg c] at h
  exact absurd h Z27

/-! ### lean_writer_id: function 69 -/
def lean_writer_id.f (xs : List Int) (a1 : ByteArray) : Option (List Int) := if 2 + a1.size ≤ 9223372036854775807 then lean_writer_put.f xs 6 ((⟨#[0, 0]⟩ : ByteArray) ++ a1) else none
set_option maxHeartbeats 8000000 in
set_option maxRecDepth 100000 in
theorem lean_writer_id.calls (g : Nat) (u : Value) (p0 : ByteArray) (p1 : ByteArray) (p2 : ByteArray) (p3 : ByteArray) (h0 : ByteArray) (h1 : ByteArray) (id : ByteArray) (xs : List Int) (a1 : ByteArray) (ys : List Int) (w0 w : World) (hB : Below w0.heap.size w0 w) (hg : w0.heap.size ≤ g) (hK : w.heap[g]? = some (.cells #[u, .string p0, .string p1, .string p2, .string p3, .string h0, .string h1, .string id] 87 (0, 0))) (hR : Kd.R (Kd.int .u8) 5 w w0.heap.size (fun _ => True) u xs) (h : lean_writer_id.f xs a1 = some ys) :
  Calls Tryz.prog 69 #[.pointer (some ⟨g, 0, none⟩), .string a1] w fun e w' => e = .returned (.tuple #[]) ∧ ∃ u', w'.heap[g]? = some (.cells #[u', .string p0, .string p1, .string p2, .string p3, .string h0, .string h1, .string a1] 87 (0, 0)) ∧ Kd.R (Kd.int .u8) 5 w' w0.heap.size (fun _ => True) u' ys ∧ Below w0.heap.size w0 w' ∧ KeepBut w w' g u.ownBlock := by
 unfold lean_writer_id.f at h
 have cz : 2 + a1.size ≤ 9223372036854775807 := by
  by_cases cz : 2 + a1.size ≤ 9223372036854775807
  ·exact cz
  ·rw [if_neg cz] at h; exact absurd h Z27
 rw [if_pos cz] at h
 have g0 := eq_true cz
 have gd : decide (2 + a1.size ≤ 9223372036854775807) = true := decide_eq_true cz
 have gf : (9223372036854775807 < 2 + a1.size) = False := eq_false (Nat.not_lt.2 cz)
 clear cz
 have A1 := Aside0.mk h
 clear h
 have gU := Tryz.underlying87
 have ic := Tryz.underlying46
 have HB := Aside0.mk hB
 have dW := Aside0.mk hg
 have bC := Aside0.mk hK
 have HO := Aside0.mk hR
 have HK := Aside0.mk (KeepBut.refl w g u.ownBlock)
 clear hB hg hK hR
 go_enter Tryz.func69, Tryz.ntmps69
 go_wp2_with (first | ((with_reducible refine gate_callee (f := 132) rfl ?_); refine goesL_ (some 7) rfl rfl Tryz.func132 Z12 rfl #[.pointer (some ⟨g, 0, none⟩), .int .i64 6, .string ((⟨#[0, 0]⟩ : ByteArray) ++ a1)] rfl Z3 ?_; (with_reducible refine (lean_writer_put.calls g u p0 p1 p2 p3 h0 h1 id xs 6 ((⟨#[0, 0]⟩ : ByteArray) ++ a1) ys w0 _ Z10 dW.out Z14 Z15 A1.out).mono ?_); rintro e dL ⟨rfl, u1, hk, hr, hb, hkb⟩; refine ⟨_, rfl, ?_⟩; have bL := Aside0.mk hk; have bM := Aside0.mk hr; have cf := Aside0.mk hb; have cQ := Aside0.mk (KeepBut.trans Z20 hkb (.inl rfl)); clear bC HO HB HK hk hr hb hkb; have bC := bL; have HO := bM; have HB := cf; have HK := cQ; clear bL bM cf cQ; have hz7 := (blk_cell bC.out 7).trans rfl; have hf7 := blk_frozen bC.out 7))
 go_end0
 exact ⟨rfl, u1, (by (with_reducible repeat (first | refine blk_drewN ?_ _ | refine blk_drew ?_ | refine blk_alloc ?_ _)); refine blk_put (cs := #[u1, .string p0, .string p1, .string p2, .string p3, .string h0, .string h1, .string id]) ?_ 7 _ rfl; (with_reducible repeat (first | refine blk_drewN ?_ _ | refine blk_drew ?_ | refine blk_alloc ?_ _)); exact bC.out), (by (with_reducible repeat (first | apply Kd.R_alloc | apply Kd.R_drewN | apply Kd.R_drew)); exact Kd.R_mono (Kd.R_far (p := ⟨g, 7, none⟩) (Kd.R_types HO.out bC.out Z34) (fun _ hk => hk.2) _) (fun _ _ => trivial)), Z10, Z21⟩

/-! ### lean_writer_hop: function 70 -/
def lean_writer_hop.f (xs : List Int) (h0 h1 : ByteArray) (a1 : Int) (a2 : ByteArray) : Option (List Int × ByteArray × ByteArray) := (addr_Short.f a2).bind fun s => if a1 = 0 then (if s.2 = true then (if 2 + s.1.size ≤ 9223372036854775807 then lean_writer_put.f xs 7 ((⟨#[3, 0]⟩ : ByteArray) ++ s.1) else none) else (if 2 + a2.size ≤ 9223372036854775807 then lean_writer_put.f xs 7 ((⟨#[1, 0]⟩ : ByteArray) ++ a2) else none)).bind fun y => some (y, a2, h1) else if a1 = 1 then (if s.2 = true then (if 2 + s.1.size ≤ 9223372036854775807 then lean_writer_put.f xs 7 ((⟨#[3, 0]⟩ : ByteArray) ++ s.1) else none) else (if 2 + a2.size ≤ 9223372036854775807 then lean_writer_put.f xs 7 ((⟨#[2, 0]⟩ : ByteArray) ++ a2) else none)).bind fun y => some (y, h0, a2) else none
set_option maxHeartbeats 8000000 in
set_option maxRecDepth 100000 in
theorem lean_writer_hop.calls (g : Nat) (u : Value) (p0 : ByteArray) (p1 : ByteArray) (p2 : ByteArray) (p3 : ByteArray) (h0 : ByteArray) (h1 : ByteArray) (id : ByteArray) (xs : List Int) (a1 : Int) (a2 : ByteArray) (ys : List Int) (j0 j1 : ByteArray) (w0 w : World) (hB : Below w0.heap.size w0 w) (hg : w0.heap.size ≤ g) (hK : w.heap[g]? = some (.cells #[u, .string p0, .string p1, .string p2, .string p3, .string h0, .string h1, .string id] 87 (0, 0))) (hR : Kd.R (Kd.int .u8) 5 w w0.heap.size (fun _ => True) u xs) (h : lean_writer_hop.f xs h0 h1 a1 a2 = some (ys, j0, j1)) :
  Calls Tryz.prog 70 #[.pointer (some ⟨g, 0, none⟩), .int .i64 a1, .string a2] w fun e w' => e = .returned (.tuple #[]) ∧ ∃ u', w'.heap[g]? = some (.cells #[u', .string p0, .string p1, .string p2, .string p3, .string j0, .string j1, .string id] 87 (0, 0)) ∧ Kd.R (Kd.int .u8) 5 w' w0.heap.size (fun _ => True) u' ys ∧ Below w0.heap.size w0 w' ∧ KeepBut w w' g u.ownBlock := by
 unfold lean_writer_hop.f at h
 obtain ⟨⟨s1, s2⟩, g1, h⟩ := Option.bind_eq_some_iff.mp h
 dsimp only at h
 have A0 := Aside0.mk g1
 clear g1
 have gU := Tryz.underlying87
 have ic := Tryz.underlying46
 have HB := Aside0.mk hB
 have dW := Aside0.mk hg
 have bC := Aside0.mk hK
 have HO := Aside0.mk hR
 have HK := Aside0.mk (KeepBut.refl w g u.ownBlock)
 clear hB hg hK hR
 by_cases c : a1 = 0
 ·subst c
  rw [if_pos rfl] at h
  cases s2
  ·obtain ⟨y, g2, h⟩ := Option.bind_eq_some_iff.mp h
   simp only [Option.some.injEq, Prod.mk.injEq] at h
   obtain ⟨rfl, rfl, rfl⟩ := h
   have h := g2
   clear g2
   rw [if_neg Bool.false_ne_true] at h
   have cz : 2 + a2.size ≤ 9223372036854775807 := by
    by_cases cz : 2 + a2.size ≤ 9223372036854775807
    ·exact cz
    ·rw [if_neg cz] at h; exact absurd h Z27
   rw [if_pos cz] at h
   have g0 := eq_true cz
   have gd : decide (2 + a2.size ≤ 9223372036854775807) = true := decide_eq_true cz
   have gf : (9223372036854775807 < 2 + a2.size) = False := eq_false (Nat.not_lt.2 cz)
   clear cz
   have A1 := Aside0.mk h
   clear h
   go_enter Tryz.func70, Tryz.ntmps70
   go_wp2_with (first | ((with_reducible refine gate_callee (f := 133) rfl ?_); refine goesL_ (some 10) rfl rfl Tryz.func133 Z12 rfl #[.string a2] rfl Z3 ?_; (with_reducible refine (addr_Short.calls a2 s1 false _ A0.out).mono ?_); rintro e w' ⟨rfl, ⟨nd, rfl⟩⟩; refine ⟨_, rfl, ?_⟩) | ((with_reducible refine gate_callee (f := 132) rfl ?_); refine goesL_ (some 29) rfl rfl Tryz.func132 Z12 rfl #[.pointer (some ⟨g, 0, none⟩), .int .i64 7, .string ((⟨#[1, 0]⟩ : ByteArray) ++ a2)] rfl Z3 ?_; (with_reducible refine (lean_writer_put.calls g u p0 p1 p2 p3 h0 h1 id xs 7 ((⟨#[1, 0]⟩ : ByteArray) ++ a2) y w0 _ Z10 dW.out Z14 Z15 A1.out).mono ?_); rintro e dL ⟨rfl, u1, hk, hr, hb, hkb⟩; refine ⟨_, rfl, ?_⟩; have bL := Aside0.mk hk; have bM := Aside0.mk hr; have cf := Aside0.mk hb; have cQ := Aside0.mk (KeepBut.trans Z20 hkb (.inl rfl)); clear bC HO HB HK hk hr hb hkb; have bC := bL; have HO := bM; have HB := cf; have HK := cQ; clear bL bM cf cQ; have hz_ := (blk_cell bC.out 5).trans rfl; have hf_ := blk_frozen bC.out 5))
   go_end0
   exact ⟨rfl, u1, Z32, Z38, Z10, Z21⟩
  ·obtain ⟨y, g2, h⟩ := Option.bind_eq_some_iff.mp h
   simp only [Option.some.injEq, Prod.mk.injEq] at h
   obtain ⟨rfl, rfl, rfl⟩ := h
   have h := g2
   clear g2
   rw [if_pos rfl] at h
   have cz : 2 + s1.size ≤ 9223372036854775807 := by
    by_cases cz : 2 + s1.size ≤ 9223372036854775807
    ·exact cz
    ·rw [if_neg cz] at h; exact absurd h Z27
   rw [if_pos cz] at h
   have g0 := eq_true cz
   have gd : decide (2 + s1.size ≤ 9223372036854775807) = true := decide_eq_true cz
   have gf : (9223372036854775807 < 2 + s1.size) = False := eq_false (Nat.not_lt.2 cz)
   clear cz
   have A1 := Aside0.mk h
   clear h
   go_enter Tryz.func70, Tryz.ntmps70
   go_wp2_with (first | ((with_reducible refine gate_callee (f := 133) rfl ?_); refine goesL_ (some 10) rfl rfl Tryz.func133 Z12 rfl #[.string a2] rfl Z3 ?_; (with_reducible refine (addr_Short.calls a2 s1 true _ A0.out).mono ?_); rintro e w' ⟨rfl, ⟨nd, rfl⟩⟩; refine ⟨_, rfl, ?_⟩) | ((with_reducible refine gate_callee (f := 132) rfl ?_); refine goesL_ (some 22) rfl rfl Tryz.func132 Z12 rfl #[.pointer (some ⟨g, 0, none⟩), .int .i64 7, .string ((⟨#[3, 0]⟩ : ByteArray) ++ s1)] rfl Z3 ?_; (with_reducible refine (lean_writer_put.calls g u p0 p1 p2 p3 h0 h1 id xs 7 ((⟨#[3, 0]⟩ : ByteArray) ++ s1) y w0 _ Z10 dW.out Z14 Z15 A1.out).mono ?_); rintro e dL ⟨rfl, u1, hk, hr, hb, hkb⟩; refine ⟨_, rfl, ?_⟩; have bL := Aside0.mk hk; have bM := Aside0.mk hr; have cf := Aside0.mk hb; have cQ := Aside0.mk (KeepBut.trans Z20 hkb (.inl rfl)); clear bC HO HB HK hk hr hb hkb; have bC := bL; have HO := bM; have HB := cf; have HK := cQ; clear bL bM cf cQ; have hz_ := (blk_cell bC.out 5).trans rfl; have hf_ := blk_frozen bC.out 5))
   go_end0
   exact ⟨rfl, u1, Z32, Z38, Z10, Z21⟩
 ·rw [if_neg c] at h
  by_cases c1 : a1 = 1
  ·subst c1
   rw [if_pos rfl] at h
   clear c
   cases s2
   ·obtain ⟨y, g2, h⟩ := Option.bind_eq_some_iff.mp h
    simp only [Option.some.injEq, Prod.mk.injEq] at h
    obtain ⟨rfl, rfl, rfl⟩ := h
    have h := g2
    clear g2
    rw [if_neg Bool.false_ne_true] at h
    have cz : 2 + a2.size ≤ 9223372036854775807 := by
     by_cases cz : 2 + a2.size ≤ 9223372036854775807
     ·exact cz
     ·rw [if_neg cz] at h; exact absurd h Z27
    rw [if_pos cz] at h
    have g0 := eq_true cz
    have gd : decide (2 + a2.size ≤ 9223372036854775807) = true := decide_eq_true cz
    have gf : (9223372036854775807 < 2 + a2.size) = False := eq_false (Nat.not_lt.2 cz)
    clear cz
    have A1 := Aside0.mk h
    clear h
    go_enter Tryz.func70, Tryz.ntmps70
    go_wp2_with (first | ((with_reducible refine gate_callee (f := 133) rfl ?_); refine goesL_ (some 10) rfl rfl Tryz.func133 Z12 rfl #[.string a2] rfl Z3 ?_; (with_reducible refine (addr_Short.calls a2 s1 false _ A0.out).mono ?_); rintro e w' ⟨rfl, ⟨nd, rfl⟩⟩; refine ⟨_, rfl, ?_⟩) | ((with_reducible refine gate_callee (f := 132) rfl ?_); refine goesL_ (some 16) rfl rfl Tryz.func132 Z12 rfl #[.pointer (some ⟨g, 0, none⟩), .int .i64 7, .string ((⟨#[2, 0]⟩ : ByteArray) ++ a2)] rfl Z3 ?_; (with_reducible refine (lean_writer_put.calls g u p0 p1 p2 p3 h0 h1 id xs 7 ((⟨#[2, 0]⟩ : ByteArray) ++ a2) y w0 _ Z10 dW.out Z14 Z15 A1.out).mono ?_); rintro e dL ⟨rfl, u1, hk, hr, hb, hkb⟩; refine ⟨_, rfl, ?_⟩; have bL := Aside0.mk hk; have bM := Aside0.mk hr; have cf := Aside0.mk hb; have cQ := Aside0.mk (KeepBut.trans Z20 hkb (.inl rfl)); clear bC HO HB HK hk hr hb hkb; have bC := bL; have HO := bM; have HB := cf; have HK := cQ; clear bL bM cf cQ; have hz_ := (blk_cell bC.out 6).trans rfl; have hf_ := blk_frozen bC.out 6))
    go_end0
    exact ⟨rfl, u1, Z31, Z37, Z10, Z21⟩
   ·obtain ⟨y, g2, h⟩ := Option.bind_eq_some_iff.mp h
    simp only [Option.some.injEq, Prod.mk.injEq] at h
    obtain ⟨rfl, rfl, rfl⟩ := h
    have h := g2
    clear g2
    rw [if_pos rfl] at h
    have cz : 2 + s1.size ≤ 9223372036854775807 := by
     by_cases cz : 2 + s1.size ≤ 9223372036854775807
     ·exact cz
     ·rw [if_neg cz] at h; exact absurd h Z27
    rw [if_pos cz] at h
    have g0 := eq_true cz
    have gd : decide (2 + s1.size ≤ 9223372036854775807) = true := decide_eq_true cz
    have gf : (9223372036854775807 < 2 + s1.size) = False := eq_false (Nat.not_lt.2 cz)
    clear cz
    have A1 := Aside0.mk h
    clear h
    go_enter Tryz.func70, Tryz.ntmps70
    go_wp2_with (first | ((with_reducible refine gate_callee (f := 133) rfl ?_); refine goesL_ (some 10) rfl rfl Tryz.func133 Z12 rfl #[.string a2] rfl Z3 ?_; (with_reducible refine (addr_Short.calls a2 s1 true _ A0.out).mono ?_); rintro e w' ⟨rfl, ⟨nd, rfl⟩⟩; refine ⟨_, rfl, ?_⟩) | ((with_reducible refine gate_callee (f := 132) rfl ?_); refine goesL_ (some 22) rfl rfl Tryz.func132 Z12 rfl #[.pointer (some ⟨g, 0, none⟩), .int .i64 7, .string ((⟨#[3, 0]⟩ : ByteArray) ++ s1)] rfl Z3 ?_; (with_reducible refine (lean_writer_put.calls g u p0 p1 p2 p3 h0 h1 id xs 7 ((⟨#[3, 0]⟩ : ByteArray) ++ s1) y w0 _ Z10 dW.out Z14 Z15 A1.out).mono ?_); rintro e dL ⟨rfl, u1, hk, hr, hb, hkb⟩; refine ⟨_, rfl, ?_⟩; have bL := Aside0.mk hk; have bM := Aside0.mk hr; have cf := Aside0.mk hb; have cQ := Aside0.mk (KeepBut.trans Z20 hkb (.inl rfl)); clear bC HO HB HK hk hr hb hkb; have bC := bL; have HO := bM; have HB := cf; have HK := cQ; clear bL bM cf cQ; have hz_ := (blk_cell bC.out 6).trans rfl; have hf_ := blk_frozen bC.out 6))
    go_end0
    exact ⟨rfl, u1, Z31, Z37, Z10, Z21⟩
  ·rw [if_neg c1] at h; exact absurd h Z27

/-! ### lean_base: function 137 -/
def lean_base.f (a0 : Int) : Option (Int) := if a0 = 3 then (some 8) else (some 0)
set_option maxHeartbeats 8000000 in
set_option maxRecDepth 100000 in
theorem lean_base.calls (a0 : Int) (r : Int) (w : World) (h : lean_base.f a0 = some r) :
  Calls Tryz.prog 137 #[.int .i64 a0] w fun e w' => e = .returned (.int .i64 r) ∧ Drawn0 w w' := by
 have H : (if a0 = 3 then (some 8) else (some 0)) = some r := h
 clear h
 by_cases c2 : a0 = 3
 ·rw [if_pos c2] at H
  have cK : (a0 == 3) = true := beq_iff_eq.mpr c2
  have cR : (a0 != 3) = false := bne_eq_false_iff_eq.mpr c2
  clear c2
  obtain rfl := Option.some.inj H
  go_enter Tryz.func137, Tryz.ntmps137
  go_wp2
  go_ret
  exact ⟨Z8, Z11⟩
 ·rw [if_neg c2] at H
  have cK : (a0 == 3) = false := beq_eq_false_iff_ne.mpr c2
  have cR : (a0 != 3) = true := bne_iff_ne.mpr c2
  obtain rfl := Option.some.inj H
  go_enter Tryz.func137, Tryz.ntmps137
  go_wp2
  go_ret
  exact ⟨Z8, Z11⟩

/-! ### lean_bytes: function 135 -/
def lean_bytes.f (ar : Int) (aC : Int) (az : Int) (ay : ByteArray) (aA : Int) (au : Int) (aw : ByteArray) (av : Int) (aD : Int) (ax : ByteArray) (am : Int) (ag : ByteArray) (ac : Int) (aq : Int) (ab : Int) (ao : Int) (ak : Int) (ai : Int) (ae : Int) (ah : ByteArray) (ap : ByteArray) (aa : List (S78)) (aj : Int) (al : ByteArray) (af : List (S80)) : Option (ByteArray) := (prefix_Cut.f aw av).bind fun bl => ((lean_base.f au).bind fun bK => (if 0 ≤ bK then (if bK ≤ (bl.size : Int) then (some (bl.extract (bK : Int).toNat bl.size)) else (none)) else (none)))
def lean_bytes.T1 : Bool × List (List Nat × List Nat) := (true, [([], []), ([0], [0]), ([], []), ([2], [2]), ([1, 3], [1, 3]), ([], []), ([5], [5]), ([6, 4], [6]), ([4, 7], [4, 7]), ([8, 7, 0, 1, 2, 3, 4, 5, 6, 7, 8], [8])])
def lean_bytes.B1 : List Nat := [0, 1, 0, 4, 15, 0, 32, 127, 255, 511]
theorem lean_bytes.tab1 : rtab .any (opsOf Tryz.f135 1) = lean_bytes.T1 := by kernel_rfl
theorem lean_bytes.bits1 : waitsOk lean_bytes.T1.2 lean_bytes.B1 = true := by kernel_rfl
set_option maxHeartbeats 8000000 in
set_option maxRecDepth 100000 in
theorem lean_bytes.calls (ar : Int) (aC : Int) (az : Int) (ay : ByteArray) (aA : Int) (au : Int) (aw : ByteArray) (av : Int) (aD : Int) (ax : ByteArray) (am : Int) (ag : ByteArray) (ac : Int) (aq : Int) (ab : Int) (ao : Int) (ak : Int) (ai : Int) (ae : Int) (ah : ByteArray) (ap : ByteArray) (aJ : Option Addr) (aK : Nat) (aa : List (S78)) (aj : Int) (al : ByteArray) (aH : Option Addr) (aI : Nat) (af : List (S80)) (r : ByteArray) (w : World) (bD : Kd.C k78 w aJ aa.length aa) (bE : aa.length ≤ aK) (bF : Kd.C k80 w aH af.length af) (bG : af.length ≤ aI) (h : lean_bytes.f ar aC az ay aA au aw av aD ax am ag ac aq ab ao ak ai ae ah ap aa aj al af = some r) :
  Calls Tryz.prog 135 #[.agg #[.int .i64 ar, .int .i64 aC, .int .i64 az, .string ay, .int .i64 aA, .int .i64 au, .string aw, .int .i64 av, .int .i64 aD, .string ax, .int .i64 am, .string ag, .int .i64 ac, .int .i64 aq, .int .i64 ab, .int .i64 ao, .int .i64 ak, .int .i64 ai, .int .i64 ae, .string ah, .string ap, .slice aJ aa.length aK, .int .i64 aj, .string al, .slice aH af.length aI]] w fun e w' => e = .returned (.string r) ∧ Below w.heap.size w w' := by
 have dP := Tryz.underlying32
 have bY := Aside0.mk bD
 have bH := Aside0.mk bE
 clear bD bE
 have bZ := Aside0.mk bF
 have aT := Aside0.mk bG
 clear bF bG
 have HB := Aside0.mk (Below.refl w.heap.size w)
 have H : ((prefix_Cut.f aw av).bind fun bl => ((lean_base.f au).bind fun bK => (if 0 ≤ bK then (if bK ≤ (bl.size : Int) then (some (bl.extract (bK : Int).toNat bl.size)) else (none)) else (none)))) = some r := h
 clear h
 replace H := Option.bind_eq_some_iff.mp H
 obtain ⟨bl, dQ, H⟩ := H
 replace H : ((lean_base.f au).bind fun bK => (if 0 ≤ bK then (if bK ≤ (bl.size : Int) then (some (bl.extract (bK : Int).toNat bl.size)) else (none)) else (none))) = some r := H
 have A2 := Aside0.mk dQ
 clear dQ
 replace H := Option.bind_eq_some_iff.mp H
 obtain ⟨bK, cU, H⟩ := H
 replace H : (if 0 ≤ bK then (if bK ≤ (bl.size : Int) then (some (bl.extract (bK : Int).toNat bl.size)) else (none)) else (none)) = some r := H
 have A3 := Aside0.mk cU
 clear cU
 by_cases c4 : 0 ≤ bK
 ·rw [if_pos c4] at H
  have bP := eq_true c4
  have cl : decide (0 ≤ bK) = true := decide_eq_true c4
  clear c4
  by_cases c5 : bK ≤ (bl.size : Int)
  ·rw [if_pos c5] at H
   have ca := eq_true c5
   have dM : decide (bK ≤ (bl.size : Int)) = true := decide_eq_true c5
   clear c5
   obtain rfl := Option.some.inj H
   go_enter Tryz.func135, Tryz.ntmps135
   try go_wp2_with (first | ((with_reducible refine gate_dst (N := 1) rfl ?_); refine Sq.box 1 #[.int .i64 ar, .int .i64 aC, .int .i64 az, .string ay, .int .i64 aA, .int .i64 au, .string aw, .int .i64 av, .int .i64 aD, .string ax, .int .i64 am, .string ag, .int .i64 ac, .int .i64 aq, .int .i64 ab, .int .i64 ao, .int .i64 ak, .int .i64 ai, .int .i64 ae, .string ah, .string ap, .slice aJ aa.length aK, .int .i64 aj, .string al, .slice aH af.length aI] 32 ?_; intro aN hg w6 hbox hb; have aE := Aside0.mk (hbox); have cG := Aside0.mk (Sq.ge hg Z2); have cg := Aside0.mk (Sq.ge hg Z2); replace HB := Aside0.mk (below_step Z2 hb); clear hb hbox hg))
   have bL := Aside0.mk (blk_drew aE.out)
   have bM := Aside0.mk (below_drew1 HB.out)
   clear aE
   clear HB
   have aE := bL
   have HB := bM
   clear bL bM
   refine start_ (n := 10) (S := fun w' => w'.cell? ⟨aN, 5, none⟩ = some (.int .i64 au) ∧ w'.cell? ⟨aN, 6, none⟩ = some (.string aw) ∧ w'.cell? ⟨aN, 7, none⟩ = some (.int .i64 av)) (ds := []) (Sq.b 10 0) Z12 rfl rfl ⟨Sq.bc aE 5, Sq.bc aE 6, Sq.bc aE 7⟩ (fun hHeld => ?_); refine with_tabW lean_bytes.tab1 lean_bytes.bits1 (fun HT_ HW_ => ?_)
   generalize w6.drew = w7 at aE HB hHeld ⊢
   refine Sq.pur 0 (some 3) (Sq.b 10 1) HT_.out ?_
   refine Sq.pur 2 (some 5) (Sq.b 10 5) HT_.out ?_
   refine Sq.pur 5 (some 8) (Sq.b 10 37) HT_.out ?_
   refine Sq.tak 1 (some 4) (Sq.b 10 39) HT_.out HW_.out hHeld (v := ?_) (a' := ?_) ?_ ?_ ?_
   rotate_left
   ·rintro w' ⟨s0, s1, s2⟩
    go_simp
    with_reducible rfl
   rotate_left
   ·simp only [Act.put, Sq.s1, Sq.s2, Sq.s3, i64_w, i32_w]
    rfl
   refine Sq.tak 3 (some 6) (Sq.b 10 47) HT_.out HW_.out hHeld (v := ?_) (a' := ?_) ?_ ?_ ?_
   rotate_left
   ·rintro w' ⟨s0, s1, s2⟩
    go_simp
    with_reducible rfl
   rotate_left
   ·simp only [Act.put, Sq.s1, Sq.s2, Sq.s3, i64_w, i32_w]
    rfl
   refine Sq.tak 6 (some 9) (Sq.b 10 111) HT_.out HW_.out hHeld (v := ?_) (a' := ?_) ?_ ?_ ?_
   rotate_left
   ·rintro w' ⟨s0, s1, s2⟩
    go_simp
    with_reducible rfl
   rotate_left
   ·simp only [Act.put, Sq.s1, Sq.s2, Sq.s3, i64_w, i32_w]
    rfl
   refine one_ (i := 4) (N := some 7) (Sq.b 10 127) rfl rfl (one_of HT_.out Z12) Z34 (fun K hK => ?_)
   refine goes_ Tryz.func169 Z12 rfl #[.string aw, .int .i64 av] Z16 rfl rfl Z3 ?_
   with_reducible refine (prefix_Cut.calls aw av bl _ A2.out).mono ?_
   rintro e w8 ⟨rfl, hb⟩
   refine ⟨_, rfl, ?_⟩
   have bL := Aside0.mk (blk_below (g := aN) Z4 hb)
   have bM := Aside0.mk (below_step Z1 hb)
   clear aE
   clear HB
   have aE := bL
   have HB := bM
   clear bL bM
   (try clear hb)
   (try clear hb2)
   (try clear hk)
   (try clear hi)
   refine hK.out _ _ ⟨Sq.bc aE 5, Sq.bc aE 6, Sq.bc aE 7⟩ (fun hHeld => ?_)
   clear hK K
   refine norm_ (a' := ?_) ?_ ?_
   rotate_left
   ·show Act.put _ (some 7) _ = _
    simp only [Act.put, Sq.s1, Sq.s2, Sq.s3, i64_w, i32_w]
    rfl
   refine one_ (i := 7) (N := some 10) (Sq.b 10 255) rfl rfl (one_of HT_.out Z12) Z34 (fun K hK => ?_)
   refine goes_ Tryz.func137 Z12 rfl #[.int .i64 au] Z16 rfl rfl Z3 ?_
   with_reducible refine (lean_base.calls au bK _ A3.out).mono ?_
   rintro e w' ⟨rfl, ⟨nd, rfl⟩⟩
   refine ⟨_, rfl, ?_⟩
   refine hK.out _ _ ⟨Sq.bc aE 5, Sq.bc aE 6, Sq.bc aE 7⟩ (fun hHeld => ?_)
   clear hK K
   refine norm_ (a' := ?_) ?_ ?_
   rotate_left
   ·show Act.put _ (some 10) _ = _
    simp only [Act.put, Sq.s1, Sq.s2, Sq.s3, i64_w, i32_w]
    rfl
   refine Sq.pur 8 (some 11) (Sq.b 10 511) HT_.out ?_
   refine Sq.pur 9 (some 2) (Sq.b 10 1023) HT_.out ?_
   refine done_ (done_of HT_.out Z12) ?_
   try go_wp2
   go_ret
   exact ⟨Z5, Z1⟩
  ·rw [if_neg c5] at H
   exact absurd H Z27
 ·rw [if_neg c4] at H
  exact absurd H Z27

/-! ### lean_writer_update: function 71 -/
/-- The default prefixes behind an Update. -/
def lean_writer_update.p (p1 p2 p3 : ByteArray) (a : Int) (x : ByteArray) : Option (ByteArray × ByteArray × ByteArray) := if a = 0 then some (p1, p2, p3) else if a = 1 then some (x, p2, p3) else if a = 2 then some (p1, x, p3) else if a = 3 then some (p1, p2, x) else none
def lean_writer_update.h (a p n : Int) : List Int := [a % 256, if a = 0 then 0 else 128, p % 256, n % 256]
def lean_writer_update.c (k : Nat) (xs : List Int) (ar : Int) (aC : Int) (az : Int) (ay : ByteArray) (aA : Int) (au : Int) (aw : ByteArray) (av : Int) (aD : Int) (ax : ByteArray) (am : Int) (ag : ByteArray) (ac : Int) (aq : Int) (ab : Int) (ao : Int) (ak : Int) (ai : Int) (ae : Int) (ah : ByteArray) (ap : ByteArray) (aa : List S78) (aj : Int) (al : ByteArray) (af : List S80) (n : Int) : Option (List Int) := (field_writer_two.l k [ab, ac, am] (lean_writer_update.h au av n) 0).bind fun hd => (sub_Put.f k af).bind fun s => (lean_bytes.f ar aC az ay aA au aw av aD ax am ag ac aq ab ao ak ai ae ah ap aa aj al af).bind fun y => (if 0 ≤ n then (if n ≤ (y.size : Int) then (if hd.length + (y.extract n.toNat y.size).size + s.1.size ≤ 9223372036854775807 then lean_writer_put.f xs 8 (strOfNums hd ++ y.extract n.toNat y.size ++ s.1) else none) else none) else none)
def lean_writer_update.f (k : Nat) (xs : List Int) (p1 p2 p3 : ByteArray) (ar : Int) (aC : Int) (az : Int) (ay : ByteArray) (aA : Int) (au : Int) (aw : ByteArray) (av : Int) (aD : Int) (ax : ByteArray) (am : Int) (ag : ByteArray) (ac : Int) (aq : Int) (ab : Int) (ao : Int) (ak : Int) (ai : Int) (ae : Int) (ah : ByteArray) (ap : ByteArray) (aa : List S78) (aj : Int) (al : ByteArray) (af : List S80) (n : Int) : Option (List Int × ByteArray × ByteArray × ByteArray) := (lean_writer_update.p p1 p2 p3 au aw).bind fun q => (lean_writer_update.c k xs ar aC az ay aA au aw av aD ax am ag ac aq ab ao ak ai ae ah ap aa aj al af n).bind fun ys => some (ys, q.1, q.2.1, q.2.2)
theorem lean_writer_update.mono : ∀ xs p1 p2 p3 ar aC az ay aA au aw av aD ax am ag ac aq ab ao ak ai ae ah ap aa aj al af n k, LeO (lean_writer_update.f k xs p1 p2 p3 ar aC az ay aA au aw av aD ax am ag ac aq ab ao ak ai ae ah ap aa aj al af n) (lean_writer_update.f (k + 1) xs p1 p2 p3 ar aC az ay aA au aw av aD ax am ag ac aq ab ao ak ai ae ah ap aa aj al af n) := by
 intros
 rename_i k
 unfold lean_writer_update.f lean_writer_update.c
 have m0 := field_writer_two.mono
 have m1 := sub_Put.mono
 exact Sq.mo
def lean_writer_update.T4 : Bool × List (List Nat × List Nat) := (true, [([], []), ([], []), ([1], [1]), ([], []), ([3], [3]), ([0], [0]), ([5], [5]), ([6], [6]), ([7, 2, 0, 1, 2, 3, 4], [2, 7]), ([8, 4, 0, 1, 2, 3, 4], [4, 8])])
def lean_writer_update.B4 : List Nat := [0, 0, 2, 0, 8, 1, 33, 97, 255, 511]
theorem lean_writer_update.tab4 : rtab .any (opsOf Tryz.f71 4) = lean_writer_update.T4 := by kernel_rfl
theorem lean_writer_update.bits4 : waitsOk lean_writer_update.T4.2 lean_writer_update.B4 = true := by kernel_rfl
def lean_writer_update.T11 : Bool × List (List Nat × List Nat) := (true, [([], []), ([], []), ([1], [1]), ([], []), ([3], [3]), ([], []), ([4, 5], [4, 5]), ([2, 6], [2, 6]), ([], []), ([7, 8], [7, 8]), ([0, 9, 4], [0, 9])])
def lean_writer_update.B11 : List Nat := [0, 0, 2, 0, 8, 0, 56, 126, 0, 510, 1023]
theorem lean_writer_update.tab11 : rtab .any (opsOf Tryz.f71 11) = lean_writer_update.T11 := by kernel_rfl
theorem lean_writer_update.bits11 : waitsOk lean_writer_update.T11.2 lean_writer_update.B11 = true := by kernel_rfl
set_option maxHeartbeats 8000000 in
set_option maxRecDepth 100000 in
theorem lean_writer_update.calls (k : Nat) (g : Nat) (u : Value) (p0 : ByteArray) (p1 : ByteArray) (p2 : ByteArray) (p3 : ByteArray) (h0 : ByteArray) (h1 : ByteArray) (id : ByteArray) (xs : List Int) (ar : Int) (aC : Int) (az : Int) (ay : ByteArray) (aA : Int) (au : Int) (aw : ByteArray) (av : Int) (aD : Int) (ax : ByteArray) (am : Int) (ag : ByteArray) (ac : Int) (aq : Int) (ab : Int) (ao : Int) (ak : Int) (ai : Int) (ae : Int) (ah : ByteArray) (ap : ByteArray) (aJ : Option Addr) (aK : Nat) (aa : List S78) (aj : Int) (al : ByteArray) (aH : Option Addr) (aI : Nat) (af : List S80) (n : Int) (ys : List Int) (q1 q2 q3 : ByteArray) (w0 w : World) (hB : Below w0.heap.size w0 w) (hg : w0.heap.size ≤ g) (hK : w.heap[g]? = some (.cells #[u, .string p0, .string p1, .string p2, .string p3, .string h0, .string h1, .string id] 87 (0, 0))) (hR : Kd.R (Kd.int .u8) 5 w w0.heap.size (fun _ => True) u xs) (bD : Kd.C k78 w0 aJ aa.length aa) (bE : aa.length ≤ aK) (bF : Kd.C k80 w0 aH af.length af) (bG : af.length ≤ aI) (h : lean_writer_update.f k xs p1 p2 p3 ar aC az ay aA au aw av aD ax am ag ac aq ab ao ak ai ae ah ap aa aj al af n = some (ys, q1, q2, q3)) :
  Calls Tryz.prog 71 #[.pointer (some ⟨g, 0, none⟩), .agg #[.int .i64 ar, .int .i64 aC, .int .i64 az, .string ay, .int .i64 aA, .int .i64 au, .string aw, .int .i64 av, .int .i64 aD, .string ax, .int .i64 am, .string ag, .int .i64 ac, .int .i64 aq, .int .i64 ab, .int .i64 ao, .int .i64 ak, .int .i64 ai, .int .i64 ae, .string ah, .string ap, .slice aJ aa.length aK, .int .i64 aj, .string al, .slice aH af.length aI], .int .i64 n] w fun e w' => e = .returned (.tuple #[]) ∧ ∃ u', w'.heap[g]? = some (.cells #[u', .string p0, .string q1, .string q2, .string q3, .string h0, .string h1, .string id] 87 (0, 0)) ∧ Kd.R (Kd.int .u8) 5 w' w0.heap.size (fun _ => True) u' ys ∧ Below w0.heap.size w0 w' ∧ KeepBut w w' g u.ownBlock := by
 have hu := Tryz.underlying32
 have gU := Tryz.underlying87
 have ic := Tryz.underlying46
 have hu43 := Tryz.underlying43
 have eA := Aside0.mk bD
 have eB := Aside0.mk bE
 have dZ := Aside0.mk bF
 have cX := Aside0.mk bG
 have dv := Aside0.mk (Kd.R_types hR hK Z34)
 have dW := Aside0.mk hg
 have bC := Aside0.mk hK
 have HB := Aside0.mk hB
 have HK := Aside0.mk (KeepBut.refl w g none)
 clear bD bE bF bG hR hg hK hB
 unfold lean_writer_update.f at h
 obtain ⟨⟨z1, z2, z3⟩, g1, h⟩ := Option.bind_eq_some_iff.mp h
 obtain ⟨ys', g2, h⟩ := Option.bind_eq_some_iff.mp h
 simp only [Option.some.injEq, Prod.mk.injEq] at h
 obtain ⟨rfl, rfl, rfl, rfl⟩ := h
 have A0 := Aside0.mk g1
 have HA := Aside0.mk g2
 clear g1 g2
 go_enter Tryz.func71, Tryz.ntmps71
 go_upto_if 22 with (first | ((with_reducible refine gate_dst (N := 4) rfl ?_); refine Sq.box 4 #[.int .i64 ar, .int .i64 aC, .int .i64 az, .string ay, .int .i64 aA, .int .i64 au, .string aw, .int .i64 av, .int .i64 aD, .string ax, .int .i64 am, .string ag, .int .i64 ac, .int .i64 aq, .int .i64 ab, .int .i64 ao, .int .i64 ak, .int .i64 ai, .int .i64 ae, .string ah, .string ap, .slice aJ aa.length aK, .int .i64 aj, .string al, .slice aH af.length aI] 32 ?_; intro gm hg w1 hbox hb; have aY := Aside0.mk hbox; have NB := Aside0.mk (show g ≠ gm from by rw [hg]; exact Nat.ne_of_lt (blk_lt bC.out)); replace bC := Aside0.mk (blk_below (g := g) bC.out hb); replace HK := Aside0.mk (KeepBut.trans HK.out (KeepBut.of_below hb g none) (.inl rfl)); replace HB := Aside0.mk (below_step HB.out hb); clear hb hbox hg; have hm5 := (blk_cell aY.out 5).trans rfl; have hm7 := (blk_cell aY.out 7).trans rfl) | ((with_reducible refine gate_dst (N := 19) rfl ?_); refine Kd.R_lit (Kd.int .u8) _ 5 ?hg (N := 19) ?hd (xs := ([au % 256, 128, av % 256, n % 256] : List Int)) (inner := [.int .u8 (au % 256), .int .u8 (128), .int .u8 (av % 256), .int .u8 (n % 256)]) (ok := fun _ => True) (okp := fun _ => True) ?hr ?hp (fun _ hk => hk) trivial (Below.refl _ _) (Nat.le_refl _) Z27 ?_; (case hd => rfl); (case hg => rfl); (case hr => first | (go_simp; done) | (go_simp; rfl)); (case hp => exact (Reps.one (show Kd.M (Kd.int .u8) _ _ _ (au % 256) [.int .u8 (au % 256)] from rfl) (Reps.one (show Kd.M (Kd.int .u8) _ _ _ (128) [.int .u8 (128)] from rfl) (Reps.one (show Kd.M (Kd.int .u8) _ _ _ (av % 256) [.int .u8 (av % 256)] from rfl) (Reps.one (show Kd.M (Kd.int .u8) _ _ _ (n % 256) [.int .u8 (n % 256)] from rfl) (Reps.none _ _)))))); intro v4 w4 ho19 hb hg_ hnew_; have UO := Aside0.mk (show ((v4 : Value).ownBlock = none ∨ ∃ b, (v4 : Value).ownBlock = some b ∧ w.heap.size ≤ b) from hnew_.elim (fun b hb_ => .inr ⟨b, hb_.1, Nat.le_trans HK.out.1 hb_.2⟩)); have BO := Aside0.mk (Kd.R_lower ho19 (below_size HB.out)); replace bC := Aside0.mk (blk_below (g := g) bC.out hb); replace aY := Aside0.mk (blk_below (g := gm) aY.out hb); replace HK := Aside0.mk (KeepBut.trans HK.out (KeepBut.of_below hb g none) (.inl rfl)); replace HB := Aside0.mk (below_step HB.out hb); clear hb hg_ hnew_ ho19 hm5 hm7; have hm5 := (blk_cell aY.out 5).trans rfl; obtain ⟨Ab, cb, eo21⟩ := Kd.R_slice BO.out; subst eo21))
 go_cut [6] (fun v6 wc => ∃ (Ab : Option Addr) (cb : Nat), v6 = .slice Ab 4 cb ∧ Aside0 (Kd.R (Kd.int .u8) 5 wc w0.heap.size (fun _ => True) (.slice Ab 4 cb) (lean_writer_update.h au av n)) ∧ Aside0 ((.slice Ab 4 cb : Value).ownBlock = none ∨ ∃ b, (.slice Ab 4 cb : Value).ownBlock = some b ∧ w.heap.size ≤ b) ∧ Aside0 (wc.heap[g]? = some (.cells #[u, .string p0, .string z1, .string z2, .string z3, .string h0, .string h1, .string id] 87 (0, 0))) ∧ Aside0 (wc.heap[gm]? = some (.cells #[.int .i64 ar, .int .i64 aC, .int .i64 az, .string ay, .int .i64 aA, .int .i64 au, .string aw, .int .i64 av, .int .i64 aD, .string ax, .int .i64 am, .string ag, .int .i64 ac, .int .i64 aq, .int .i64 ab, .int .i64 ao, .int .i64 ak, .int .i64 ai, .int .i64 ae, .string ah, .string ap, .slice aJ aa.length aK, .int .i64 aj, .string al, .slice aH af.length aI] 32 (0, 0))) ∧ Aside0 (Below w0.heap.size w0 wc) ∧ Aside0 (KeepBut w wc g none))
 case first =>
  have h := A0.out
  clear A0 HA
  unfold lean_writer_update.p at h
  by_cases c : au = 0
  ·subst c
   rw [if_pos rfl] at h
   simp only [Option.some.injEq, Prod.mk.injEq] at h
   obtain ⟨rfl, rfl, rfl⟩ := h
   obtain ⟨go, co, eo, hF, gl, cl, HG⟩ := Kd.R_form BO.out Z27
   (first | cases eo | (injection eo with ea_ en_ ec_; (first | subst ea_ | (injection ea_ with ea_; subst ea_)); subst ec_; clear en_))
   obtain ⟨hx, hf⟩ := Kd.R_celln 0 BO.out (1 : Int) Z34 Z27
   replace hx : w4.cell? ⟨go, 1, none⟩ = some (.int .u8 128) := hx
   replace hf : w4.frozen? ⟨go, 1, none⟩ = false := hf
   have P := Kd.R_putg BO.out 1 0
   have UG : w.heap.size ≤ go := by
    rcases UO.out with e | ⟨b, e, hl⟩
    ·replace e : some go = none := e
     cases e
    ·replace e : some go = some b := e
     cases e
     exact hl
   have N0 := blk_ne bC.out HG Z34
   have N1 := blk_ne aY.out HG Z34
   go_wp2
   go_meet
   case rel => exact ⟨_, _, rfl, ⟨P.1⟩, UO, ⟨blk_grown bC.out P.2 (fun e => N0 (Option.some.inj e))⟩, ⟨blk_grown aY.out P.2 (fun e => N1 (Option.some.inj e))⟩, ⟨below_set HB.out hF⟩, ⟨KeepBut.trans HK.out (KeepBut.of_grown P.2 g) (.inr ⟨_, rfl, UG⟩)⟩⟩
  rw [if_neg c] at h
  have CC := Aside0.mk c
  clear c
  by_cases c : au = 1
  ·have CN := CC.out
   subst c
   rw [if_pos rfl] at h
   simp only [Option.some.injEq, Prod.mk.injEq] at h
   obtain ⟨rfl, rfl, rfl⟩ := h
   clear CN CC
   go_upto_region 4 with (first | (fail))
   clear hm5
   replace bC := Aside0.mk (blk_drew bC.out)
   replace aY := Aside0.mk (blk_drew aY.out)
   replace BO := Aside0.mk (Kd.R_drew BO.out)
   replace HB := Aside0.mk (below_drew1 HB.out)
   replace HK := Aside0.mk (keep_drew HK.out)
   refine start_ (n := 10) (S := fun w' => w'.cell? ⟨gm, 5, none⟩ = some (.int .i64 1) ∧ w'.cell? ⟨gm, 6, none⟩ = some (.string aw)) (ds := [9]) (Sq.b 10 0) Z12 rfl rfl ⟨Sq.bc aY 5, Sq.bc aY 6⟩ (fun hHeld => ?_)
   refine with_tabW lean_writer_update.tab4 lean_writer_update.bits4 (fun HT_ HW_ => ?_)
   generalize World.drew _ = w9 at bC aY BO HB HK hHeld ⊢
   refine Sq.pur 0 (some 25) (Sq.b 10 1) HT_.out ?_
   refine Sq.pur 1 (some 26) (Sq.b 10 3) HT_.out ?_
   refine Sq.pur 3 (some 28) (Sq.b 10 11) HT_.out ?_
   refine Sq.pur 5 (some 30) (Sq.b 10 43) HT_.out ?_
   refine Sq.pur 6 (some 31) (Sq.b 10 107) HT_.out ?_
   refine Sq.pur 7 (some 32) (Sq.b 10 235) HT_.out ?_
   refine Sq.tak 2 (some 27) (Sq.b 10 239) HT_.out HW_.out hHeld (v := ?_) (a' := ?_) ?_ ?_ ?_
   rotate_left
   ·rintro w' ⟨s0, s1⟩
    (go_simp; with_reducible rfl)
   rotate_left
   ·simp only [Act.put, Sq.s1, Sq.s2, Sq.s3, i64_w, i32_w]
    rfl
   refine Sq.tak 4 (some 29) (Sq.b 10 255) HT_.out HW_.out hHeld (v := ?_) (a' := ?_) ?_ ?_ ?_
   rotate_left
   ·rintro w' ⟨s0, s1⟩
    (go_simp; with_reducible rfl)
   rotate_left
   ·simp only [Act.put, Sq.s1, Sq.s2, Sq.s3, i64_w, i32_w]
    rfl
   refine Sq.pur 8 (some 33) (Sq.b 10 511) HT_.out ?_
   refine last_ (i := 9) (N := none) (Sq.b 10 1023) rfl rfl (one_of HT_.out Z12) Z34 (fun K hK => ?_)
   have hs_ := (blk_cell bC.out 2).trans (c := some (.string p1)) rfl
   have hf_ := blk_frozen bC.out 2
   refine skip_ (w1 := ?_) Z16 rfl ?_ ?_
   rotate_left
   ·go_simp
    rfl
   refine hK.out _ _ ?_
   clear hK K
   refine done_ (done_of HT_.out Z12) ?_
   go_wp2
   go_meet
   case rel => exact ⟨Ab, cb, rfl, ⟨(Kd.R_mono (Kd.R_far (p := ⟨g, 2, none⟩) (Kd.R_types BO.out bC.out Z34) (fun _ hk => hk.2) _) (fun _ _ => trivial))⟩, UO, ⟨blk_put (cs := #[u, .string p0, .string p1, .string p2, .string p3, .string h0, .string h1, .string id]) bC.out 2 _ rfl⟩, ⟨blk_far (p := ⟨g, 2, none⟩) aY.out NB.out.symm _⟩, ⟨below_set HB.out dW.out⟩, ⟨KeepBut.set_ HK.out _ _⟩⟩
  rw [if_neg c] at h
  clear c
  by_cases c : au = 2
  ·have CN := CC.out
   subst c
   rw [if_pos rfl] at h
   simp only [Option.some.injEq, Prod.mk.injEq] at h
   obtain ⟨rfl, rfl, rfl⟩ := h
   clear CN CC
   go_upto_region 4 with (first | (fail))
   clear hm5
   replace bC := Aside0.mk (blk_drew bC.out)
   replace aY := Aside0.mk (blk_drew aY.out)
   replace BO := Aside0.mk (Kd.R_drew BO.out)
   replace HB := Aside0.mk (below_drew1 HB.out)
   replace HK := Aside0.mk (keep_drew HK.out)
   refine start_ (n := 10) (S := fun w' => w'.cell? ⟨gm, 5, none⟩ = some (.int .i64 2) ∧ w'.cell? ⟨gm, 6, none⟩ = some (.string aw)) (ds := [9]) (Sq.b 10 0) Z12 rfl rfl ⟨Sq.bc aY 5, Sq.bc aY 6⟩ (fun hHeld => ?_)
   refine with_tabW lean_writer_update.tab4 lean_writer_update.bits4 (fun HT_ HW_ => ?_)
   generalize World.drew _ = w9 at bC aY BO HB HK hHeld ⊢
   refine Sq.pur 0 (some 25) (Sq.b 10 1) HT_.out ?_
   refine Sq.pur 1 (some 26) (Sq.b 10 3) HT_.out ?_
   refine Sq.pur 3 (some 28) (Sq.b 10 11) HT_.out ?_
   refine Sq.pur 5 (some 30) (Sq.b 10 43) HT_.out ?_
   refine Sq.pur 6 (some 31) (Sq.b 10 107) HT_.out ?_
   refine Sq.pur 7 (some 32) (Sq.b 10 235) HT_.out ?_
   refine Sq.tak 2 (some 27) (Sq.b 10 239) HT_.out HW_.out hHeld (v := ?_) (a' := ?_) ?_ ?_ ?_
   rotate_left
   ·rintro w' ⟨s0, s1⟩
    (go_simp; with_reducible rfl)
   rotate_left
   ·simp only [Act.put, Sq.s1, Sq.s2, Sq.s3, i64_w, i32_w]
    rfl
   refine Sq.tak 4 (some 29) (Sq.b 10 255) HT_.out HW_.out hHeld (v := ?_) (a' := ?_) ?_ ?_ ?_
   rotate_left
   ·rintro w' ⟨s0, s1⟩
    (go_simp; with_reducible rfl)
   rotate_left
   ·simp only [Act.put, Sq.s1, Sq.s2, Sq.s3, i64_w, i32_w]
    rfl
   refine Sq.pur 8 (some 33) (Sq.b 10 511) HT_.out ?_
   refine last_ (i := 9) (N := none) (Sq.b 10 1023) rfl rfl (one_of HT_.out Z12) Z34 (fun K hK => ?_)
   have hs_ := (blk_cell bC.out 3).trans (c := some (.string p2)) rfl
   have hf_ := blk_frozen bC.out 3
   refine skip_ (w1 := ?_) Z16 rfl ?_ ?_
   rotate_left
   ·go_simp
    rfl
   refine hK.out _ _ ?_
   clear hK K
   refine done_ (done_of HT_.out Z12) ?_
   go_wp2
   go_meet
   case rel => exact ⟨Ab, cb, rfl, ⟨(Kd.R_mono (Kd.R_far (p := ⟨g, 3, none⟩) (Kd.R_types BO.out bC.out Z34) (fun _ hk => hk.2) _) (fun _ _ => trivial))⟩, UO, ⟨blk_put (cs := #[u, .string p0, .string p1, .string p2, .string p3, .string h0, .string h1, .string id]) bC.out 3 _ rfl⟩, ⟨blk_far (p := ⟨g, 3, none⟩) aY.out NB.out.symm _⟩, ⟨below_set HB.out dW.out⟩, ⟨KeepBut.set_ HK.out _ _⟩⟩
  rw [if_neg c] at h
  clear c
  by_cases c : au = 3
  ·have CN := CC.out
   subst c
   rw [if_pos rfl] at h
   simp only [Option.some.injEq, Prod.mk.injEq] at h
   obtain ⟨rfl, rfl, rfl⟩ := h
   clear CN CC
   go_upto_region 4 with (first | (fail))
   clear hm5
   replace bC := Aside0.mk (blk_drew bC.out)
   replace aY := Aside0.mk (blk_drew aY.out)
   replace BO := Aside0.mk (Kd.R_drew BO.out)
   replace HB := Aside0.mk (below_drew1 HB.out)
   replace HK := Aside0.mk (keep_drew HK.out)
   refine start_ (n := 10) (S := fun w' => w'.cell? ⟨gm, 5, none⟩ = some (.int .i64 3) ∧ w'.cell? ⟨gm, 6, none⟩ = some (.string aw)) (ds := [9]) (Sq.b 10 0) Z12 rfl rfl ⟨Sq.bc aY 5, Sq.bc aY 6⟩ (fun hHeld => ?_)
   refine with_tabW lean_writer_update.tab4 lean_writer_update.bits4 (fun HT_ HW_ => ?_)
   generalize World.drew _ = w9 at bC aY BO HB HK hHeld ⊢
   refine Sq.pur 0 (some 25) (Sq.b 10 1) HT_.out ?_
   refine Sq.pur 1 (some 26) (Sq.b 10 3) HT_.out ?_
   refine Sq.pur 3 (some 28) (Sq.b 10 11) HT_.out ?_
   refine Sq.pur 5 (some 30) (Sq.b 10 43) HT_.out ?_
   refine Sq.pur 6 (some 31) (Sq.b 10 107) HT_.out ?_
   refine Sq.pur 7 (some 32) (Sq.b 10 235) HT_.out ?_
   refine Sq.tak 2 (some 27) (Sq.b 10 239) HT_.out HW_.out hHeld (v := ?_) (a' := ?_) ?_ ?_ ?_
   rotate_left
   ·rintro w' ⟨s0, s1⟩
    (go_simp; with_reducible rfl)
   rotate_left
   ·simp only [Act.put, Sq.s1, Sq.s2, Sq.s3, i64_w, i32_w]
    rfl
   refine Sq.tak 4 (some 29) (Sq.b 10 255) HT_.out HW_.out hHeld (v := ?_) (a' := ?_) ?_ ?_ ?_
   rotate_left
   ·rintro w' ⟨s0, s1⟩
    (go_simp; with_reducible rfl)
   rotate_left
   ·simp only [Act.put, Sq.s1, Sq.s2, Sq.s3, i64_w, i32_w]
    rfl
   refine Sq.pur 8 (some 33) (Sq.b 10 511) HT_.out ?_
   refine last_ (i := 9) (N := none) (Sq.b 10 1023) rfl rfl (one_of HT_.out Z12) Z34 (fun K hK => ?_)
   have hs_ := (blk_cell bC.out 4).trans (c := some (.string p3)) rfl
   have hf_ := blk_frozen bC.out 4
   refine skip_ (w1 := ?_) Z16 rfl ?_ ?_
   rotate_left
   ·go_simp
    rfl
   refine hK.out _ _ ?_
   clear hK K
   refine done_ (done_of HT_.out Z12) ?_
   go_wp2
   go_meet
   case rel => exact ⟨Ab, cb, rfl, ⟨(Kd.R_mono (Kd.R_far (p := ⟨g, 4, none⟩) (Kd.R_types BO.out bC.out Z34) (fun _ hk => hk.2) _) (fun _ _ => trivial))⟩, UO, ⟨blk_put (cs := #[u, .string p0, .string p1, .string p2, .string p3, .string h0, .string h1, .string id]) bC.out 4 _ rfl⟩, ⟨blk_far (p := ⟨g, 4, none⟩) aY.out NB.out.symm _⟩, ⟨below_set HB.out dW.out⟩, ⟨KeepBut.set_ HK.out _ _⟩⟩
  rw [if_neg c] at h
  clear c
  exact absurd h Z27
 case rest =>
  clear A0 BO UO bC aY HB HK hm5
  obtain ⟨Ab, cb, rfl, BO, UO, bC, aY, HB, HK⟩ := hcut
  have h := HA.out
  clear HA
  unfold lean_writer_update.c at h
  obtain ⟨L, hL⟩ : ∃ L : List Int, L = [ab, ac, am] := ⟨_, rfl⟩
  rw [← hL] at h
  have HL := Aside0.mk hL
  clear hL
  obtain ⟨hd, g1, h⟩ := Option.bind_eq_some_iff.mp h
  obtain ⟨⟨r1, r2⟩, g2, h⟩ := Option.bind_eq_some_iff.mp h
  obtain ⟨y, g3, h⟩ := Option.bind_eq_some_iff.mp h
  dsimp only at h
  by_cases c1 : 0 ≤ n
  rotate_left
  ·rw [if_neg c1] at h; exact absurd h Z27
  rw [if_pos c1] at h
  by_cases c2 : n ≤ (y.size : Int)
  rotate_left
  ·rw [if_neg c2] at h; exact absurd h Z27
  rw [if_pos c2] at h
  obtain ⟨t, ht⟩ : ∃ t, t = y.extract n.toNat y.size := ⟨_, rfl⟩
  rw [← ht] at h
  by_cases c3 : hd.length + t.size + r1.size ≤ 9223372036854775807
  rotate_left
  ·rw [if_neg c3] at h; exact absurd h Z27
  rw [if_pos c3] at h
  have HT := Aside0.mk ht
  have A1 := Aside0.mk g1
  have A2 := Aside0.mk g2
  have A3 := Aside0.mk g3
  have A4 := Aside0.mk h
  have C1 := Aside0.mk c1
  have C2 := Aside0.mk c2
  have C3 := Aside0.mk c3
  clear ht g1 g2 g3 h c1 c2 c3
  have hm14 := (blk_cell aY.out 14).trans rfl
  have hm12 := (blk_cell aY.out 12).trans rfl
  have hm10 := (blk_cell aY.out 10).trans rfl
  go_wp2_with (first | ((with_reducible refine gate_dst (N := 40) rfl ?_); refine Kd.R_lit (Kd.int .i64) _ 3 ?hg (N := 40) ?hd (xs := ([ab, ac, am] : List Int)) (inner := [.int .i64 (ab), .int .i64 (ac), .int .i64 (am)]) (ok := fun _ => True) (okp := fun _ => True) ?hr ?hp (fun _ hk => hk) trivial (Below.refl _ _) (Nat.le_refl _) Z27 ?_; (case hd => rfl); (case hg => rfl); (case hr => first | (go_simp; done) | (go_simp; rfl)); (case hp => exact (Reps.one (show Kd.M (Kd.int .i64) _ _ _ (ab) [.int .i64 (ab)] from rfl) (Reps.one (show Kd.M (Kd.int .i64) _ _ _ (ac) [.int .i64 (ac)] from rfl) (Reps.one (show Kd.M (Kd.int .i64) _ _ _ (am) [.int .i64 (am)] from rfl) (Reps.none _ _))))); intro v4 w5 ho19 hb hg_ hnew_; clear hg_ hnew_; replace bC := Aside0.mk (blk_below (g := g) bC.out hb); replace aY := Aside0.mk (blk_below (g := gm) aY.out hb); replace BO := Aside0.mk (Kd.R_below BO.out hb); replace HK := Aside0.mk (KeepBut.trans HK.out (KeepBut.of_below hb g none) (.inl rfl)); replace HB := Aside0.mk (below_step HB.out hb); obtain ⟨gi, ci, eo, _, _, cl, HG⟩ := Kd.R_form ho19 Z27; replace eo : v4 = .slice (some ⟨gi, 0, none⟩) 3 ci := eo; subst eo; have BI := Aside0.mk HG; have CI := Aside0.mk (show ∀ (W' : World), W'.heap[gi]? = some (.cells cl 3 (0, 0)) → ∀ i : Int, 0 ≤ i → i < 3 → W'.cell? ⟨gi, i.toNat, none⟩ = some (.int .i64 (rd L i)) from fun W' hW i h0 h1 => (blk_cell hW i.toNat).trans ((blk_cell HG i.toNat).symm.trans (HL.out ▸ (Kd.R_celln 0 ho19 i h0 (by simpa using h1)).1))); clear hb HG ho19 hm10 hm12 hm14))
  go_loopg [6, 42] k (fun kq v6 v42 w' => ∃ (i : Int) (Ab : Option Addr) (cb : Nat) (x5 : List Int), v42 = .int .i64 i ∧ v6 = .slice Ab x5.length cb ∧ Aside0 (field_writer_two.l kq L x5 i = some hd) ∧ Aside0 (kq ≤ k) ∧ Aside0 (Kd.R (Kd.int .u8) 5 w' w0.heap.size (fun _ => True) (.slice Ab x5.length cb) x5) ∧ Aside0 ((.slice Ab x5.length cb : Value).ownBlock = none ∨ ∃ b, (.slice Ab x5.length cb : Value).ownBlock = some b ∧ w.heap.size ≤ b) ∧ Aside0 (w'.heap[g]? = some (.cells #[u, .string p0, .string z1, .string z2, .string z3, .string h0, .string h1, .string id] 87 (0, 0))) ∧ Aside0 (w'.heap[gm]? = some (.cells #[.int .i64 ar, .int .i64 aC, .int .i64 az, .string ay, .int .i64 aA, .int .i64 au, .string aw, .int .i64 av, .int .i64 aD, .string ax, .int .i64 am, .string ag, .int .i64 ac, .int .i64 aq, .int .i64 ab, .int .i64 ao, .int .i64 ak, .int .i64 ai, .int .i64 ae, .string ah, .string ap, .slice aJ aa.length aK, .int .i64 aj, .string al, .slice aH af.length aI] 32 (0, 0))) ∧ Aside0 (w'.heap[gi]? = some (.cells cl 3 (0, 0))) ∧ Aside0 (Below w0.heap.size w0 w') ∧ Aside0 (KeepBut w w' g none))
  case atStart => exact ⟨0, _, _, _, rfl, rfl, A1, ⟨Nat.le_refl _⟩, BO, UO, bC, aY, BI, HB, HK⟩
  case round =>
   clear A1 BO UO bC aY BI HB HK
   obtain ⟨i, Ab, cb, x5, rfl, rfl, HA, HK1, BO, UO, bC, aY, BI, HB, HK⟩ := hrel
   cases gk with
   | zero => exact absurd HA.out (by simp [field_writer_two.l])
   | succ k1 =>
    have H := HA.out
    clear HA
    simp only [field_writer_two.l] at H
    rw [show L.length = 3 from HL.out ▸ rfl] at H
    by_cases c1 : i < ((3 : Nat) : Int)
    rotate_left
    ·rw [if_neg c1] at H
     have f1 : decide (i < 3) = false := decide_eq_false c1
     have f2 : (i < 3) = False := eq_false c1
     obtain rfl := Option.some.inj H
     clear c1 H
     have hm24 := (blk_cell aY.out 24).trans rfl
     go_upto_region 11 with (first | ((with_reducible refine gate_callee (f := 134) rfl ?_); refine goesL_ (some 58) rfl rfl Tryz.func134 Z12 rfl #[.slice aH af.length aI] rfl Z3 ?_; (with_reducible refine (sub_Put.calls k _ _ af r1 r2 _ (Kd.C_below dZ.out HB.out) cX.out A2.out).mono ?_); rintro e dL ⟨rfl, hb⟩; refine ⟨_, rfl, ?_⟩; replace BO := Aside0.mk (Kd.R_below BO.out hb); replace bC := Aside0.mk (blk_below (g := g) bC.out hb); replace aY := Aside0.mk (blk_below (g := gm) aY.out hb); replace HK := Aside0.mk (KeepBut.trans HK.out (KeepBut.of_below hb g none) (.inl rfl)); replace HB := Aside0.mk (below_step HB.out hb); clear hm24 hb))
     have c1 := C1.out
     have c2 := C2.out
     have c3 := C3.out
     have p0_ := eq_true c1
     have p1_ : decide (0 ≤ n) = true := decide_eq_true c1
     have q0_ := eq_true c2
     have q1_ : decide (n ≤ (y.size : Int)) = true := decide_eq_true c2
     have c4 : x5.length + t.size ≤ 9223372036854775807 := Nat.le_trans (Nat.le_add_right _ _) c3
     have g0 := eq_true c3
     have gd := decide_eq_true c3
     have gf : (9223372036854775807 < x5.length + t.size + r1.size) = False := eq_false (Nat.not_lt.2 c3)
     have g4 := eq_true c4
     have gd4 := decide_eq_true c4
     have gf4 : (9223372036854775807 < x5.length + t.size) = False := eq_false (Nat.not_lt.2 c4)
     have zn := Pre.size_nums_ x5
     clear c1 c2 c3 c4
     replace bC := Aside0.mk (blk_drew bC.out)
     replace aY := Aside0.mk (blk_drew aY.out)
     replace BO := Aside0.mk (Kd.R_drew BO.out)
     replace HB := Aside0.mk (below_drew1 HB.out)
     replace HK := Aside0.mk (keep_drew HK.out)
     refine start_ (n := 11) (S := fun w' => w'.heap[gm]? = some (.cells #[.int .i64 ar, .int .i64 aC, .int .i64 az, .string ay, .int .i64 aA, .int .i64 au, .string aw, .int .i64 av, .int .i64 aD, .string ax, .int .i64 am, .string ag, .int .i64 ac, .int .i64 aq, .int .i64 ab, .int .i64 ao, .int .i64 ak, .int .i64 ai, .int .i64 ae, .string ah, .string ap, .slice aJ aa.length aK, .int .i64 aj, .string al, .slice aH af.length aI] 32 (0, 0)) ∧ w'.ownsRow w0.heap.size 5 1 (.slice Ab x5.length cb) x5.length (nums .u8 x5)) (ds := [10]) (Sq.b 11 0) Z12 rfl rfl ⟨aY.out, Kd.own_of_R BO.out⟩ (fun hHeld => ?_)
     refine with_tabW lean_writer_update.tab11 lean_writer_update.bits11 (fun HT_ HW_ => ?_)
     generalize World.drew _ = w9 at bC aY BO HB HK hHeld ⊢
     refine Sq.pur 0 (some 61) (Sq.b 11 1) HT_.out ?_
     refine Sq.pur 1 (some 62) (Sq.b 11 3) HT_.out ?_
     refine Sq.pur 5 (some 66) (Sq.b 11 35) HT_.out ?_
     refine Sq.pur 8 (some 69) (Sq.b 11 291) HT_.out ?_
     refine Sq.tak 2 (some 63) (Sq.b 11 295) HT_.out HW_.out hHeld (v := ?_) (a' := ?_) ?_ ?_ ?_
     rotate_left
     ·rintro w' ⟨s0, s1⟩
      have hcv := own_string (P := Tryz.prog) Tryz.underlying64 Tryz.underlying5 Tryz.underlying9 s1
      (go_simp; with_reducible rfl)
     rotate_left
     ·simp only [Act.put, Sq.s1, Sq.s2, Sq.s3, i64_w, i32_w]
      rfl
     refine Sq.tak 3 (some 64) (Sq.b 11 303) HT_.out HW_.out hHeld (v := ?_) (a' := ?_) ?_ ?_ ?_
     rotate_left
     ·rintro w' ⟨s0, s1⟩
      (refine Eq.trans (Pre.load_run (ty := 32) rfl Z16 (by with_reducible assumption) Tryz.underlying32 rfl Z12) ?_; with_reducible rfl)
     rotate_left
     ·simp only [Act.put, Sq.s1, Sq.s2, Sq.s3, i64_w, i32_w]
      rfl
     refine one_ (i := 4) (N := some 65) (Sq.b 11 319) rfl rfl (one_of HT_.out Z12) Z34 (fun K hK => ?_)
     refine goes_ Tryz.func135 Z12 rfl #[.agg #[.int .i64 ar, .int .i64 aC, .int .i64 az, .string ay, .int .i64 aA, .int .i64 au, .string aw, .int .i64 av, .int .i64 aD, .string ax, .int .i64 am, .string ag, .int .i64 ac, .int .i64 aq, .int .i64 ab, .int .i64 ao, .int .i64 ak, .int .i64 ai, .int .i64 ae, .string ah, .string ap, .slice aJ aa.length aK, .int .i64 aj, .string al, .slice aH af.length aI]] Z16 rfl rfl Z3 ?_
     with_reducible refine (lean_bytes.calls ar aC az ay aA au aw av aD ax am ag ac aq ab ao ak ai ae ah ap _ _ aa aj al _ _ af y _ ?side1 ?side2 ?side3 ?side4 A3.out).mono ?_
     (case side1 => exact (Kd.C_below eA.out HB.out))
     (case side2 => exact eB.out)
     (case side3 => exact (Kd.C_below dZ.out HB.out))
     (case side4 => exact cX.out)
     rintro e fg ⟨rfl, hb⟩
     refine ⟨_, rfl, ?_⟩
     replace bC := Aside0.mk (blk_below (g := g) bC.out hb)
     replace aY := Aside0.mk (blk_below (g := gm) aY.out hb)
     replace BO := Aside0.mk (Kd.R_below BO.out hb)
     replace HK := Aside0.mk (KeepBut.trans HK.out (KeepBut.of_below hb g none) (.inl rfl))
     replace HB := Aside0.mk (below_step HB.out hb)
     clear hb
     refine hK.out _ _ ⟨aY.out, Kd.own_of_R BO.out⟩ (fun hHeld => ?_)
     clear hK K
     refine norm_ (a' := ?_) ?_ ?_
     rotate_left
     ·show Act.put _ (some 65) _ = _
      simp only [Act.put, Sq.s1, Sq.s2, Sq.s3, i64_w, i32_w]
      rfl
     refine Sq.pur 6 (some 67) (Sq.b 11 383) HT_.out ?_
     rw [← HT.out]
     refine Sq.pur 7 (some 68) (Sq.b 11 511) HT_.out ?_
     refine Sq.pur 9 (some 70) (Sq.b 11 1023) HT_.out ?_
     refine last_ (i := 10) (N := some 71) (Sq.b 11 2047) rfl rfl (one_of HT_.out Z12) Z34 (fun K hK => ?_)
     refine goes_ Tryz.func132 Z12 rfl #[.pointer (some ⟨g, 0, none⟩), .int .i64 8, .string (strOfNums x5 ++ t ++ r1)] Z16 rfl rfl Z3 ?_
     with_reducible refine (lean_writer_put.calls g u p0 z1 z2 z3 h0 h1 id xs 8 (strOfNums x5 ++ t ++ r1) ys' w0 _ HB.out dW.out bC.out (Kd.R_mono (Kd.R_keep dv.out HK.out (fun _ hk => hk.2)) (fun _ _ => trivial)) A4.out).mono ?_
     rintro e fg ⟨rfl, u2, hk2, hr2, hb2, hkb⟩
     refine ⟨_, rfl, ?_⟩
     refine hK.out _ _ ?_
     clear hK K
     refine done_ (done_of HT_.out Z12) ?_
     go_wp2
     go_end0
     exact ⟨rfl, u2, hk2, hr2, hb2, KeepBut.trans ⟨HK.out.1, fun i hi hg _ => HK.out.2 i hi hg Z27⟩ hkb (.inl rfl)⟩
    rw [if_pos c1] at H
    have f1 : decide (i < 3) = true := decide_eq_true c1
    by_cases c2 : 0 ≤ i
    rotate_left
    ·rw [if_neg c2] at H; exact absurd H Z27
    rw [if_pos c2] at H
    have f2 : decide (0 ≤ i) = true := decide_eq_true c2
    by_cases c3 : x5.length + 2 < 140737488355328
    rotate_left
    ·rw [if_neg c3] at H; exact absurd H Z27
    rw [if_pos c3] at H
    have LM := Aside0.mk c3
    obtain ⟨zs, hzs⟩ : ∃ zs, zs = x5 ++ [rd L i / 256 % 256, rd L i % 256] := ⟨_, rfl⟩
    rw [← hzs] at H
    have Ny := Aside0.mk hzs
    have HA := Aside0.mk H
    have hx0 := CI.out _ BI.out i c2 c1
    have p : (0 ≤ i) = True := eq_true c2
    have q : (i < 3) = True := eq_true c1
    clear H c3 hzs c1 c2
    go_wp2_with (first | ((with_reducible refine gate_dst (N := 52) rfl ?_); refine Kd.R_lit (Kd.int .u8) _ 5 ?hg (N := 52) ?hd (xs := ([rd L i / 256 % 256, rd L i % 256] : List Int)) (inner := [.int .u8 (rd L i / 256 % 256), .int .u8 (rd L i % 256)]) (ok := fun _ => True) (okp := fun _ => True) ?hr ?hp (fun _ hk => hk) trivial (Below.refl _ _) (Nat.le_refl _) Z27 ?_; (case hd => rfl); (case hg => rfl); (case hr => first | (go_simp; done) | (go_simp; rfl)); (case hp => exact (Reps.one (show Kd.M (Kd.int .u8) _ _ _ (rd L i / 256 % 256) [.int .u8 (rd L i / 256 % 256)] from rfl) (Reps.one (show Kd.M (Kd.int .u8) _ _ _ (rd L i % 256) [.int .u8 (rd L i % 256)] from rfl) (Reps.none _ _)))); intro v4 w5 ho19 hb hg_ hnew_; clear hg_ hnew_; have RL := Aside0.mk (Kd.R_lower (Kd.R_new' ho19 (Kd.R_lt BO.out)) (below_size HB.out)); replace BO := Aside0.mk (Kd.R_elder' BO.out (Kd.R_base ho19) hb); replace bC := Aside0.mk (blk_below (g := g) bC.out hb); replace aY := Aside0.mk (blk_below (g := gm) aY.out hb); replace BI := Aside0.mk (blk_below (g := gi) BI.out hb); replace HK := Aside0.mk (KeepBut.trans HK.out (KeepBut.of_below hb g none) (.inl rfl)); replace HB := Aside0.mk (below_step HB.out hb); clear hb ho19 hx0; obtain ⟨sc, sd, eo21⟩ := Kd.R_slice RL.out; subst eo21) | ((with_reducible refine gate_builtin (b := .append) (xs := #[.tmp 46, .tmp 52]) rfl ?_); at_builtin; refine Kd.R_append_rows (Kd.int .u8) (w0 := w0) w0.heap.size rfl (.tmp 46) (.tmp 52) 64 5 (.int .u8 0) 1 rfl Tryz.underlying64 info5 rfl Z34 Z23 (.slice Ab x5.length cb) x5 ([rd L i / 256 % 256, rd L i % 256] : List Int) _ _ _ (fun k_ => some k_ ≠ (.slice sc ([rd L i / 256 % 256, rd L i % 256] : List Int).length sd : Value).ownBlock) (fun _ => False) rfl rfl ?aO ?aR (fun _ _ h => h) (fun _ h => h.elim) ?aF ?aB ?aS ?aL ?_; (case aR => exact (Kd.R_reads' RL.out).2.2); (case aB => exact HB.out); (case aF => exact (fun k_ hk => Kd.fresh' (Kd.R_lt RL.out) k_ hk)); (case aO => exact Kd.R_mono BO.out (fun _ hk => hk.2)); (case aS => exact (below_size HB.out)); (case aL => have := LM.out; simp only [List.length_cons, List.length_nil]; omega); intro xb w8 ho hb hg hat; rw [← Ny.out] at ho; have bL := Aside0.mk (Kd.R_mono (ok' := fun _ => True) ho (fun _ _ => trivial)); replace bC := Aside0.mk (blk_grown (g := g) bC.out hg (Kd.R_ne BO.out bC.out Z34)); replace aY := Aside0.mk (blk_grown (g := gm) aY.out hg (Kd.R_ne BO.out aY.out Z34)); replace BI := Aside0.mk (blk_grown (g := gi) BI.out hg (Kd.R_ne BO.out BI.out Z34)); have hw := HK.out.1; have UO2 := Aside0.mk (show xb.ownBlock = none ∨ ∃ b, xb.ownBlock = some b ∧ w.heap.size ≤ b from hat.elim (fun e => (by rw [e]; exact UO.out)) (fun ⟨b, e, hb2⟩ => .inr ⟨b, e, Nat.le_trans hw hb2⟩)); replace HK := Aside0.mk (KeepBut.trans HK.out (KeepBut.of_grown hg g) UO.out); replace HB := Aside0.mk hb; clear BO RL UO ho hb hg hat hw; have BO := bL; have UO := UO2; clear bL UO2; obtain ⟨gc, gg, eo2⟩ := Kd.R_slice BO.out; subst eo2))
    go_roundg k1
    case measure => have := HK1.out; omega
    case rel => exact ⟨wrap64 (i + 1), _, _, zs, rfl, rfl, HA, ⟨Z35⟩, BO, UO, bC, aY, BI, HB, HK⟩

/-! ### lean_writer_omitted: function 72 -/
/-- The default prefix of an encoding. -/
def lean_writer_omitted.q (p0 p1 p2 p3 : ByteArray) (a : Int) : Option ByteArray := if a = 0 then some p0 else if a = 1 then some p1 else if a = 2 then some p2 else if a = 3 then some p3 else none
def lean_writer_omitted.f (k : Nat) (p0 p1 p2 p3 : ByteArray) (ar : Int) (aC : Int) (az : Int) (ay : ByteArray) (aA : Int) (au : Int) (aw : ByteArray) (av : Int) (aD : Int) (ax : ByteArray) (am : Int) (ag : ByteArray) (ac : Int) (aq : Int) (ab : Int) (ao : Int) (ak : Int) (ai : Int) (ae : Int) (ah : ByteArray) (ap : ByteArray) (aa : List S78) (aj : Int) (al : ByteArray) (af : List S80) : Option Int := (lean_writer_omitted.q p0 p1 p2 p3 au).bind fun q => (if q.toList = ([] : List UInt8) then some 0 else (lean_base.f au).bind fun b => (lean_bytes.f ar aC az ay aA au aw av aD ax am ag ac aq ab ao ak ai ae ah ap aa aj al af).bind fun y => (if 0 ≤ b then (if b ≤ (q.size : Int) then prefix_Lead.f k (q.extract b.toNat q.size) y else none) else none))
theorem lean_writer_omitted.mono : ∀ p0 p1 p2 p3 ar aC az ay aA au aw av aD ax am ag ac aq ab ao ak ai ae ah ap aa aj al af k, LeO (lean_writer_omitted.f k p0 p1 p2 p3 ar aC az ay aA au aw av aD ax am ag ac aq ab ao ak ai ae ah ap aa aj al af) (lean_writer_omitted.f (k + 1) p0 p1 p2 p3 ar aC az ay aA au aw av aD ax am ag ac aq ab ao ak ai ae ah ap aa aj al af) := by
 intros
 rename_i k
 unfold lean_writer_omitted.f
 have m0 := prefix_Lead.mono
 exact Sq.mo
def lean_writer_omitted.T1 : Bool × List (List Nat × List Nat) := (true, [([], []), ([], []), ([1], [1]), ([0], [0]), ([3], [3]), ([4], [4]), ([5, 2], [2, 5]), ([6], [6]), ([7, 0, 1, 2, 3, 4, 5, 6, 7], [7])])
def lean_writer_omitted.B1 : List Nat := [0, 0, 2, 1, 9, 25, 63, 127, 255]
theorem lean_writer_omitted.tab1 : rtab .any (opsOf Tryz.f72 1) = lean_writer_omitted.T1 := by kernel_rfl
theorem lean_writer_omitted.bits1 : waitsOk lean_writer_omitted.T1.2 lean_writer_omitted.B1 = true := by kernel_rfl
def lean_writer_omitted.T4 : Bool × List (List Nat × List Nat) := (true, [([], []), ([], []), ([1], [1]), ([2], [2]), ([0, 3], [0, 3]), ([], []), ([5, 3], [5]), ([4, 6, 6], [4, 6]), ([7, 7, 0, 1, 2, 3, 4, 5, 6, 7], [7])])
def lean_writer_omitted.B4 : List Nat := [0, 0, 2, 6, 15, 0, 46, 127, 255]
theorem lean_writer_omitted.tab4 : rtab .any (opsOf Tryz.f72 4) = lean_writer_omitted.T4 := by kernel_rfl
theorem lean_writer_omitted.bits4 : waitsOk lean_writer_omitted.T4.2 lean_writer_omitted.B4 = true := by kernel_rfl
set_option maxHeartbeats 8000000 in
set_option maxRecDepth 100000 in
theorem lean_writer_omitted.calls (k : Nat) (g : Nat) (u : Value) (p0 : ByteArray) (p1 : ByteArray) (p2 : ByteArray) (p3 : ByteArray) (h0 : ByteArray) (h1 : ByteArray) (id : ByteArray) (ar : Int) (aC : Int) (az : Int) (ay : ByteArray) (aA : Int) (au : Int) (aw : ByteArray) (av : Int) (aD : Int) (ax : ByteArray) (am : Int) (ag : ByteArray) (ac : Int) (aq : Int) (ab : Int) (ao : Int) (ak : Int) (ai : Int) (ae : Int) (ah : ByteArray) (ap : ByteArray) (aJ : Option Addr) (aK : Nat) (aa : List S78) (aj : Int) (al : ByteArray) (aH : Option Addr) (aI : Nat) (af : List S80) (r : Int) (w : World) (bD : Kd.C k78 w aJ aa.length aa) (bE : aa.length ≤ aK) (bF : Kd.C k80 w aH af.length af) (bG : af.length ≤ aI) (hK : w.heap[g]? = some (.cells #[u, .string p0, .string p1, .string p2, .string p3, .string h0, .string h1, .string id] 87 (0, 0))) (h : lean_writer_omitted.f k p0 p1 p2 p3 ar aC az ay aA au aw av aD ax am ag ac aq ab ao ak ai ae ah ap aa aj al af = some r) :
  Calls Tryz.prog 72 #[.pointer (some ⟨g, 0, none⟩), .agg #[.int .i64 ar, .int .i64 aC, .int .i64 az, .string ay, .int .i64 aA, .int .i64 au, .string aw, .int .i64 av, .int .i64 aD, .string ax, .int .i64 am, .string ag, .int .i64 ac, .int .i64 aq, .int .i64 ab, .int .i64 ao, .int .i64 ak, .int .i64 ai, .int .i64 ae, .string ah, .string ap, .slice aJ aa.length aK, .int .i64 aj, .string al, .slice aH af.length aI]] w fun e w' => e = .returned (.int .i64 r) ∧ Below w.heap.size w w' := by
 have hu := Tryz.underlying32
 have gU := Tryz.underlying87
 have ic := Tryz.underlying46
 have hu43 := Tryz.underlying43
 have eA := Aside0.mk bD
 have eB := Aside0.mk bE
 have dZ := Aside0.mk bF
 have cX := Aside0.mk bG
 have bC := Aside0.mk hK
 have HB := Aside0.mk (Below.refl w.heap.size w)
 clear bD bE bF bG hK
 unfold lean_writer_omitted.f at h
 obtain ⟨q, g1, h⟩ := Option.bind_eq_some_iff.mp h
 have A0 := Aside0.mk g1
 have HA := Aside0.mk h
 clear g1 h
 go_enter Tryz.func72, Tryz.ntmps72
 go_upto_region 1 with (first | ((with_reducible refine gate_dst (N := 3) rfl ?_); (try (refine gate_guard Z16 ?_; dsimp only)); refine Sq.box 3 #[.int .i64 ar, .int .i64 aC, .int .i64 az, .string ay, .int .i64 aA, .int .i64 au, .string aw, .int .i64 av, .int .i64 aD, .string ax, .int .i64 am, .string ag, .int .i64 ac, .int .i64 aq, .int .i64 ab, .int .i64 ao, .int .i64 ak, .int .i64 ai, .int .i64 ae, .string ah, .string ap, .slice aJ aa.length aK, .int .i64 aj, .string al, .slice aH af.length aI] 32 ?_; intro gm hg w1 hbox hb; have aY := Aside0.mk hbox; replace HB := Aside0.mk (below_step Z2 hb); replace bC := Aside0.mk (blk_below (g := g) bC.out hb); clear hb hbox hg))
 go_cut [5] (fun v5 wc => v5 = .string q ∧ Aside0 (wc.heap[gm]? = some (.cells #[.int .i64 ar, .int .i64 aC, .int .i64 az, .string ay, .int .i64 aA, .int .i64 au, .string aw, .int .i64 av, .int .i64 aD, .string ax, .int .i64 am, .string ag, .int .i64 ac, .int .i64 aq, .int .i64 ab, .int .i64 ao, .int .i64 ak, .int .i64 ai, .int .i64 ae, .string ah, .string ap, .slice aJ aa.length aK, .int .i64 aj, .string al, .slice aH af.length aI] 32 (0, 0))) ∧ Aside0 (Below w.heap.size w wc))
 case first =>
  have h := A0.out
  clear A0 HA
  unfold lean_writer_omitted.q at h
  by_cases c : au = 0
  ·subst c
   rw [if_pos rfl] at h
   obtain rfl := Option.some.inj h
   clear h
   replace bC := Aside0.mk (blk_drew bC.out)
   replace aY := Aside0.mk (blk_drew aY.out)
   replace HB := Aside0.mk (below_drew1 HB.out)
   refine start_ (n := 9) (S := fun w' => w'.cell? ⟨gm, 5, none⟩ = some (.int .i64 0) ∧ w'.cell? ⟨g, 1, none⟩ = some (.string p0)) (ds := []) (Sq.b 9 0) Z12 rfl rfl ⟨Sq.bc aY 5, Sq.bc bC 1⟩ (fun hHeld => ?_)
   refine with_tabW lean_writer_omitted.tab1 lean_writer_omitted.bits1 (fun HT_ HW_ => ?_)
   generalize World.drew _ = w9 at bC aY HB hHeld ⊢
   refine Sq.pur 0 (some 6) (Sq.b 9 1) HT_.out ?_
   refine Sq.pur 1 (some 7) (Sq.b 9 3) HT_.out ?_
   refine Sq.pur 3 (some 9) (Sq.b 9 11) HT_.out ?_
   refine Sq.pur 4 (some 10) (Sq.b 9 27) HT_.out ?_
   refine Sq.pur 5 (some 11) (Sq.b 9 59) HT_.out ?_
   refine Sq.tak 2 (some 8) (Sq.b 9 63) HT_.out HW_.out hHeld (v := ?_) (a' := ?_) ?_ ?_ ?_
   rotate_left
   ·rintro w' ⟨s0, s1⟩
    (go_simp; with_reducible rfl)
   rotate_left
   ·simp only [Act.put, Sq.s1, Sq.s2, Sq.s3, i64_w, i32_w]
    rfl
   refine Sq.pur 6 (some 12) (Sq.b 9 127) HT_.out ?_
   refine Sq.tak 7 (some 13) (Sq.b 9 255) HT_.out HW_.out hHeld (v := ?_) (a' := ?_) ?_ ?_ ?_
   rotate_left
   ·rintro w' ⟨s0, s1⟩
    (go_simp; with_reducible rfl)
   rotate_left
   ·simp only [Act.put, Sq.s1, Sq.s2, Sq.s3, i64_w, i32_w]
    rfl
   refine Sq.pur 8 (some 5) (Sq.b 9 511) HT_.out ?_
   refine done_ (done_of HT_.out Z12) ?_
   go_wp2
   go_meet
   case rel => exact ⟨rfl, aY, HB⟩
  rw [if_neg c] at h
  clear c
  by_cases c : au = 1
  ·subst c
   rw [if_pos rfl] at h
   obtain rfl := Option.some.inj h
   clear h
   replace bC := Aside0.mk (blk_drew bC.out)
   replace aY := Aside0.mk (blk_drew aY.out)
   replace HB := Aside0.mk (below_drew1 HB.out)
   refine start_ (n := 9) (S := fun w' => w'.cell? ⟨gm, 5, none⟩ = some (.int .i64 1) ∧ w'.cell? ⟨g, 2, none⟩ = some (.string p1)) (ds := []) (Sq.b 9 0) Z12 rfl rfl ⟨Sq.bc aY 5, Sq.bc bC 2⟩ (fun hHeld => ?_)
   refine with_tabW lean_writer_omitted.tab1 lean_writer_omitted.bits1 (fun HT_ HW_ => ?_)
   generalize World.drew _ = w9 at bC aY HB hHeld ⊢
   refine Sq.pur 0 (some 6) (Sq.b 9 1) HT_.out ?_
   refine Sq.pur 1 (some 7) (Sq.b 9 3) HT_.out ?_
   refine Sq.pur 3 (some 9) (Sq.b 9 11) HT_.out ?_
   refine Sq.pur 4 (some 10) (Sq.b 9 27) HT_.out ?_
   refine Sq.pur 5 (some 11) (Sq.b 9 59) HT_.out ?_
   refine Sq.tak 2 (some 8) (Sq.b 9 63) HT_.out HW_.out hHeld (v := ?_) (a' := ?_) ?_ ?_ ?_
   rotate_left
   ·rintro w' ⟨s0, s1⟩
    (go_simp; with_reducible rfl)
   rotate_left
   ·simp only [Act.put, Sq.s1, Sq.s2, Sq.s3, i64_w, i32_w]
    rfl
   refine Sq.pur 6 (some 12) (Sq.b 9 127) HT_.out ?_
   refine Sq.tak 7 (some 13) (Sq.b 9 255) HT_.out HW_.out hHeld (v := ?_) (a' := ?_) ?_ ?_ ?_
   rotate_left
   ·rintro w' ⟨s0, s1⟩
    (go_simp; with_reducible rfl)
   rotate_left
   ·simp only [Act.put, Sq.s1, Sq.s2, Sq.s3, i64_w, i32_w]
    rfl
   refine Sq.pur 8 (some 5) (Sq.b 9 511) HT_.out ?_
   refine done_ (done_of HT_.out Z12) ?_
   go_wp2
   go_meet
   case rel => exact ⟨rfl, aY, HB⟩
  rw [if_neg c] at h
  clear c
  by_cases c : au = 2
  ·subst c
   rw [if_pos rfl] at h
   obtain rfl := Option.some.inj h
   clear h
   replace bC := Aside0.mk (blk_drew bC.out)
   replace aY := Aside0.mk (blk_drew aY.out)
   replace HB := Aside0.mk (below_drew1 HB.out)
   refine start_ (n := 9) (S := fun w' => w'.cell? ⟨gm, 5, none⟩ = some (.int .i64 2) ∧ w'.cell? ⟨g, 3, none⟩ = some (.string p2)) (ds := []) (Sq.b 9 0) Z12 rfl rfl ⟨Sq.bc aY 5, Sq.bc bC 3⟩ (fun hHeld => ?_)
   refine with_tabW lean_writer_omitted.tab1 lean_writer_omitted.bits1 (fun HT_ HW_ => ?_)
   generalize World.drew _ = w9 at bC aY HB hHeld ⊢
   refine Sq.pur 0 (some 6) (Sq.b 9 1) HT_.out ?_
   refine Sq.pur 1 (some 7) (Sq.b 9 3) HT_.out ?_
   refine Sq.pur 3 (some 9) (Sq.b 9 11) HT_.out ?_
   refine Sq.pur 4 (some 10) (Sq.b 9 27) HT_.out ?_
   refine Sq.pur 5 (some 11) (Sq.b 9 59) HT_.out ?_
   refine Sq.tak 2 (some 8) (Sq.b 9 63) HT_.out HW_.out hHeld (v := ?_) (a' := ?_) ?_ ?_ ?_
   rotate_left
   ·rintro w' ⟨s0, s1⟩
    (go_simp; with_reducible rfl)
   rotate_left
   ·simp only [Act.put, Sq.s1, Sq.s2, Sq.s3, i64_w, i32_w]
    rfl
   refine Sq.pur 6 (some 12) (Sq.b 9 127) HT_.out ?_
   refine Sq.tak 7 (some 13) (Sq.b 9 255) HT_.out HW_.out hHeld (v := ?_) (a' := ?_) ?_ ?_ ?_
   rotate_left
   ·rintro w' ⟨s0, s1⟩
    (go_simp; with_reducible rfl)
   rotate_left
   ·simp only [Act.put, Sq.s1, Sq.s2, Sq.s3, i64_w, i32_w]
    rfl
   refine Sq.pur 8 (some 5) (Sq.b 9 511) HT_.out ?_
   refine done_ (done_of HT_.out Z12) ?_
   go_wp2
   go_meet
   case rel => exact ⟨rfl, aY, HB⟩
  rw [if_neg c] at h
  clear c
  by_cases c : au = 3
  ·subst c
   rw [if_pos rfl] at h
   obtain rfl := Option.some.inj h
   clear h
   replace bC := Aside0.mk (blk_drew bC.out)
   replace aY := Aside0.mk (blk_drew aY.out)
   replace HB := Aside0.mk (below_drew1 HB.out)
   refine start_ (n := 9) (S := fun w' => w'.cell? ⟨gm, 5, none⟩ = some (.int .i64 3) ∧ w'.cell? ⟨g, 4, none⟩ = some (.string p3)) (ds := []) (Sq.b 9 0) Z12 rfl rfl ⟨Sq.bc aY 5, Sq.bc bC 4⟩ (fun hHeld => ?_)
   refine with_tabW lean_writer_omitted.tab1 lean_writer_omitted.bits1 (fun HT_ HW_ => ?_)
   generalize World.drew _ = w9 at bC aY HB hHeld ⊢
   refine Sq.pur 0 (some 6) (Sq.b 9 1) HT_.out ?_
   refine Sq.pur 1 (some 7) (Sq.b 9 3) HT_.out ?_
   refine Sq.pur 3 (some 9) (Sq.b 9 11) HT_.out ?_
   refine Sq.pur 4 (some 10) (Sq.b 9 27) HT_.out ?_
   refine Sq.pur 5 (some 11) (Sq.b 9 59) HT_.out ?_
   refine Sq.tak 2 (some 8) (Sq.b 9 63) HT_.out HW_.out hHeld (v := ?_) (a' := ?_) ?_ ?_ ?_
   rotate_left
   ·rintro w' ⟨s0, s1⟩
    (go_simp; with_reducible rfl)
   rotate_left
   ·simp only [Act.put, Sq.s1, Sq.s2, Sq.s3, i64_w, i32_w]
    rfl
   refine Sq.pur 6 (some 12) (Sq.b 9 127) HT_.out ?_
   refine Sq.tak 7 (some 13) (Sq.b 9 255) HT_.out HW_.out hHeld (v := ?_) (a' := ?_) ?_ ?_ ?_
   rotate_left
   ·rintro w' ⟨s0, s1⟩
    (go_simp; with_reducible rfl)
   rotate_left
   ·simp only [Act.put, Sq.s1, Sq.s2, Sq.s3, i64_w, i32_w]
    rfl
   refine Sq.pur 8 (some 5) (Sq.b 9 511) HT_.out ?_
   refine done_ (done_of HT_.out Z12) ?_
   go_wp2
   go_meet
   case rel => exact ⟨rfl, aY, HB⟩
  rw [if_neg c] at h
  clear c
  exact absurd h Z27
 case rest =>
  clear A0 HB aY bC
  obtain ⟨rfl, aY, HB⟩ := hcut
  have h := HA.out
  clear HA
  by_cases c : q.toList = ([] : List UInt8)
  ·rw [if_pos c] at h
   have e0 : (q.toList == ([] : List UInt8)) = true := beq_iff_eq.mpr c
   have e1 : (q.toList == (⟨#[]⟩ : ByteArray).toList) = true := by rw [show (⟨#[]⟩ : ByteArray).toList = [] from by rw [ByteArray.toList_eq]]; exact e0
   obtain rfl := Option.some.inj h
   go_wp2
   go_ret
   exact ⟨rfl, HB.out⟩
  rw [if_neg c] at h
  have e0 : (q.toList == ([] : List UInt8)) = false := beq_eq_false_iff_ne.mpr c
  have e1 : (q.toList == (⟨#[]⟩ : ByteArray).toList) = false := by rw [show (⟨#[]⟩ : ByteArray).toList = [] from by rw [ByteArray.toList_eq]]; exact e0
  obtain ⟨b, g1, h⟩ := Option.bind_eq_some_iff.mp h
  obtain ⟨y, g2, h⟩ := Option.bind_eq_some_iff.mp h
  by_cases b0 : 0 ≤ b
  rotate_left
  ·rw [if_neg b0] at h; exact absurd h Z27
  rw [if_pos b0] at h
  by_cases c1 : b ≤ (q.size : Int)
  rotate_left
  ·rw [if_neg c1] at h; exact absurd h Z27
  rw [if_pos c1] at h
  have A1 := Aside0.mk g1
  have A2 := Aside0.mk g2
  have A3 := Aside0.mk h
  have p0_ := eq_true b0
  have p1_ : decide (0 ≤ b) = true := decide_eq_true b0
  have q0_ := eq_true c1
  have q1_ : decide (b ≤ (q.size : Int)) = true := decide_eq_true c1
  clear g1 g2 h c b0 c1
  go_upto_region 4 with (first | (fail))
  replace aY := Aside0.mk (blk_drew aY.out)
  replace HB := Aside0.mk (below_drew1 HB.out)
  refine start_ (n := 9) (S := fun w' => w'.heap[gm]? = some (.cells #[.int .i64 ar, .int .i64 aC, .int .i64 az, .string ay, .int .i64 aA, .int .i64 au, .string aw, .int .i64 av, .int .i64 aD, .string ax, .int .i64 am, .string ag, .int .i64 ac, .int .i64 aq, .int .i64 ab, .int .i64 ao, .int .i64 ak, .int .i64 ai, .int .i64 ae, .string ah, .string ap, .slice aJ aa.length aK, .int .i64 aj, .string al, .slice aH af.length aI] 32 (0, 0)) ∧ w'.cell? ⟨gm, 5, none⟩ = some (.int .i64 au)) (ds := []) (Sq.b 9 0) Z12 rfl rfl ⟨aY.out, Sq.bc aY 5⟩ (fun hHeld => ?_)
  refine with_tabW lean_writer_omitted.tab4 lean_writer_omitted.bits4 (fun HT_ HW_ => ?_)
  generalize World.drew _ = w9 at aY HB hHeld ⊢
  refine Sq.pur 0 (some 16) (Sq.b 9 1) HT_.out ?_
  refine Sq.pur 1 (some 17) (Sq.b 9 3) HT_.out ?_
  refine Sq.tak 2 (some 18) (Sq.b 9 7) HT_.out HW_.out hHeld (v := ?_) (a' := ?_) ?_ ?_ ?_
  rotate_left
  ·rintro w' ⟨s0, s1⟩
   (go_simp; with_reducible rfl)
  rotate_left
  ·simp only [Act.put, Sq.s1, Sq.s2, Sq.s3, i64_w, i32_w]
   rfl
  refine Sq.tak 5 (some 21) (Sq.b 9 39) HT_.out HW_.out hHeld (v := ?_) (a' := ?_) ?_ ?_ ?_
  rotate_left
  ·rintro w' ⟨s0, s1⟩
   (refine Eq.trans (Pre.load_run (ty := 32) rfl Z16 (by with_reducible assumption) Tryz.underlying32 rfl Z12) ?_; with_reducible rfl)
  rotate_left
  ·simp only [Act.put, Sq.s1, Sq.s2, Sq.s3, i64_w, i32_w]
   rfl
  refine one_ (i := 3) (N := some 19) (Sq.b 9 47) rfl rfl (one_of HT_.out Z12) Z34 (fun K hK => ?_)
  refine goes_ Tryz.func137 Z12 rfl #[.int .i64 au] Z16 rfl rfl Z3 ?_
  with_reducible refine (lean_base.calls au b _ A1.out).mono ?_
  rintro e w' ⟨rfl, hb⟩
  replace hb := hb.below
  refine ⟨_, rfl, ?_⟩
  replace aY := Aside0.mk (blk_below (g := gm) aY.out hb)
  replace HB := Aside0.mk (below_step HB.out hb)
  clear hb
  refine hK.out _ _ ⟨aY.out, Sq.bc aY 5⟩ (fun hHeld => ?_)
  clear hK K
  refine norm_ (a' := ?_) ?_ ?_
  rotate_left
  ·show Act.put _ (some 19) _ = _
   simp only [Act.put, Sq.s1, Sq.s2, Sq.s3, i64_w, i32_w]
   rfl
  refine Sq.pur 4 (some 20) (Sq.b 9 63) HT_.out ?_
  refine one_ (i := 6) (N := some 22) (Sq.b 9 127) rfl rfl (one_of HT_.out Z12) Z34 (fun K hK => ?_)
  refine goes_ Tryz.func135 Z12 rfl #[.agg #[.int .i64 ar, .int .i64 aC, .int .i64 az, .string ay, .int .i64 aA, .int .i64 au, .string aw, .int .i64 av, .int .i64 aD, .string ax, .int .i64 am, .string ag, .int .i64 ac, .int .i64 aq, .int .i64 ab, .int .i64 ao, .int .i64 ak, .int .i64 ai, .int .i64 ae, .string ah, .string ap, .slice aJ aa.length aK, .int .i64 aj, .string al, .slice aH af.length aI]] Z16 rfl rfl Z3 ?_
  with_reducible refine (lean_bytes.calls ar aC az ay aA au aw av aD ax am ag ac aq ab ao ak ai ae ah ap _ _ aa aj al _ _ af y _ ?side1 ?side2 ?side3 ?side4 A2.out).mono ?_
  (case side1 => exact (Kd.C_below eA.out HB.out))
  (case side2 => exact eB.out)
  (case side3 => exact (Kd.C_below dZ.out HB.out))
  (case side4 => exact cX.out)
  rintro e fg ⟨rfl, hb⟩
  refine ⟨_, rfl, ?_⟩
  replace aY := Aside0.mk (blk_below (g := gm) aY.out hb)
  replace HB := Aside0.mk (below_step HB.out hb)
  clear hb
  refine hK.out _ _ ⟨aY.out, Sq.bc aY 5⟩ (fun hHeld => ?_)
  clear hK K
  refine norm_ (a' := ?_) ?_ ?_
  rotate_left
  ·show Act.put _ (some 22) _ = _
   simp only [Act.put, Sq.s1, Sq.s2, Sq.s3, i64_w, i32_w]
   rfl
  refine one_ (i := 7) (N := some 23) (Sq.b 9 255) rfl rfl (one_of HT_.out Z12) Z34 (fun K hK => ?_)
  refine goes_ Tryz.func136 Z12 rfl #[.string (q.extract b.toNat q.size), .string y] Z16 rfl rfl Z3 ?_
  with_reducible refine (prefix_Lead.calls k (q.extract b.toNat q.size) y r _ A3.out).mono ?_
  rintro e fg ⟨rfl, hb⟩
  refine ⟨_, rfl, ?_⟩
  replace aY := Aside0.mk (blk_below (g := gm) aY.out hb)
  replace HB := Aside0.mk (below_step HB.out hb)
  clear hb
  refine hK.out _ _ ⟨aY.out, Sq.bc aY 5⟩ (fun hHeld => ?_)
  clear hK K
  refine norm_ (a' := ?_) ?_ ?_
  rotate_left
  ·show Act.put _ (some 23) _ = _
   simp only [Act.put, Sq.s1, Sq.s2, Sq.s3, i64_w, i32_w]
   rfl
  refine Sq.pur 8 (some 4) (Sq.b 9 511) HT_.out ?_
  refine done_ (done_of HT_.out Z12) ?_
  go_wp2
  go_ret
  exact ⟨rfl, HB.out⟩

end Go.Proofs.YtnllanjoebjeiaaGreat.PV
