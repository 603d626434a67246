-- Written by mp.py, a program of this work (wip/tools), out of the translation; Lean checks it.
import Derived.Test.YtnllanjoebjeiaaGreatPVxZ
import Derived.Test.YtnllanjoebjeiaaGreatPVxmsgBare
import Derived.Test.YtnllanjoebjeiaaGreatPVxoctet
import Derived.Test.YtnllanjoebjeiaaGreatPVxrouteIn
import Derived.Test.YtnllanjoebjeiaaGreatPVxsub
namespace Go.Proofs.YtnllanjoebjeiaaGreat.PV
open Go.RowKit Go.Proofs.YtnllanjoebjeiaaGreatW.PrintWords Go.Proofs.YtnllanjoebjeiaaGreatW.PrintLast Go.Proofs.YtnllanjoebjeiaaGreatW.PrintMore
attribute [local go_sem] max2_int min2_int max_two min_two max_three min_three max_four min_four   -- for this text's walks alone
set_option linter.unusedVariables false
set_option linter.unusedSimpArgs false

/-! ### route_Right: function 64 -/
def route_Right.j0 : Nat → Bool → Int → Int → Int → ByteArray → Int → Int → ByteArray → Int → Int → ByteArray → Int → ByteArray → Int → Int → Int → Int → Int → Int → Int → ByteArray → ByteArray → List (S78) → Int → ByteArray → List (S80) → Option (Bool)
 | 0, _, _, _, _, _, _, _, _, _, _, _, _, _, _, _, _, _, _, _, _, _, _, _, _, _, _ => none
 | k + 1, iu, aQ, bo, bp, bq, br, aU, bs, bu, bv, aV, bf, aW, bg, bw, bm, bh, bi, bx, bA, bn, bB, bj, aZ, bk, bb => if iu = true then (some false) else (if aQ = 12 then (some true) else (if aQ = 13 then (if aU > 0 then ((octet_Fits.f bg 2).bind fun ch => (if ch = true then (if bi > 0 then ((octet_Fits.f bi 1).bind fun cb => (if cb = true then (some ((aW.size : Int) == 8)) else (some false))) else (some false)) else (some false))) else (some false)) else (some false)))
def route_Right.f (k : Nat) (ar : Int) (aC : Int) (az : Int) (ay : ByteArray) (aA : Int) (au : Int) (aw : ByteArray) (av : Int) (aD : Int) (ax : ByteArray) (am : Int) (ag : ByteArray) (ac : Int) (aq : Int) (ab : Int) (ao : Int) (ak : Int) (ai : Int) (ae : Int) (ah : ByteArray) (ap : ByteArray) (aa : List (S78)) (aj : Int) (al : ByteArray) (af : List (S80)) : Option (Bool) := (msg_Bare.f ar aC az ay aA au aw av aD ax am ag ac aq ab ao ak ai ae ah ap aa aj al af).bind fun bl => (if bl = true then ((sub_Right.f k af).bind fun bK => (if bK = true then ((route_In.f au aw av).bind fun bQ => (route_Right.j0 k (!bQ) ar aC az ay aA au aw av aD ax am ag ac aq ab ao ak ai ae ah ap aa aj al af)) else (route_Right.j0 k true ar aC az ay aA au aw av aD ax am ag ac aq ab ao ak ai ae ah ap aa aj al af))) else (route_Right.j0 k true ar aC az ay aA au aw av aD ax am ag ac aq ab ao ak ai ae ah ap aa aj al af))
theorem route_Right.mono_l : ∀ k, (∀ y0 y1 y2 y3 y4 y5 y6 y7 y8 y9 cn cp cq cr ct cu cv cw cx cy cA cB cC cD cE cF, LeO (route_Right.j0 k y0 y1 y2 y3 y4 y5 y6 y7 y8 y9 cn cp cq cr ct cu cv cw cx cy cA cB cC cD cE cF) (route_Right.j0 (k + 1) y0 y1 y2 y3 y4 y5 y6 y7 y8 y9 cn cp cq cr ct cu cv cw cx cy cA cB cC cD cE cF))
 | 0 => Sq.mz
 | k + 1 => by
  have ih0 := route_Right.mono_l k
  ·intros
   unfold route_Right.j0
   have m0 := sub_Right.mono
   exact Sq.mo
theorem route_Right.mono : ∀ a0 a1 a2 a3 a4 a5 a6 a7 a8 a9 dc dd de df dg dh di dj dk dl dm dn dp dq dr k, LeO (route_Right.f k a0 a1 a2 a3 a4 a5 a6 a7 a8 a9 dc dd de df dg dh di dj dk dl dm dn dp dq dr) (route_Right.f (k + 1) a0 a1 a2 a3 a4 a5 a6 a7 a8 a9 dc dd de df dg dh di dj dk dl dm dn dp dq dr) := by
 intro a0 a1 a2 a3 a4 a5 a6 a7 a8 a9 dc dd de df dg dh di dj dk dl dm dn dp dq dr k
 have ih0 := route_Right.mono_l k
 unfold route_Right.f
 have m0 := sub_Right.mono
 exact Sq.mo

set_option maxHeartbeats 8000000 in
set_option maxRecDepth 100000 in
theorem route_Right.calls (k : Nat) (ar : Int) (aC : Int) (az : Int) (ay : ByteArray) (aA : Int) (au : Int) (aw : ByteArray) (av : Int) (aD : Int) (ax : ByteArray) (am : Int) (ag : ByteArray) (ac : Int) (aq : Int) (ab : Int) (ao : Int) (ak : Int) (ai : Int) (ae : Int) (ah : ByteArray) (ap : ByteArray) (aJ : Option Addr) (aK : Nat) (aa : List (S78)) (aj : Int) (al : ByteArray) (aH : Option Addr) (aI : Nat) (af : List (S80)) (r : Bool) (w : World) (bD : Kd.C k78 w aJ aa.length aa) (bE : aa.length ≤ aK) (bF : Kd.C k80 w aH af.length af) (bG : af.length ≤ aI) (h : route_Right.f k ar aC az ay aA au aw av aD ax am ag ac aq ab ao ak ai ae ah ap aa aj al af = some r) :
  Calls Tryz.prog 64 #[.agg #[.int .i64 ar, .int .i64 aC, .int .i64 az, .string ay, .int .i64 aA, .int .i64 au, .string aw, .int .i64 av, .int .i64 aD, .string ax, .int .i64 am, .string ag, .int .i64 ac, .int .i64 aq, .int .i64 ab, .int .i64 ao, .int .i64 ak, .int .i64 ai, .int .i64 ae, .string ah, .string ap, .slice aJ aa.length aK, .int .i64 aj, .string al, .slice aH af.length aI]] w fun e w' => e = .returned (.bool r) ∧ Below w.heap.size w w' := by
 have dP := Tryz.underlying32
 have bY := Aside0.mk bD
 have bH := Aside0.mk bE
 clear bD bE
 have bZ := Aside0.mk bF
 have aT := Aside0.mk bG
 clear bF bG
 have HB := Aside0.mk (Below.refl w.heap.size w)
 have H : ((msg_Bare.f ar aC az ay aA au aw av aD ax am ag ac aq ab ao ak ai ae ah ap aa aj al af).bind fun bl => (if bl = true then ((sub_Right.f k af).bind fun bK => (if bK = true then ((route_In.f au aw av).bind fun bQ => (route_Right.j0 k (!bQ) ar aC az ay aA au aw av aD ax am ag ac aq ab ao ak ai ae ah ap aa aj al af)) else (route_Right.j0 k true ar aC az ay aA au aw av aD ax am ag ac aq ab ao ak ai ae ah ap aa aj al af))) else (route_Right.j0 k true ar aC az ay aA au aw av aD ax am ag ac aq ab ao ak ai ae ah ap aa aj al af))) = some r := h
 clear h
 have dY := Aside0.mk H
 clear H
 go_enter Tryz.func64, Tryz.ntmps64
 go_upto_region 1 with (first | ((with_reducible refine Pre.gate_load 32 rfl ?_); (try (refine gate_guard Z16 ?_; dsimp only)); refine Pre.load_event rfl rfl rfl Z16 Z0 Tryz.underlying32 rfl Z12 ?_) | ((with_reducible refine gate_dst (N := 1) rfl ?_); (try (refine gate_guard Z16 ?_; dsimp only)); refine Sq.box 1 #[.int .i64 ar, .int .i64 aC, .int .i64 az, .string ay, .int .i64 aA, .int .i64 au, .string aw, .int .i64 av, .int .i64 aD, .string ax, .int .i64 am, .string ag, .int .i64 ac, .int .i64 aq, .int .i64 ab, .int .i64 ao, .int .i64 ak, .int .i64 ai, .int .i64 ae, .string ah, .string ap, .slice aJ aa.length aK, .int .i64 aj, .string al, .slice aH af.length aI] 32 ?_; intro aN hg w3 hbox hb; have aE := Aside0.mk (hbox); have cG := Aside0.mk (Sq.ge hg Z2); have cg := Aside0.mk (Sq.ge hg Z2); replace HB := Aside0.mk (below_step Z2 hb); clear hb hbox hg))
 (try simp only [Act.put, Sq.s1, Sq.s2, Sq.s3])
 go_cut [21] (fun eO wc => ∃ (kq : Nat) (ee : Bool), eO = .bool ee ∧ Aside0 (route_Right.j0 kq ee ar aC az ay aA au aw av aD ax am ag ac aq ab ao ak ai ae ah ap aa aj al af = some r) ∧ Aside0 (kq ≤ k) ∧ Aside0 (wc.heap[aN]? = some (.cells #[.int .i64 ar, .int .i64 aC, .int .i64 az, .string ay, .int .i64 aA, .int .i64 au, .string aw, .int .i64 av, .int .i64 aD, .string ax, .int .i64 am, .string ag, .int .i64 ac, .int .i64 aq, .int .i64 ab, .int .i64 ao, .int .i64 ak, .int .i64 ai, .int .i64 ae, .string ah, .string ap, (.slice aJ aa.length aK), .int .i64 aj, .string al, (.slice aH af.length aI)] 32 (0, 0))) ∧ Aside0 (Below w.heap.size w wc))
 case first =>
  have H := dY.out
  clear dY
  replace H := Option.bind_eq_some_iff.mp H
  obtain ⟨bl, eV, H⟩ := H
  replace H : (if bl = true then ((sub_Right.f k af).bind fun bK => (if bK = true then ((route_In.f au aw av).bind fun bQ => (route_Right.j0 k (!bQ) ar aC az ay aA au aw av aD ax am ag ac aq ab ao ak ai ae ah ap aa aj al af)) else (route_Right.j0 k true ar aC az ay aA au aw av aD ax am ag ac aq ab ao ak ai ae ah ap aa aj al af))) else (route_Right.j0 k true ar aC az ay aA au aw av aD ax am ag ac aq ab ao ak ai ae ah ap aa aj al af)) = some r := H
  have A4 := Aside0.mk eV
  clear eV
  by_cases c5 : bl = true
  ·subst c5
   replace H := Sq.itT H
   replace H := Option.bind_eq_some_iff.mp H
   obtain ⟨bK, fR, H⟩ := H
   replace H : (if bK = true then ((route_In.f au aw av).bind fun bQ => (route_Right.j0 k (!bQ) ar aC az ay aA au aw av aD ax am ag ac aq ab ao ak ai ae ah ap aa aj al af)) else (route_Right.j0 k true ar aC az ay aA au aw av aD ax am ag ac aq ab ao ak ai ae ah ap aa aj al af)) = some r := H
   have A6 := Aside0.mk fR
   clear fR
   by_cases c7 : bK = true
   ·subst c7
    replace H := Sq.itT H
    replace H := Option.bind_eq_some_iff.mp H
    obtain ⟨bQ, fS, H⟩ := H
    replace H : (route_Right.j0 k (!bQ) ar aC az ay aA au aw av aD ax am ag ac aq ab ao ak ai ae ah ap aa aj al af) = some r := H
    have A8 := Aside0.mk fS
    clear fS
    have H' := Aside0.mk H
    clear H
    have eW := cells_25 aE.out
    go_wp2_with (first | ((with_reducible refine Pre.gate_load 32 rfl ?_); (try (refine gate_guard Z16 ?_; dsimp only)); refine Pre.load_event rfl rfl rfl Z16 Z0 Tryz.underlying32 rfl Z12 ?_) | ((with_reducible refine gate_callee (f := 65) rfl ?_); refine goesL_ (some 4) rfl rfl Tryz.func65 Z12 rfl #[.agg #[.int .i64 ar, .int .i64 aC, .int .i64 az, .string ay, .int .i64 aA, .int .i64 au, .string aw, .int .i64 av, .int .i64 aD, .string ax, .int .i64 am, .string ag, .int .i64 ac, .int .i64 aq, .int .i64 ab, .int .i64 ao, .int .i64 ak, .int .i64 ai, .int .i64 ae, .string ah, .string ap, .slice aJ aa.length aK, .int .i64 aj, .string al, .slice aH af.length aI]] rfl Z3 ?_; (with_reducible refine (msg_Bare.calls ar aC az ay aA au aw av aD ax am ag ac aq ab ao ak ai ae ah ap _ _ aa aj al _ _ af true _ ?side1 ?side2 ?side3 ?side4 A4.out).mono ?_); (case side1 => exact Z9); (case side2 => exact bH.out); (case side3 => exact Z6); (case side4 => exact aT.out); rintro e dL ⟨rfl, hb⟩; refine ⟨_, rfl, ?_⟩; replace aE := Aside0.mk (blk_below (g := aN) Z4 hb); replace HB := Aside0.mk (below_step Z1 hb); clear hb; have fe := cells_25 aE.out) | (go_at_call 123; (with_reducible refine (sub_Right.calls k _ _ af true _ ?side1 ?side2 A6.out).mono ?_); (case side1 => exact Z6); (case side2 => exact aT.out); rintro e iv ⟨rfl, hb⟩; replace aE := Aside0.mk (blk_below (g := aN) Z4 hb); replace HB := Aside0.mk (below_step Z1 hb); clear hb; have eu := cells_25 aE.out) | (go_at_call 124; (with_reducible refine (route_In.calls au aw av bQ _ A8.out).mono ?_); rintro e fd ⟨rfl, hb⟩; replace aE := Aside0.mk (blk_below (g := aN) Z4 hb); replace HB := Aside0.mk (below_step Z1 hb); clear hb))
    go_meet
    case rel => exact ⟨_, (!bQ), Z8, H', ⟨Z22⟩, ⟨Z4⟩, ⟨Z1⟩⟩
   ·replace c7 := Bool.eq_false_iff.mpr c7
    subst c7
    replace H := Sq.itF H
    have H' := Aside0.mk H
    clear H
    have fT := cells_25 aE.out
    go_wp2_with (first | ((with_reducible refine Pre.gate_load 32 rfl ?_); (try (refine gate_guard Z16 ?_; dsimp only)); refine Pre.load_event rfl rfl rfl Z16 Z0 Tryz.underlying32 rfl Z12 ?_) | ((with_reducible refine gate_callee (f := 65) rfl ?_); refine goesL_ (some 4) rfl rfl Tryz.func65 Z12 rfl #[.agg #[.int .i64 ar, .int .i64 aC, .int .i64 az, .string ay, .int .i64 aA, .int .i64 au, .string aw, .int .i64 av, .int .i64 aD, .string ax, .int .i64 am, .string ag, .int .i64 ac, .int .i64 aq, .int .i64 ab, .int .i64 ao, .int .i64 ak, .int .i64 ai, .int .i64 ae, .string ah, .string ap, .slice aJ aa.length aK, .int .i64 aj, .string al, .slice aH af.length aI]] rfl Z3 ?_; (with_reducible refine (msg_Bare.calls ar aC az ay aA au aw av aD ax am ag ac aq ab ao ak ai ae ah ap _ _ aa aj al _ _ af true _ ?side1 ?side2 ?side3 ?side4 A4.out).mono ?_); (case side1 => exact Z9); (case side2 => exact bH.out); (case side3 => exact Z6); (case side4 => exact aT.out); rintro e hD ⟨rfl, hb⟩; refine ⟨_, rfl, ?_⟩; replace aE := Aside0.mk (blk_below (g := aN) Z4 hb); replace HB := Aside0.mk (below_step Z1 hb); clear hb; have hcz17 := cells_25 aE.out) | (go_at_call 123; (with_reducible refine (sub_Right.calls k _ _ af false _ ?side1 ?side2 A6.out).mono ?_); (case side1 => exact Z6); (case side2 => exact aT.out); rintro e w18 ⟨rfl, hb⟩; replace aE := Aside0.mk (blk_below (g := aN) Z4 hb); replace HB := Aside0.mk (below_step Z1 hb); clear hb))
    go_meet
    case rel => exact ⟨_, (true), Z8, H', ⟨Z22⟩, ⟨Z4⟩, ⟨Z1⟩⟩
  ·replace c5 := Bool.eq_false_iff.mpr c5
   subst c5
   replace H := Sq.itF H
   have H' := Aside0.mk H
   clear H
   have fU := cells_25 aE.out
   go_wp2_with (first | ((with_reducible refine Pre.gate_load 32 rfl ?_); (try (refine gate_guard Z16 ?_; dsimp only)); refine Pre.load_event rfl rfl rfl Z16 Z0 Tryz.underlying32 rfl Z12 ?_) | ((with_reducible refine gate_callee (f := 65) rfl ?_); refine goesL_ (some 4) rfl rfl Tryz.func65 Z12 rfl #[.agg #[.int .i64 ar, .int .i64 aC, .int .i64 az, .string ay, .int .i64 aA, .int .i64 au, .string aw, .int .i64 av, .int .i64 aD, .string ax, .int .i64 am, .string ag, .int .i64 ac, .int .i64 aq, .int .i64 ab, .int .i64 ao, .int .i64 ak, .int .i64 ai, .int .i64 ae, .string ah, .string ap, .slice aJ aa.length aK, .int .i64 aj, .string al, .slice aH af.length aI]] rfl Z3 ?_; (with_reducible refine (msg_Bare.calls ar aC az ay aA au aw av aD ax am ag ac aq ab ao ak ai ae ah ap _ _ aa aj al _ _ af false _ ?side1 ?side2 ?side3 ?side4 A4.out).mono ?_); (case side1 => exact Z9); (case side2 => exact bH.out); (case side3 => exact Z6); (case side4 => exact aT.out); rintro e w20 ⟨rfl, hb⟩; refine ⟨_, rfl, ?_⟩; replace aE := Aside0.mk (blk_below (g := aN) Z4 hb); replace HB := Aside0.mk (below_step Z1 hb); clear hb))
   go_meet
   case rel => exact ⟨_, (true), Z8, H', ⟨Z22⟩, ⟨Z4⟩, ⟨Z1⟩⟩
 case rest =>
  clear dY
  try clear c6
  obtain ⟨kq, ee, rfl, HA, eP, aE, HB⟩ := hcut
  cases kq with
  | zero => exact absurd HA.out (by simp [route_Right.j0])
  | succ kj1 =>
   have H := HA.out
   clear HA
   simp only [route_Right.j0] at H
   by_cases dz : ee = true
   ·subst dz
    replace H := Sq.itT H
    obtain rfl := Option.some.inj H
    go_wp2_with (first | ((with_reducible refine Pre.gate_load 32 rfl ?_); (try (refine gate_guard Z16 ?_; dsimp only)); refine Pre.load_event rfl rfl rfl Z16 Z0 Tryz.underlying32 rfl Z12 ?_))
    go_ret
    exact ⟨Z5, Z1⟩
   ·replace dz := Bool.eq_false_iff.mpr dz
    subst dz
    replace H := Sq.itF H
    by_cases dt : ar = 12
    ·rw [if_pos dt] at H
     have ev : (ar == 12) = true := beq_iff_eq.mpr dt
     have fV : (ar != 12) = false := bne_eq_false_iff_eq.mpr dt
     clear dt
     obtain rfl := Option.some.inj H
     have fW := cells_25 aE.out
     go_wp2_with (first | ((with_reducible refine Pre.gate_load 32 rfl ?_); (try (refine gate_guard Z16 ?_; dsimp only)); refine Pre.load_event rfl rfl rfl Z16 Z0 Tryz.underlying32 rfl Z12 ?_))
     go_ret
     exact ⟨Z5, Z1⟩
    ·rw [if_neg dt] at H
     have ev : (ar == 12) = false := beq_eq_false_iff_ne.mpr dt
     have fV : (ar != 12) = true := bne_iff_ne.mpr dt
     by_cases cT : ar = 13
     ·rw [if_pos cT] at H
      have ew : (ar == 13) = true := beq_iff_eq.mpr cT
      have ex : (ar != 13) = false := bne_eq_false_iff_eq.mpr cT
      clear cT
      by_cases ef : au > 0
      ·rw [if_pos ef] at H
       have cW : decide (0 < au) = true := decide_eq_true ef
       clear ef
       replace H := Option.bind_eq_some_iff.mp H
       obtain ⟨ch, fX, H⟩ := H
       replace H : (if ch = true then (if ak > 0 then ((octet_Fits.f ak 1).bind fun cb => (if cb = true then (some ((ag.size : Int) == 8)) else (some false))) else (some false)) else (some false)) = some r := H
       have hF := Aside0.mk fX
       clear fX
       by_cases en : ch = true
       ·subst en
        replace H := Sq.itT H
        by_cases dA : ak > 0
        ·rw [if_pos dA] at H
         have ey : decide (0 < ak) = true := decide_eq_true dA
         clear dA
         replace H := Option.bind_eq_some_iff.mp H
         obtain ⟨cb, ez, H⟩ := H
         replace H : (if cb = true then (some ((ag.size : Int) == 8)) else (some false)) = some r := H
         have fJ := Aside0.mk ez
         clear ez
         by_cases hG : cb = true
         ·subst hG
          replace H := Sq.itT H
          obtain rfl := Option.some.inj H
          have fY := cells_25 aE.out
          go_wp2_with (first | ((with_reducible refine Pre.gate_load 32 rfl ?_); (try (refine gate_guard Z16 ?_; dsimp only)); refine Pre.load_event rfl rfl rfl Z16 Z0 Tryz.underlying32 rfl Z12 ?_) | (go_at_call 90; (with_reducible refine (octet_Fits.calls ac 2 true _ hF.out).mono ?_); rintro e w' ⟨rfl, ⟨nd, rfl⟩⟩) | (go_at_call 90; (with_reducible refine (octet_Fits.calls ak 1 true _ fJ.out).mono ?_); rintro e w' ⟨rfl, ⟨nd, rfl⟩⟩))
          go_ret
          exact ⟨Z5, Z1⟩
         ·replace hG := Bool.eq_false_iff.mpr hG
          subst hG
          replace H := Sq.itF H
          obtain rfl := Option.some.inj H
          have ff := cells_25 aE.out
          go_wp2_with (first | ((with_reducible refine Pre.gate_load 32 rfl ?_); (try (refine gate_guard Z16 ?_; dsimp only)); refine Pre.load_event rfl rfl rfl Z16 Z0 Tryz.underlying32 rfl Z12 ?_) | (go_at_call 90; (with_reducible refine (octet_Fits.calls ac 2 true _ hF.out).mono ?_); rintro e w' ⟨rfl, ⟨nd, rfl⟩⟩) | (go_at_call 90; (with_reducible refine (octet_Fits.calls ak 1 false _ fJ.out).mono ?_); rintro e w' ⟨rfl, ⟨nd, rfl⟩⟩))
          go_ret
          exact ⟨Z5, Z1⟩
        ·rw [if_neg dA] at H
         have ey : decide (0 < ak) = false := decide_eq_false dA
         clear dA
         obtain rfl := Option.some.inj H
         have fZ := cells_25 aE.out
         go_wp2_with (first | ((with_reducible refine Pre.gate_load 32 rfl ?_); (try (refine gate_guard Z16 ?_; dsimp only)); refine Pre.load_event rfl rfl rfl Z16 Z0 Tryz.underlying32 rfl Z12 ?_) | (go_at_call 90; (with_reducible refine (octet_Fits.calls ac 2 true _ hF.out).mono ?_); rintro e w' ⟨rfl, ⟨nd, rfl⟩⟩))
         go_ret
         exact ⟨Z5, Z1⟩
       ·replace en := Bool.eq_false_iff.mpr en
        subst en
        replace H := Sq.itF H
        obtain rfl := Option.some.inj H
        have ga := cells_25 aE.out
        go_wp2_with (first | ((with_reducible refine Pre.gate_load 32 rfl ?_); (try (refine gate_guard Z16 ?_; dsimp only)); refine Pre.load_event rfl rfl rfl Z16 Z0 Tryz.underlying32 rfl Z12 ?_) | (go_at_call 90; (with_reducible refine (octet_Fits.calls ac 2 false _ hF.out).mono ?_); rintro e w' ⟨rfl, ⟨nd, rfl⟩⟩))
        go_ret
        exact ⟨Z5, Z1⟩
      ·rw [if_neg ef] at H
       have cW : decide (0 < au) = false := decide_eq_false ef
       clear ef
       obtain rfl := Option.some.inj H
       have hcz35 := cells_25 aE.out
       go_wp2_with (first | ((with_reducible refine Pre.gate_load 32 rfl ?_); (try (refine gate_guard Z16 ?_; dsimp only)); refine Pre.load_event rfl rfl rfl Z16 Z0 Tryz.underlying32 rfl Z12 ?_))
       go_ret
       exact ⟨Z5, Z1⟩
     ·rw [if_neg cT] at H
      have ew : (ar == 13) = false := beq_eq_false_iff_ne.mpr cT
      have ex : (ar != 13) = true := bne_iff_ne.mpr cT
      obtain rfl := Option.some.inj H
      have gb := cells_25 aE.out
      go_wp2_with (first | ((with_reducible refine Pre.gate_load 32 rfl ?_); (try (refine gate_guard Z16 ?_; dsimp only)); refine Pre.load_event rfl rfl rfl Z16 Z0 Tryz.underlying32 rfl Z12 ?_))
      go_ret
      exact ⟨Z5, Z1⟩

end Go.Proofs.YtnllanjoebjeiaaGreat.PV
