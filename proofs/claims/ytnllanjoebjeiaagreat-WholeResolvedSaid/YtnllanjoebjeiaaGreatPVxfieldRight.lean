-- Written by mp.py, a program of this work (wip/tools), out of the translation; Lean checks it.
import Derived.Test.YtnllanjoebjeiaaGreatPVxZ
import Derived.Test.YtnllanjoebjeiaaGreatPVxfieldaddress
import Derived.Test.YtnllanjoebjeiaaGreatPVxmsgBare
import Derived.Test.YtnllanjoebjeiaaGreatPVxoctet
import Derived.Test.YtnllanjoebjeiaaGreatPVxsub
namespace Go.Proofs.YtnllanjoebjeiaaGreat.PV
open Go.RowKit Go.Proofs.YtnllanjoebjeiaaGreatW.PrintWords Go.Proofs.YtnllanjoebjeiaaGreatW.PrintLast Go.Proofs.YtnllanjoebjeiaaGreatW.PrintMore
attribute [local go_sem] max2_int min2_int max_two min_two max_three min_three max_four min_four   -- for this text's walks alone
set_option linter.unusedVariables false
set_option linter.unusedSimpArgs false

/-! ### field_Right: function 66 -/
mutual
def field_Right.l0 : Nat → List Int → Int → Int → Int → Int → Int → ByteArray → Int → Int → ByteArray → Int → Int → ByteArray → Int → ByteArray → Int → Int → Int → Int → Int → Int → Int → ByteArray → ByteArray → List (S78) → Int → ByteArray → List (S80) → Option (Bool)
 | 0, _, _, _, _, _, _, _, _, _, _, _, _, _, _, _, _, _, _, _, _, _, _, _, _, _, _, _, _ => none
 | k + 1, fK, eX, gY, aQ, bo, bp, bq, br, aU, bs, bu, bv, aV, bf, aW, bg, bw, bm, bh, bi, bx, bA, bn, bB, bj, aZ, bk, bb => if gY < eX then (if 0 ≤ gY then (if gY < (fK.length : Int) then ((octet_Fits.f (rd fK gY) 2).bind fun cb => (if cb = true then (field_Right.l0 k fK eX (wrap64 (gY + 1)) aQ bo bp bq br aU bs bu bv aV bf aW bg bw bm bh bi bx bA bn bB bj aZ bk bb) else (some false))) else (none)) else (none)) else ((msg_Bare.f aQ bo bp bq br aU bs bu bv aV bf aW bg bw bm bh bi bx bA bn bB bj aZ bk bb).bind fun ci => (if ci = true then ((sub_Right.f k bb).bind fun cj => (field_Right.j1 k (!cj) aQ bo bp bq br aU bs bu bv aV bf aW bg bw bm bh bi bx bA bn bB bj aZ bk bb)) else (field_Right.j1 k true aQ bo bp bq br aU bs bu bv aV bf aW bg bw bm bh bi bx bA bn bB bj aZ bk bb)))
def field_Right.j1 : Nat → Bool → Int → Int → Int → ByteArray → Int → Int → ByteArray → Int → Int → ByteArray → Int → ByteArray → Int → Int → Int → Int → Int → Int → Int → ByteArray → ByteArray → List (S78) → Int → ByteArray → List (S80) → Option (Bool)
 | 0, _, _, _, _, _, _, _, _, _, _, _, _, _, _, _, _, _, _, _, _, _, _, _, _, _, _ => none
 | k + 1, iF, aQ, bo, bp, bq, br, aU, bs, bu, bv, aV, bf, aW, bg, bw, bm, bh, bi, bx, bA, bn, bB, bj, aZ, bk, bb => if iF = true then (some false) else (if aQ = 7 then (field_Right.j2 k aQ (aQ == 7) aQ bo bp bq br aU bs bu bv aV bf aW bg bw bm bh bi bx bA bn bB bj aZ bk bb) else (field_Right.j2 k aQ (aQ == 8) aQ bo bp bq br aU bs bu bv aV bf aW bg bw bm bh bi bx bA bn bB bj aZ bk bb))
def field_Right.j2 : Nat → Int → Bool → Int → Int → Int → ByteArray → Int → Int → ByteArray → Int → Int → ByteArray → Int → ByteArray → Int → Int → Int → Int → Int → Int → Int → ByteArray → ByteArray → List (S78) → Int → ByteArray → List (S80) → Option (Bool)
 | 0, _, _, _, _, _, _, _, _, _, _, _, _, _, _, _, _, _, _, _, _, _, _, _, _, _, _, _ => none
 | k + 1, iG, iH, aQ, bo, bp, bq, br, aU, bs, bu, bv, aV, bf, aW, bg, bw, bm, bh, bi, bx, bA, bn, bB, bj, aZ, bk, bb => if iH = true then (some true) else (if iG = 9 then (if bh = 0 then (some true) else (some (bh == 1))) else (if aQ = 10 then ((field_address.f aU bn).bind fun cm => (some cm)) else (some false)))
end
def field_Right.f (k : Nat) (ar : Int) (aC : Int) (az : Int) (ay : ByteArray) (aA : Int) (au : Int) (aw : ByteArray) (av : Int) (aD : Int) (ax : ByteArray) (am : Int) (ag : ByteArray) (ac : Int) (aq : Int) (ab : Int) (ao : Int) (ak : Int) (ai : Int) (ae : Int) (ah : ByteArray) (ap : ByteArray) (aa : List (S78)) (aj : Int) (al : ByteArray) (af : List (S80)) : Option (Bool) := (some (([ai, ab, ac, ae] : List Int) : List Int)).bind fun bT => (field_Right.l0 k bT (bT.length : Int) 0 ar aC az ay aA au aw av aD ax am ag ac aq ab ao ak ai ae ah ap aa aj al af)
theorem field_Right.mono_l : ∀ k, (∀ y0 y1 y2 y3 y4 y5 y6 y7 y8 y9 cn cp cq cr ct cu cv cw cx cy cA cB cC cD cE cF eL im, LeO (field_Right.l0 k y0 y1 y2 y3 y4 y5 y6 y7 y8 y9 cn cp cq cr ct cu cv cw cx cy cA cB cC cD cE cF eL im) (field_Right.l0 (k + 1) y0 y1 y2 y3 y4 y5 y6 y7 y8 y9 cn cp cq cr ct cu cv cw cx cy cA cB cC cD cE cF eL im)) ∧ (∀ y0 y1 y2 y3 y4 y5 y6 y7 y8 y9 cn cp cq cr ct cu cv cw cx cy cA cB cC cD cE cF, LeO (field_Right.j1 k y0 y1 y2 y3 y4 y5 y6 y7 y8 y9 cn cp cq cr ct cu cv cw cx cy cA cB cC cD cE cF) (field_Right.j1 (k + 1) y0 y1 y2 y3 y4 y5 y6 y7 y8 y9 cn cp cq cr ct cu cv cw cx cy cA cB cC cD cE cF)) ∧ (∀ y0 y1 y2 y3 y4 y5 y6 y7 y8 y9 cn cp cq cr ct cu cv cw cx cy cA cB cC cD cE cF eL, LeO (field_Right.j2 k y0 y1 y2 y3 y4 y5 y6 y7 y8 y9 cn cp cq cr ct cu cv cw cx cy cA cB cC cD cE cF eL) (field_Right.j2 (k + 1) y0 y1 y2 y3 y4 y5 y6 y7 y8 y9 cn cp cq cr ct cu cv cw cx cy cA cB cC cD cE cF eL))
 | 0 => ⟨Sq.mz, Sq.mz, Sq.mz⟩
 | k + 1 => by
  obtain ⟨ih0, ih1, ih2⟩ := field_Right.mono_l k
  refine ⟨?_, ?_, ?_⟩
  ·intros
   unfold field_Right.l0
   have m0 := sub_Right.mono
   exact Sq.mo
  ·intros
   unfold field_Right.j1
   have m0 := sub_Right.mono
   exact Sq.mo
  ·intros
   unfold field_Right.j2
   have m0 := sub_Right.mono
   exact Sq.mo
theorem field_Right.mono : ∀ a0 a1 a2 a3 a4 a5 a6 a7 a8 a9 dc dd de df dg dh di dj dk dl dm dn dp dq dr k, LeO (field_Right.f k a0 a1 a2 a3 a4 a5 a6 a7 a8 a9 dc dd de df dg dh di dj dk dl dm dn dp dq dr) (field_Right.f (k + 1) a0 a1 a2 a3 a4 a5 a6 a7 a8 a9 dc dd de df dg dh di dj dk dl dm dn dp dq dr) := by
 intros
 rename_i k
 obtain ⟨ih0, ih1, ih2⟩ := field_Right.mono_l k
 unfold field_Right.f
 have m0 := sub_Right.mono
 exact Sq.mo

set_option maxHeartbeats 8000000 in
set_option maxRecDepth 100000 in
theorem field_Right.calls (k : Nat) (ar : Int) (aC : Int) (az : Int) (ay : ByteArray) (aA : Int) (au : Int) (aw : ByteArray) (av : Int) (aD : Int) (ax : ByteArray) (am : Int) (ag : ByteArray) (ac : Int) (aq : Int) (ab : Int) (ao : Int) (ak : Int) (ai : Int) (ae : Int) (ah : ByteArray) (ap : ByteArray) (aJ : Option Addr) (aK : Nat) (aa : List (S78)) (aj : Int) (al : ByteArray) (aH : Option Addr) (aI : Nat) (af : List (S80)) (r : Bool) (w : World) (bD : Kd.C k78 w aJ aa.length aa) (bE : aa.length ≤ aK) (bF : Kd.C k80 w aH af.length af) (bG : af.length ≤ aI) (h : field_Right.f k ar aC az ay aA au aw av aD ax am ag ac aq ab ao ak ai ae ah ap aa aj al af = some r) :
  Calls Tryz.prog 66 #[.agg #[.int .i64 ar, .int .i64 aC, .int .i64 az, .string ay, .int .i64 aA, .int .i64 au, .string aw, .int .i64 av, .int .i64 aD, .string ax, .int .i64 am, .string ag, .int .i64 ac, .int .i64 aq, .int .i64 ab, .int .i64 ao, .int .i64 ak, .int .i64 ai, .int .i64 ae, .string ah, .string ap, .slice aJ aa.length aK, .int .i64 aj, .string al, .slice aH af.length aI]] w fun e w' => e = .returned (.bool r) ∧ Below w.heap.size w w' := by
 have dP := Tryz.underlying32
 have bY := Aside0.mk bD
 have bH := Aside0.mk bE
 clear bD bE
 have bZ := Aside0.mk bF
 have aT := Aside0.mk bG
 clear bF bG
 have HB := Aside0.mk (Below.refl w.heap.size w)
 have H : ((some (([ai, ab, ac, ae] : List Int) : List Int)).bind fun bT => (field_Right.l0 k bT (bT.length : Int) 0 ar aC az ay aA au aw av aD ax am ag ac aq ab ao ak ai ae ah ap aa aj al af)) = some r := h
 clear h
 obtain ⟨bT, hy102⟩ : ∃ y_ : List Int, y_ = (([ai, ab, ac, ae] : List Int)) := ⟨_, rfl⟩
 replace H : (field_Right.l0 k bT (bT.length : Int) 0 ar aC az ay aA au aw av aD ax am ag ac aq ab ao ak ai ae ah ap aa aj al af) = some r := by first | (rw [hy102]; with_reducible exact H) | (have H2_ := (Option.bind_some _ _).symm.trans H; rw [hy102]; with_reducible exact H2_) | (have H2_ := (Option.bind_some _ _).symm.trans H; with_reducible exact H2_) | with_reducible exact H | (rw [hy102]; exact H) | exact H
 have Ny102 := Aside0.mk hy102
 clear hy102
 have H' := Aside0.mk H
 clear H
 go_enter Tryz.func66, Tryz.ntmps66
 go_wp2_with (first | ((with_reducible refine Pre.gate_load 32 rfl ?_); (try (refine gate_guard Z16 ?_; dsimp only)); refine Pre.load_event rfl rfl rfl Z16 Z0 Tryz.underlying32 rfl Z12 ?_) | ((with_reducible refine gate_dst (N := 1) rfl ?_); refine Sq.box 1 #[.int .i64 ar, .int .i64 aC, .int .i64 az, .string ay, .int .i64 aA, .int .i64 au, .string aw, .int .i64 av, .int .i64 aD, .string ax, .int .i64 am, .string ag, .int .i64 ac, .int .i64 aq, .int .i64 ab, .int .i64 ao, .int .i64 ak, .int .i64 ai, .int .i64 ae, .string ah, .string ap, .slice aJ aa.length aK, .int .i64 aj, .string al, .slice aH af.length aI] 32 ?_; intro aN hg w2 hbox hb; have aE := Aside0.mk (hbox); have cG := Aside0.mk (Sq.ge hg Z2); have cg := Aside0.mk (Sq.ge hg Z2); replace HB := Aside0.mk (below_step Z2 hb); clear hb hbox hg; have fF := cells_25 aE.out) | ((with_reducible refine gate_dst (N := 13) rfl ?_); refine Kd.R_lit (Kd.int .i64) _ 3 ?hg (N := 13) ?hd (xs := ([ai, ab, ac, ae] : List Int)) (inner := [.int .i64 ai, .int .i64 ab, .int .i64 ac, .int .i64 ae]) (ok := fun _ => True) (okp := fun _ => True) ?hr ?hp (fun _ hk => hk) trivial (Below.refl _ _) (Nat.le_refl _) Z27 ?_; (case hd => rfl); (case hg => rfl); (case hr => first | (go_simp; done) | (go_simp; rfl)); (case hp => exact (Reps.one (show Kd.M (Kd.int .i64) _ _ _ ai [.int .i64 ai] from rfl) (Reps.one (show Kd.M (Kd.int .i64) _ _ _ ab [.int .i64 ab] from rfl) (Reps.one (show Kd.M (Kd.int .i64) _ _ _ ac [.int .i64 ac] from rfl) (Reps.one (show Kd.M (Kd.int .i64) _ _ _ ae [.int .i64 ae] from rfl) (Reps.none _ _)))))); intro fO w4 ho5 hb hg_ hnew_; clear hg_ hnew_; (first | rw [← Ny102.out] at ho5 | (simp only [Int.reduceToNat] at ho5; rw [← Ny102.out] at ho5)); have ed := Aside0.mk (Kd.R_lower ho5 (below_size Z1)); replace aE := Aside0.mk (blk_below (g := aN) Z4 hb); replace HB := Aside0.mk (below_step Z1 hb); clear hb ho5; obtain ⟨iI, iJ, eo6⟩ := Kd.R_slice ed.out; subst eo6))
 go_loopg [15] k (fun kq eS w' => ∃ (bR : Int), eS = .int .i64 bR ∧ Aside0 (field_Right.l0 kq bT (bT.length : Int) bR ar aC az ay aA au aw av aD ax am ag ac aq ab ao ak ai ae ah ap aa aj al af = some r) ∧ Aside0 (kq ≤ k) ∧ Aside0 (Kd.R (Kd.int .i64) 3 w' w.heap.size (fun _ => True) (.slice iI bT.length iJ) bT) ∧ Aside0 (w'.heap[aN]? = some (.cells #[.int .i64 ar, .int .i64 aC, .int .i64 az, .string ay, .int .i64 aA, .int .i64 au, .string aw, .int .i64 av, .int .i64 aD, .string ax, .int .i64 am, .string ag, .int .i64 ac, .int .i64 aq, .int .i64 ab, .int .i64 ao, .int .i64 ak, .int .i64 ai, .int .i64 ae, .string ah, .string ap, (.slice aJ aa.length aK), .int .i64 aj, .string al, (.slice aH af.length aI)] 32 (0, 0))) ∧ Aside0 (Below w.heap.size w w'))
 case atStart => exact ⟨(0), Z8, H', ⟨Nat.le_refl _⟩, ⟨by (with_reducible repeat (first | apply Kd.R_alloc | apply Kd.R_drewN | apply Kd.R_drew)); exact ed.out⟩, ⟨Z4⟩, ⟨Z1⟩⟩
 case round =>
  clear H'
  try clear p2
  try clear c6
  try clear fF
  obtain ⟨bR, rfl, HA, HK1, HO_13, aE, HB⟩ := hrel
  cases gk with
  | zero => exact absurd HA.out (by simp [field_Right.l0])
  | succ k1 =>
   have H := HA.out
   clear HA
   simp only [field_Right.l0] at H
   by_cases c7 : bR < (bT.length : Int)
   ·rw [if_pos c7] at H
    have cN : decide (bR < (bT.length : Int)) = true := decide_eq_true c7
    clear c7
    by_cases c8 : 0 ≤ bR
    ·rw [if_pos c8] at H
     have ec : decide (0 ≤ bR) = true := decide_eq_true c8
     clear c8
     by_cases c9 : bR < (bT.length : Int)
     ·rw [if_pos c9] at H
      have dX : decide (bR < (bT.length : Int)) = true := decide_eq_true c9
      clear c9
      replace H := Option.bind_eq_some_iff.mp H
      obtain ⟨cb, gZ, H⟩ := H
      replace H : (if cb = true then (field_Right.l0 k1 bT (bT.length : Int) (wrap64 (bR + 1)) ar aC az ay aA au aw av aD ax am ag ac aq ab ao ak ai ae ah ap aa aj al af) else (some false)) = some r := H
      have io := Aside0.mk gZ
      clear gZ
      by_cases cS : cb = true
      ·subst cS
       replace H := Sq.itT H
       have H' := Aside0.mk H
       clear H
       have p105 : 0 ≤ (bR : Int) := of_decide_eq_true Z7
       have q105 : bR < (bT.length : Int) := of_decide_eq_true Z7
       obtain ⟨ad105, e105, hx105_0⟩ := Kd.at_int (Kd.R_reads' HO_13.out).2.2 bR p105 q105
       cases e105
       replace p105 := eq_true p105
       replace q105 := eq_true q105
       go_wp2_with (first | ((with_reducible refine Pre.gate_load 32 rfl ?_); (try (refine gate_guard Z16 ?_; dsimp only)); refine Pre.load_event rfl rfl rfl Z16 Z0 Tryz.underlying32 rfl Z12 ?_) | ((with_reducible refine gate_callee (f := 90) rfl ?_); refine goesL_ (some 20) rfl rfl Tryz.func90 Z12 rfl #[.int .i64 (rd bT bR), .int .i64 2] rfl Z3 ?_; (with_reducible refine (octet_Fits.calls (rd bT bR) 2 true _ io.out).mono ?_); rintro e w' ⟨rfl, ⟨nd, rfl⟩⟩; refine ⟨_, rfl, ?_⟩))
       go_roundg k1
       case measure => have := HK1.out; omega
       case rel => exact ⟨(wrap64 (bR + 1)), Z8, H', ⟨Z35⟩, ⟨Z33⟩, ⟨Z4⟩, ⟨Z1⟩⟩
      ·replace cS := Bool.eq_false_iff.mpr cS
       subst cS
       replace H := Sq.itF H
       obtain rfl := Option.some.inj H
       have p105 : 0 ≤ (bR : Int) := of_decide_eq_true Z7
       have q105 : bR < (bT.length : Int) := of_decide_eq_true Z7
       obtain ⟨ad105, e105, hx105_0⟩ := Kd.at_int (Kd.R_reads' HO_13.out).2.2 bR p105 q105
       cases e105
       replace p105 := eq_true p105
       replace q105 := eq_true q105
       go_wp2_with (first | ((with_reducible refine Pre.gate_load 32 rfl ?_); (try (refine gate_guard Z16 ?_; dsimp only)); refine Pre.load_event rfl rfl rfl Z16 Z0 Tryz.underlying32 rfl Z12 ?_) | ((with_reducible refine gate_callee (f := 90) rfl ?_); refine goesL_ (some 20) rfl rfl Tryz.func90 Z12 rfl #[.int .i64 (rd bT bR), .int .i64 2] rfl Z3 ?_; (with_reducible refine (octet_Fits.calls (rd bT bR) 2 false _ io.out).mono ?_); rintro e w' ⟨rfl, ⟨nd, rfl⟩⟩; refine ⟨_, rfl, ?_⟩))
       go_ret
       exact ⟨Z5, Z1⟩
     ·rw [if_neg c9] at H
      exact absurd H Z27
    ·rw [if_neg c8] at H
     exact absurd H Z27
   ·rw [if_neg c7] at H
    have cN : decide (bR < (bT.length : Int)) = false := decide_eq_false c7
    clear c7
    have fG := Aside0.mk H
    clear H
    go_upto_region 7 with (first | ((with_reducible refine Pre.gate_load 32 rfl ?_); (try (refine gate_guard Z16 ?_; dsimp only)); refine Pre.load_event rfl rfl rfl Z16 Z0 Tryz.underlying32 rfl Z12 ?_))
    go_cut [31] (fun iK wc => ∃ (kq : Nat) (dJ : Bool), iK = .bool dJ ∧ Aside0 (field_Right.j1 kq dJ ar aC az ay aA au aw av aD ax am ag ac aq ab ao ak ai ae ah ap aa aj al af = some r) ∧ Aside0 (kq ≤ k1) ∧ Aside0 (wc.heap[aN]? = some (.cells #[.int .i64 ar, .int .i64 aC, .int .i64 az, .string ay, .int .i64 aA, .int .i64 au, .string aw, .int .i64 av, .int .i64 aD, .string ax, .int .i64 am, .string ag, .int .i64 ac, .int .i64 aq, .int .i64 ab, .int .i64 ao, .int .i64 ak, .int .i64 ai, .int .i64 ae, .string ah, .string ap, (.slice aJ aa.length aK), .int .i64 aj, .string al, (.slice aH af.length aI)] 32 (0, 0))) ∧ Aside0 (Below w.heap.size w wc))
    case first =>
     have H := fG.out
     clear fG
     replace H := Option.bind_eq_some_iff.mp H
     obtain ⟨ci, ha, H⟩ := H
     replace H : (if ci = true then ((sub_Right.f k1 af).bind fun cj => (field_Right.j1 k1 (!cj) ar aC az ay aA au aw av aD ax am ag ac aq ab ao ak ai ae ah ap aa aj al af)) else (field_Right.j1 k1 true ar aC az ay aA au aw av aD ax am ag ac aq ab ao ak ai ae ah ap aa aj al af)) = some r := H
     have ip := Aside0.mk ha
     clear ha
     by_cases cV : ci = true
     ·subst cV
      replace H := Sq.itT H
      replace H := Option.bind_eq_some_iff.mp H
      obtain ⟨cj, he, H⟩ := H
      replace H : (field_Right.j1 k1 (!cj) ar aC az ay aA au aw av aD ax am ag ac aq ab ao ak ai ae ah ap aa aj al af) = some r := H
      have iL := Aside0.mk he
      clear he
      have H' := Aside0.mk H
      clear H
      have ft := cells_25 aE.out
      go_wp2_with (first | ((with_reducible refine Pre.gate_load 32 rfl ?_); (try (refine gate_guard Z16 ?_; dsimp only)); refine Pre.load_event rfl rfl rfl Z16 Z0 Tryz.underlying32 rfl Z12 ?_) | ((with_reducible refine gate_callee (f := 65) rfl ?_); refine goesL_ (some 24) rfl rfl Tryz.func65 Z12 rfl #[.agg #[.int .i64 ar, .int .i64 aC, .int .i64 az, .string ay, .int .i64 aA, .int .i64 au, .string aw, .int .i64 av, .int .i64 aD, .string ax, .int .i64 am, .string ag, .int .i64 ac, .int .i64 aq, .int .i64 ab, .int .i64 ao, .int .i64 ak, .int .i64 ai, .int .i64 ae, .string ah, .string ap, .slice aJ aa.length aK, .int .i64 aj, .string al, .slice aH af.length aI]] rfl Z3 ?_; (with_reducible refine (msg_Bare.calls ar aC az ay aA au aw av aD ax am ag ac aq ab ao ak ai ae ah ap _ _ aa aj al _ _ af true _ ?side1 ?side2 ?side3 ?side4 ip.out).mono ?_); (case side1 => exact Z9); (case side2 => exact bH.out); (case side3 => exact Z6); (case side4 => exact aT.out); rintro e hV ⟨rfl, hb⟩; refine ⟨_, rfl, ?_⟩; replace HO_13 := Aside0.mk (Kd.R_below Z33 hb); replace aE := Aside0.mk (blk_below (g := aN) Z4 hb); replace HB := Aside0.mk (below_step Z1 hb); clear hb; have ek := cells_25 aE.out) | (go_at_call 123; (with_reducible refine (sub_Right.calls k1 _ _ af cj _ ?side1 ?side2 iL.out).mono ?_); (case side1 => exact Z6); (case side2 => exact aT.out); rintro e hW ⟨rfl, hb⟩; replace HO_13 := Aside0.mk (Kd.R_below Z33 hb); replace aE := Aside0.mk (blk_below (g := aN) Z4 hb); replace HB := Aside0.mk (below_step Z1 hb); clear hb))
      go_meet
      case rel => exact ⟨_, (!cj), Z8, H', ⟨by have := HK1.out; first | omega | exact Nat.le_refl _⟩, ⟨Z4⟩, ⟨Z1⟩⟩
     ·replace cV := Bool.eq_false_iff.mpr cV
      subst cV
      replace H := Sq.itF H
      have H' := Aside0.mk H
      clear H
      have dT := cells_25 aE.out
      go_wp2_with (first | ((with_reducible refine Pre.gate_load 32 rfl ?_); (try (refine gate_guard Z16 ?_; dsimp only)); refine Pre.load_event rfl rfl rfl Z16 Z0 Tryz.underlying32 rfl Z12 ?_) | ((with_reducible refine gate_callee (f := 65) rfl ?_); refine goesL_ (some 24) rfl rfl Tryz.func65 Z12 rfl #[.agg #[.int .i64 ar, .int .i64 aC, .int .i64 az, .string ay, .int .i64 aA, .int .i64 au, .string aw, .int .i64 av, .int .i64 aD, .string ax, .int .i64 am, .string ag, .int .i64 ac, .int .i64 aq, .int .i64 ab, .int .i64 ao, .int .i64 ak, .int .i64 ai, .int .i64 ae, .string ah, .string ap, .slice aJ aa.length aK, .int .i64 aj, .string al, .slice aH af.length aI]] rfl Z3 ?_; (with_reducible refine (msg_Bare.calls ar aC az ay aA au aw av aD ax am ag ac aq ab ao ak ai ae ah ap _ _ aa aj al _ _ af false _ ?side1 ?side2 ?side3 ?side4 ip.out).mono ?_); (case side1 => exact Z9); (case side2 => exact bH.out); (case side3 => exact Z6); (case side4 => exact aT.out); rintro e hJ ⟨rfl, hb⟩; refine ⟨_, rfl, ?_⟩; replace HO_13 := Aside0.mk (Kd.R_below Z33 hb); replace aE := Aside0.mk (blk_below (g := aN) Z4 hb); replace HB := Aside0.mk (below_step Z1 hb); clear hb))
      go_meet
      case rel => exact ⟨_, (true), Z8, H', ⟨by have := HK1.out; first | omega | exact Nat.le_refl _⟩, ⟨Z4⟩, ⟨Z1⟩⟩
    case rest =>
     clear fG
     try clear p2
     try clear c6
     try clear c7
     try clear cN
     try clear c8
     try clear fF
     try clear p2
     obtain ⟨kq, dJ, rfl, HA, hh, aE, HB⟩ := hcut
     cases kq with
     | zero => exact absurd HA.out (by simp [field_Right.j1])
     | succ kj11 =>
      have H := HA.out
      clear HA
      simp only [field_Right.j1] at H
      by_cases dt : dJ = true
      ·subst dt
       replace H := Sq.itT H
       obtain rfl := Option.some.inj H
       go_wp2_with (first | ((with_reducible refine Pre.gate_load 32 rfl ?_); (try (refine gate_guard Z16 ?_; dsimp only)); refine Pre.load_event rfl rfl rfl Z16 Z0 Tryz.underlying32 rfl Z12 ?_))
       go_ret
       exact ⟨Z5, Z1⟩
      ·replace dt := Bool.eq_false_iff.mpr dt
       subst dt
       replace H := Sq.itF H
       have fH := Aside0.mk H
       clear H
       have hj := cells_25 aE.out
       go_upto_if 34 with (first | ((with_reducible refine Pre.gate_load 32 rfl ?_); (try (refine gate_guard Z16 ?_; dsimp only)); refine Pre.load_event rfl rfl rfl Z16 Z0 Tryz.underlying32 rfl Z12 ?_))
       go_cut [34] (fun iM wc => ∃ (kq : Nat) (dK : Bool), iM = .bool dK ∧ Aside0 (field_Right.j2 kq ar dK ar aC az ay aA au aw av aD ax am ag ac aq ab ao ak ai ae ah ap aa aj al af = some r) ∧ Aside0 (kq ≤ kj11) ∧ Aside0 (wc.heap[aN]? = some (.cells #[.int .i64 ar, .int .i64 aC, .int .i64 az, .string ay, .int .i64 aA, .int .i64 au, .string aw, .int .i64 av, .int .i64 aD, .string ax, .int .i64 am, .string ag, .int .i64 ac, .int .i64 aq, .int .i64 ab, .int .i64 ao, .int .i64 ak, .int .i64 ai, .int .i64 ae, .string ah, .string ap, (.slice aJ aa.length aK), .int .i64 aj, .string al, (.slice aH af.length aI)] 32 (0, 0))) ∧ Aside0 (Below w.heap.size w wc))
       case first =>
        have H := fH.out
        clear fH
        by_cases ef : ar = 7
        ·rw [if_pos ef] at H
         have cW : (ar == 7) = true := beq_iff_eq.mpr ef
         have hl : (ar != 7) = false := bne_eq_false_iff_eq.mpr ef
         clear ef
         (first | rw [cW] | (simp only [i64_w, i32_w]; rw [cW]) | skip)
         have H' := Aside0.mk H
         clear H
         go_wp2_with (first | ((with_reducible refine Pre.gate_load 32 rfl ?_); (try (refine gate_guard Z16 ?_; dsimp only)); refine Pre.load_event rfl rfl rfl Z16 Z0 Tryz.underlying32 rfl Z12 ?_))
         go_meet
         case rel => exact ⟨_, ((ar == 7)), Z8, H', ⟨by have := HK1.out; have := hh.out; first | omega | exact Nat.le_refl _⟩, ⟨Z4⟩, ⟨Z1⟩⟩
        ·rw [if_neg ef] at H
         have cW : (ar == 7) = false := beq_eq_false_iff_ne.mpr ef
         have hl : (ar != 7) = true := bne_iff_ne.mpr ef
         (first | rw [cW] | (simp only [i64_w, i32_w]; rw [cW]) | skip)
         have H' := Aside0.mk H
         clear H
         go_wp2_with (first | ((with_reducible refine Pre.gate_load 32 rfl ?_); (try (refine gate_guard Z16 ?_; dsimp only)); refine Pre.load_event rfl rfl rfl Z16 Z0 Tryz.underlying32 rfl Z12 ?_))
         go_meet
         case rel => exact ⟨_, ((ar == 8)), Z8, H', ⟨by have := HK1.out; have := hh.out; first | omega | exact Nat.le_refl _⟩, ⟨Z4⟩, ⟨Z1⟩⟩
       case rest =>
        clear fH
        try clear c1
        try clear p1
        try clear q1
        try clear hx1
        try clear c2
        try clear p2
        try clear c6
        try clear p6
        try clear c7
        try clear cN
        try clear c8
        try clear ec
        try clear c9
        try clear dX
        try clear p10
        try clear q10
        try clear hx10
        try clear cS
        try clear cV
        try clear dt
        try clear ft
        try clear ek
        try clear dT
        try clear hj
        try clear fF
        try clear hx105_0
        try clear p105
        try clear p2
        try clear q105
        obtain ⟨kq, dK, rfl, HA, HJ22, aE, HB⟩ := hcut
        cases kq with
        | zero => exact absurd HA.out (by simp [field_Right.j2])
        | succ kj22 =>
         have H := HA.out
         clear HA
         simp only [field_Right.j2] at H
         by_cases eZ : dK = true
         ·subst eZ
          replace H := Sq.itT H
          obtain rfl := Option.some.inj H
          go_wp2_with (first | ((with_reducible refine Pre.gate_load 32 rfl ?_); (try (refine gate_guard Z16 ?_; dsimp only)); refine Pre.load_event rfl rfl rfl Z16 Z0 Tryz.underlying32 rfl Z12 ?_))
          go_ret
          exact ⟨Z5, Z1⟩
         ·replace eZ := Bool.eq_false_iff.mpr eZ
          subst eZ
          replace H := Sq.itF H
          by_cases en : ar = 9
          ·rw [if_pos en] at H
           have hm : (ar == 9) = true := beq_iff_eq.mpr en
           have hq : (ar != 9) = false := bne_eq_false_iff_eq.mpr en
           clear en
           by_cases dA : ao = 0
           ·rw [if_pos dA] at H
            have ey : (ao == 0) = true := beq_iff_eq.mpr dA
            have ht : (ao != 0) = false := bne_eq_false_iff_eq.mpr dA
            clear dA
            obtain rfl := Option.some.inj H
            have gP := cells_25 aE.out
            go_wp2_with (first | ((with_reducible refine Pre.gate_load 32 rfl ?_); (try (refine gate_guard Z16 ?_; dsimp only)); refine Pre.load_event rfl rfl rfl Z16 Z0 Tryz.underlying32 rfl Z12 ?_))
            go_ret
            exact ⟨Z5, Z1⟩
           ·rw [if_neg dA] at H
            have ey : (ao == 0) = false := beq_eq_false_iff_ne.mpr dA
            have ht : (ao != 0) = true := bne_iff_ne.mpr dA
            obtain rfl := Option.some.inj H
            have gy := cells_25 aE.out
            go_wp2_with (first | ((with_reducible refine Pre.gate_load 32 rfl ?_); (try (refine gate_guard Z16 ?_; dsimp only)); refine Pre.load_event rfl rfl rfl Z16 Z0 Tryz.underlying32 rfl Z12 ?_))
            go_ret
            exact ⟨Z5, Z1⟩
          ·rw [if_neg en] at H
           have hm : (ar == 9) = false := beq_eq_false_iff_ne.mpr en
           have hq : (ar != 9) = true := bne_iff_ne.mpr en
           by_cases fI : ar = 10
           ·rw [if_pos fI] at H
            have hv : (ar == 10) = true := beq_iff_eq.mpr fI
            have hA : (ar != 10) = false := bne_eq_false_iff_eq.mpr fI
            clear fI
            replace H := Option.bind_eq_some_iff.mp H
            obtain ⟨cm, hC, H⟩ := H
            replace H : (some cm) = some r := H
            have iN := Aside0.mk hC
            clear hC
            obtain rfl := Option.some.inj H
            have fZ := cells_25 aE.out
            go_wp2_with (first | ((with_reducible refine Pre.gate_load 32 rfl ?_); (try (refine gate_guard Z16 ?_; dsimp only)); refine Pre.load_event rfl rfl rfl Z16 Z0 Tryz.underlying32 rfl Z12 ?_) | (go_at_call 128; (with_reducible refine (field_address.calls au ah cm _ iN.out).mono ?_); rintro e w' ⟨rfl, ⟨nd, rfl⟩⟩))
            go_ret
            exact ⟨Z5, Z1⟩
           ·rw [if_neg fI] at H
            have hv : (ar == 10) = false := beq_eq_false_iff_ne.mpr fI
            have hA : (ar != 10) = true := bne_iff_ne.mpr fI
            obtain rfl := Option.some.inj H
            have ga := cells_25 aE.out
            go_wp2_with (first | ((with_reducible refine Pre.gate_load 32 rfl ?_); (try (refine gate_guard Z16 ?_; dsimp only)); refine Pre.load_event rfl rfl rfl Z16 Z0 Tryz.underlying32 rfl Z12 ?_))
            go_ret
            exact ⟨Z5, Z1⟩

end Go.Proofs.YtnllanjoebjeiaaGreat.PV
