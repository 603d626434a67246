-- Written by mp.py, a program of this work (wip/tools), out of the translation; Lean checks it.
import Derived.Test.YtnllanjoebjeiaaGreatPVxZ
import Derived.Test.YtnllanjoebjeiaaGreatPVxaddr
import Derived.Test.YtnllanjoebjeiaaGreatPVxctx
import Derived.Test.YtnllanjoebjeiaaGreatPVxmsgBare
import Derived.Test.YtnllanjoebjeiaaGreatPVxoctet
import Derived.Test.YtnllanjoebjeiaaGreatPVxrouteIn
import Derived.Test.YtnllanjoebjeiaaGreatPVxsub
namespace Go.Proofs.YtnllanjoebjeiaaGreat.PV
open Go.RowKit Go.Proofs.YtnllanjoebjeiaaGreatW.PrintWords Go.Proofs.YtnllanjoebjeiaaGreatW.PrintLast Go.Proofs.YtnllanjoebjeiaaGreatW.PrintMore
attribute [local go_sem] max2_int min2_int max_two min_two max_three min_three max_four min_four   -- for this text's walks alone
set_option linter.unusedVariables false
set_option linter.unusedSimpArgs false

/-! ### ctx_Right: function 63 -/
mutual
def ctx_Right.j0 : Nat → Bool → Int → Int → Int → ByteArray → Int → Int → ByteArray → Int → Int → ByteArray → Int → ByteArray → Int → Int → Int → Int → Int → Int → Int → ByteArray → ByteArray → List (S78) → Int → ByteArray → List (S80) → Option (Bool)
 | 0, _, _, _, _, _, _, _, _, _, _, _, _, _, _, _, _, _, _, _, _, _, _, _, _, _, _ => none
 | k + 1, x3, aQ, bo, bp, bq, br, aU, bs, bu, bv, aV, bf, aW, bg, bw, bm, bh, bi, bx, bA, bn, bB, bj, aZ, bk, bb => if x3 = true then (some false) else ((octet_Fits.f bm 2).bind fun ch => (if ch = true then ((octet_Fits.f bg 2).bind fun cb => (if cb = true then ((octet_Fits.f bf 2).bind fun ci => (ctx_Right.j1 k (!ci) aQ bo bp bq br aU bs bu bv aV bf aW bg bw bm bh bi bx bA bn bB bj aZ bk bb)) else (ctx_Right.j1 k true aQ bo bp bq br aU bs bu bv aV bf aW bg bw bm bh bi bx bA bn bB bj aZ bk bb))) else (ctx_Right.j1 k true aQ bo bp bq br aU bs bu bv aV bf aW bg bw bm bh bi bx bA bn bB bj aZ bk bb)))
def ctx_Right.j1 : Nat → Bool → Int → Int → Int → ByteArray → Int → Int → ByteArray → Int → Int → ByteArray → Int → ByteArray → Int → Int → Int → Int → Int → Int → Int → ByteArray → ByteArray → List (S78) → Int → ByteArray → List (S80) → Option (Bool)
 | 0, _, _, _, _, _, _, _, _, _, _, _, _, _, _, _, _, _, _, _, _, _, _, _, _, _, _ => none
 | k + 1, iw, aQ, bo, bp, bq, br, aU, bs, bu, bv, aV, bf, aW, bg, bw, bm, bh, bi, bx, bA, bn, bB, bj, aZ, bk, bb => if iw = true then (some false) else (if bf = 65535 then (if aW.size + aV.size ≤ 9223372036854775807 then (some ((aW ++ aV).toList == ([] : List UInt8))) else (none)) else (if aU > 0 then (if (aW.size : Int) = 8 then ((addr_Family.f aV).bind fun cj => ((ctx_Family.f aU).bind fun cm => ((ctx_either.f aV (cj == cm)).bind fun db => (some db)))) else (some false)) else (some false)))
end
def ctx_Right.f (k : Nat) (ar : Int) (aC : Int) (az : Int) (ay : ByteArray) (aA : Int) (au : Int) (aw : ByteArray) (av : Int) (aD : Int) (ax : ByteArray) (am : Int) (ag : ByteArray) (ac : Int) (aq : Int) (ab : Int) (ao : Int) (ak : Int) (ai : Int) (ae : Int) (ah : ByteArray) (ap : ByteArray) (aa : List (S78)) (aj : Int) (al : ByteArray) (af : List (S80)) : Option (Bool) := if ar = 11 then ((msg_Bare.f ar aC az ay aA au aw av aD ax am ag ac aq ab ao ak ai ae ah ap aa aj al af).bind fun bl => (if bl = true then ((sub_Right.f k af).bind fun bK => (if bK = true then ((route_In.f au aw av).bind fun bQ => (ctx_Right.j0 k (!bQ) ar aC az ay aA au aw av aD ax am ag ac aq ab ao ak ai ae ah ap aa aj al af)) else (ctx_Right.j0 k true ar aC az ay aA au aw av aD ax am ag ac aq ab ao ak ai ae ah ap aa aj al af))) else (ctx_Right.j0 k true ar aC az ay aA au aw av aD ax am ag ac aq ab ao ak ai ae ah ap aa aj al af))) else (ctx_Right.j0 k true ar aC az ay aA au aw av aD ax am ag ac aq ab ao ak ai ae ah ap aa aj al af)
theorem ctx_Right.mono_l : ∀ k, (∀ y0 y1 y2 y3 y4 y5 y6 y7 y8 y9 cn cp cq cr ct cu cv cw cx cy cA cB cC cD cE cF, LeO (ctx_Right.j0 k y0 y1 y2 y3 y4 y5 y6 y7 y8 y9 cn cp cq cr ct cu cv cw cx cy cA cB cC cD cE cF) (ctx_Right.j0 (k + 1) y0 y1 y2 y3 y4 y5 y6 y7 y8 y9 cn cp cq cr ct cu cv cw cx cy cA cB cC cD cE cF)) ∧ (∀ y0 y1 y2 y3 y4 y5 y6 y7 y8 y9 cn cp cq cr ct cu cv cw cx cy cA cB cC cD cE cF, LeO (ctx_Right.j1 k y0 y1 y2 y3 y4 y5 y6 y7 y8 y9 cn cp cq cr ct cu cv cw cx cy cA cB cC cD cE cF) (ctx_Right.j1 (k + 1) y0 y1 y2 y3 y4 y5 y6 y7 y8 y9 cn cp cq cr ct cu cv cw cx cy cA cB cC cD cE cF))
 | 0 => ⟨Sq.mz, Sq.mz⟩
 | k + 1 => by
  obtain ⟨ih0, ih1⟩ := ctx_Right.mono_l k
  refine ⟨?_, ?_⟩
  ·intros
   unfold ctx_Right.j0
   have m0 := sub_Right.mono
   exact Sq.mo
  ·intros
   unfold ctx_Right.j1
   have m0 := sub_Right.mono
   exact Sq.mo
theorem ctx_Right.mono : ∀ a0 a1 a2 a3 a4 a5 a6 a7 a8 a9 dc dd de df dg dh di dj dk dl dm dn dp dq dr k, LeO (ctx_Right.f k a0 a1 a2 a3 a4 a5 a6 a7 a8 a9 dc dd de df dg dh di dj dk dl dm dn dp dq dr) (ctx_Right.f (k + 1) a0 a1 a2 a3 a4 a5 a6 a7 a8 a9 dc dd de df dg dh di dj dk dl dm dn dp dq dr) := by
 intros
 rename_i k
 obtain ⟨ih0, ih1⟩ := ctx_Right.mono_l k
 unfold ctx_Right.f
 have m0 := sub_Right.mono
 exact Sq.mo

set_option maxHeartbeats 8000000 in
set_option maxRecDepth 100000 in
theorem ctx_Right.calls (k : Nat) (ar : Int) (aC : Int) (az : Int) (ay : ByteArray) (aA : Int) (au : Int) (aw : ByteArray) (av : Int) (aD : Int) (ax : ByteArray) (am : Int) (ag : ByteArray) (ac : Int) (aq : Int) (ab : Int) (ao : Int) (ak : Int) (ai : Int) (ae : Int) (ah : ByteArray) (ap : ByteArray) (aJ : Option Addr) (aK : Nat) (aa : List (S78)) (aj : Int) (al : ByteArray) (aH : Option Addr) (aI : Nat) (af : List (S80)) (r : Bool) (w : World) (bD : Kd.C k78 w aJ aa.length aa) (bE : aa.length ≤ aK) (bF : Kd.C k80 w aH af.length af) (bG : af.length ≤ aI) (h : ctx_Right.f k ar aC az ay aA au aw av aD ax am ag ac aq ab ao ak ai ae ah ap aa aj al af = some r) :
  Calls Tryz.prog 63 #[.agg #[.int .i64 ar, .int .i64 aC, .int .i64 az, .string ay, .int .i64 aA, .int .i64 au, .string aw, .int .i64 av, .int .i64 aD, .string ax, .int .i64 am, .string ag, .int .i64 ac, .int .i64 aq, .int .i64 ab, .int .i64 ao, .int .i64 ak, .int .i64 ai, .int .i64 ae, .string ah, .string ap, .slice aJ aa.length aK, .int .i64 aj, .string al, .slice aH af.length aI]] w fun e w' => e = .returned (.bool r) ∧ Below w.heap.size w w' := by
 have dP := Tryz.underlying32
 have bY := Aside0.mk bD
 have bH := Aside0.mk bE
 clear bD bE
 have bZ := Aside0.mk bF
 have aT := Aside0.mk bG
 clear bF bG
 have HB := Aside0.mk (Below.refl w.heap.size w)
 have H : (if ar = 11 then ((msg_Bare.f ar aC az ay aA au aw av aD ax am ag ac aq ab ao ak ai ae ah ap aa aj al af).bind fun bl => (if bl = true then ((sub_Right.f k af).bind fun bK => (if bK = true then ((route_In.f au aw av).bind fun bQ => (ctx_Right.j0 k (!bQ) ar aC az ay aA au aw av aD ax am ag ac aq ab ao ak ai ae ah ap aa aj al af)) else (ctx_Right.j0 k true ar aC az ay aA au aw av aD ax am ag ac aq ab ao ak ai ae ah ap aa aj al af))) else (ctx_Right.j0 k true ar aC az ay aA au aw av aD ax am ag ac aq ab ao ak ai ae ah ap aa aj al af))) else (ctx_Right.j0 k true ar aC az ay aA au aw av aD ax am ag ac aq ab ao ak ai ae ah ap aa aj al af)) = some r := h
 clear h
 have dY := Aside0.mk H
 clear H
 go_enter Tryz.func63, Tryz.ntmps63
 go_upto_region 1 with (first | ((with_reducible refine Pre.gate_load 32 rfl ?_); (try (refine gate_guard Z16 ?_; dsimp only)); refine Pre.load_event rfl rfl rfl Z16 Z0 Tryz.underlying32 rfl Z12 ?_) | ((with_reducible refine gate_dst (N := 1) rfl ?_); (try (refine gate_guard Z16 ?_; dsimp only)); refine Sq.box 1 #[.int .i64 ar, .int .i64 aC, .int .i64 az, .string ay, .int .i64 aA, .int .i64 au, .string aw, .int .i64 av, .int .i64 aD, .string ax, .int .i64 am, .string ag, .int .i64 ac, .int .i64 aq, .int .i64 ab, .int .i64 ao, .int .i64 ak, .int .i64 ai, .int .i64 ae, .string ah, .string ap, .slice aJ aa.length aK, .int .i64 aj, .string al, .slice aH af.length aI] 32 ?_; intro aN hg w3 hbox hb; have aE := Aside0.mk (hbox); have cG := Aside0.mk (Sq.ge hg Z2); have cg := Aside0.mk (Sq.ge hg Z2); replace HB := Aside0.mk (below_step Z2 hb); clear hb hbox hg))
 repeat (go_quiet (first | ((with_reducible refine gate_dst (N := 1) rfl ?_); (try (refine gate_guard Z16 ?_; dsimp only)); refine box_event ?hg (N := 1) ?hd (cs := #[.int .i64 ar, .int .i64 aC, .int .i64 az, .string ay, .int .i64 aA, .int .i64 au, .string aw, .int .i64 av, .int .i64 aD, .string ax, .int .i64 am, .string ag, .int .i64 ac, .int .i64 aq, .int .i64 ab, .int .i64 ao, .int .i64 ak, .int .i64 ai, .int .i64 ae, .string ah, .string ap, .slice aJ aa.length aK, .int .i64 aj, .string al, .slice aH af.length aI]) (t := 32) ?hr ?_; (case hd => rfl); (case hg => rfl); (case hr => first | (go_simp; done) | (go_simp; rfl)); intro aN hg w3 hbox hb; have bL := Aside0.mk (below_step Z2 hb); have bM := Aside0.mk (hbox); have cf := Aside0.mk ((by rw [hg]; exact (below_size Z2) : w.heap.size ≤ aN)); have cQ := Aside0.mk ((by rw [hg]; exact (below_size Z2) : w.heap.size ≤ aN)); replace HB := bL; have aE := bM; have cG := cf; have cg := cQ; clear bL bM cf cQ; clear hb hbox hg)); go_upto_region 1 with (first | ((with_reducible refine Pre.gate_load 32 rfl ?_); (try (refine gate_guard Z16 ?_; dsimp only)); refine Pre.load_event rfl rfl rfl Z16 Z0 Tryz.underlying32 rfl Z12 ?_) | ((with_reducible refine gate_dst (N := 1) rfl ?_); (try (refine gate_guard Z16 ?_; dsimp only)); refine box_event ?hg (N := 1) ?hd (cs := #[.int .i64 ar, .int .i64 aC, .int .i64 az, .string ay, .int .i64 aA, .int .i64 au, .string aw, .int .i64 av, .int .i64 aD, .string ax, .int .i64 am, .string ag, .int .i64 ac, .int .i64 aq, .int .i64 ab, .int .i64 ao, .int .i64 ak, .int .i64 ai, .int .i64 ae, .string ah, .string ap, .slice aJ aa.length aK, .int .i64 aj, .string al, .slice aH af.length aI]) (t := 32) ?hr ?_; (case hd => rfl); (case hg => rfl); (case hr => first | (go_simp; done) | (go_simp; rfl)); intro aN hg w3 hbox hb; have bL := Aside0.mk (below_step Z2 hb); have bM := Aside0.mk (hbox); have cf := Aside0.mk ((by rw [hg]; exact (below_size Z2) : w.heap.size ≤ aN)); have cQ := Aside0.mk ((by rw [hg]; exact (below_size Z2) : w.heap.size ≤ aN)); replace HB := bL; have aE := bM; have cG := cf; have cg := cQ; clear bL bM cf cQ; clear hb hbox hg)))
 (try simp only [Act.put, Sq.s1, Sq.s2, Sq.s3])
 go_cut [3] (fun v3 wc => ∃ (kq : Nat) (dB : Bool), v3 = .bool dB ∧ Aside0 (ctx_Right.j0 kq dB ar aC az ay aA au aw av aD ax am ag ac aq ab ao ak ai ae ah ap aa aj al af = some r) ∧ Aside0 (kq ≤ k) ∧ Aside0 (wc.heap[aN]? = some (.cells #[.int .i64 ar, .int .i64 aC, .int .i64 az, .string ay, .int .i64 aA, .int .i64 au, .string aw, .int .i64 av, .int .i64 aD, .string ax, .int .i64 am, .string ag, .int .i64 ac, .int .i64 aq, .int .i64 ab, .int .i64 ao, .int .i64 ak, .int .i64 ai, .int .i64 ae, .string ah, .string ap, (.slice aJ aa.length aK), .int .i64 aj, .string al, (.slice aH af.length aI)] 32 (0, 0))) ∧ Aside0 (Below w.heap.size w wc))
 case first =>
  have H := dY.out
  clear dY
  by_cases c4 : ar = 11
  ·rw [if_pos c4] at H
   have bP : (ar == 11) = true := beq_iff_eq.mpr c4
   have cl : (ar != 11) = false := bne_eq_false_iff_eq.mpr c4
   clear c4
   (first | rw [bP] | (simp only [i64_w, i32_w]; rw [bP]) | skip)
   replace H := Option.bind_eq_some_iff.mp H
   obtain ⟨bl, gs, H⟩ := H
   replace H : (if bl = true then ((sub_Right.f k af).bind fun bK => (if bK = true then ((route_In.f au aw av).bind fun bQ => (ctx_Right.j0 k (!bQ) ar aC az ay aA au aw av aD ax am ag ac aq ab ao ak ai ae ah ap aa aj al af)) else (ctx_Right.j0 k true ar aC az ay aA au aw av aD ax am ag ac aq ab ao ak ai ae ah ap aa aj al af))) else (ctx_Right.j0 k true ar aC az ay aA au aw av aD ax am ag ac aq ab ao ak ai ae ah ap aa aj al af)) = some r := H
   have A5 := Aside0.mk gs
   clear gs
   by_cases c6 : bl = true
   ·subst c6
    replace H := Sq.itT H
    replace H := Option.bind_eq_some_iff.mp H
    obtain ⟨bK, eJ, H⟩ := H
    replace H : (if bK = true then ((route_In.f au aw av).bind fun bQ => (ctx_Right.j0 k (!bQ) ar aC az ay aA au aw av aD ax am ag ac aq ab ao ak ai ae ah ap aa aj al af)) else (ctx_Right.j0 k true ar aC az ay aA au aw av aD ax am ag ac aq ab ao ak ai ae ah ap aa aj al af)) = some r := H
    have A7 := Aside0.mk eJ
    clear eJ
    by_cases c8 : bK = true
    ·subst c8
     replace H := Sq.itT H
     replace H := Option.bind_eq_some_iff.mp H
     obtain ⟨bQ, gu, H⟩ := H
     replace H : (ctx_Right.j0 k (!bQ) ar aC az ay aA au aw av aD ax am ag ac aq ab ao ak ai ae ah ap aa aj al af) = some r := H
     have A9 := Aside0.mk gu
     clear gu
     have H' := Aside0.mk H
     clear H
     have hcz10 := cells_25 aE.out
     go_wp2_with (first | ((with_reducible refine Pre.gate_load 32 rfl ?_); (try (refine gate_guard Z16 ?_; dsimp only)); refine Pre.load_event rfl rfl rfl Z16 Z0 Tryz.underlying32 rfl Z12 ?_) | (go_at_call 65; (with_reducible refine (msg_Bare.calls ar aC az ay aA au aw av aD ax am ag ac aq ab ao ak ai ae ah ap _ _ aa aj al _ _ af true _ ?side1 ?side2 ?side3 ?side4 A5.out).mono ?_); (case side1 => exact Z9); (case side2 => exact bH.out); (case side3 => exact Z6); (case side4 => exact aT.out); rintro e fg ⟨rfl, hb⟩; replace aE := Aside0.mk (blk_below (g := aN) Z4 hb); replace HB := Aside0.mk (below_step Z1 hb); clear hb; have eK := cells_25 aE.out) | (go_at_call 123; (with_reducible refine (sub_Right.calls k _ _ af true _ ?side1 ?side2 A7.out).mono ?_); (case side1 => exact Z6); (case side2 => exact aT.out); rintro e gi ⟨rfl, hb⟩; replace aE := Aside0.mk (blk_below (g := aN) Z4 hb); replace HB := Aside0.mk (below_step Z1 hb); clear hb; have ej := cells_25 aE.out) | (go_at_call 124; (with_reducible refine (route_In.calls au aw av bQ _ A9.out).mono ?_); rintro e hQ ⟨rfl, hb⟩; replace aE := Aside0.mk (blk_below (g := aN) Z4 hb); replace HB := Aside0.mk (below_step Z1 hb); clear hb))
     repeat (go_quiet (first | (go_at_call 65; (with_reducible refine (msg_Bare.calls ar aC az ay aA au aw av aD ax am ag ac aq ab ao ak ai ae ah ap _ _ aa aj al _ _ af true _ ?side1 ?side2 ?side3 ?side4 A5.out).mono ?_); (case side1 => exact Z9); (case side2 => exact bH.out); (case side3 => exact Z6); (case side4 => exact aT.out); rintro e fg ⟨rfl, hb⟩; have bL := Aside0.mk (blk_below (g := aN) Z4 hb); have bM := Aside0.mk (below_step Z1 hb); replace aE := bL; replace HB := bM; clear bL bM; (try clear hb); (try clear hb2); (try clear hk); (try clear hi); have eK := cells_25 aE.out) | (go_at_call 123; (with_reducible refine (sub_Right.calls k _ _ af true _ ?side1 ?side2 A7.out).mono ?_); (case side1 => exact Z6); (case side2 => exact aT.out); rintro e gi ⟨rfl, hb⟩; have bL := Aside0.mk (blk_below (g := aN) Z4 hb); have bM := Aside0.mk (below_step Z1 hb); replace aE := bL; replace HB := bM; clear bL bM; (try clear hb); (try clear hb2); (try clear hk); (try clear hi); have ej := cells_25 aE.out) | (go_at_call 124; (with_reducible refine (route_In.calls au aw av bQ _ A9.out).mono ?_); rintro e hQ ⟨rfl, hb⟩; have bL := Aside0.mk (blk_below (g := aN) Z4 hb); have bM := Aside0.mk (below_step Z1 hb); replace aE := bL; replace HB := bM; clear bL bM; (try clear hb); (try clear hb2); (try clear hk); (try clear hi))); try go_wp2_with (first | ((with_reducible refine Pre.gate_load 32 rfl ?_); (try (refine gate_guard Z16 ?_; dsimp only)); refine Pre.load_event rfl rfl rfl Z16 Z0 Tryz.underlying32 rfl Z12 ?_) | (go_at_call 65; (with_reducible refine (msg_Bare.calls ar aC az ay aA au aw av aD ax am ag ac aq ab ao ak ai ae ah ap _ _ aa aj al _ _ af true _ ?side1 ?side2 ?side3 ?side4 A5.out).mono ?_); (case side1 => exact Z9); (case side2 => exact bH.out); (case side3 => exact Z6); (case side4 => exact aT.out); rintro e fg ⟨rfl, hb⟩; have bL := Aside0.mk (blk_below (g := aN) Z4 hb); have bM := Aside0.mk (below_step Z1 hb); replace aE := bL; replace HB := bM; clear bL bM; (try clear hb); (try clear hb2); (try clear hk); (try clear hi); have eK := cells_25 aE.out) | (go_at_call 123; (with_reducible refine (sub_Right.calls k _ _ af true _ ?side1 ?side2 A7.out).mono ?_); (case side1 => exact Z6); (case side2 => exact aT.out); rintro e gi ⟨rfl, hb⟩; have bL := Aside0.mk (blk_below (g := aN) Z4 hb); have bM := Aside0.mk (below_step Z1 hb); replace aE := bL; replace HB := bM; clear bL bM; (try clear hb); (try clear hb2); (try clear hk); (try clear hi); have ej := cells_25 aE.out) | (go_at_call 124; (with_reducible refine (route_In.calls au aw av bQ _ A9.out).mono ?_); rintro e hQ ⟨rfl, hb⟩; have bL := Aside0.mk (blk_below (g := aN) Z4 hb); have bM := Aside0.mk (below_step Z1 hb); replace aE := bL; replace HB := bM; clear bL bM; (try clear hb); (try clear hb2); (try clear hk); (try clear hi))))
     go_meet
     case rel => exact ⟨_, (!bQ), Z8, H', ⟨Z22⟩, ⟨Z4⟩, ⟨Z1⟩⟩
    ·replace c8 := Bool.eq_false_iff.mpr c8
     subst c8
     replace H := Sq.itF H
     have H' := Aside0.mk H
     clear H
     have ft := cells_25 aE.out
     go_wp2_with (first | ((with_reducible refine Pre.gate_load 32 rfl ?_); (try (refine gate_guard Z16 ?_; dsimp only)); refine Pre.load_event rfl rfl rfl Z16 Z0 Tryz.underlying32 rfl Z12 ?_) | (go_at_call 65; (with_reducible refine (msg_Bare.calls ar aC az ay aA au aw av aD ax am ag ac aq ab ao ak ai ae ah ap _ _ aa aj al _ _ af true _ ?side1 ?side2 ?side3 ?side4 A5.out).mono ?_); (case side1 => exact Z9); (case side2 => exact bH.out); (case side3 => exact Z6); (case side4 => exact aT.out); rintro e hV ⟨rfl, hb⟩; replace aE := Aside0.mk (blk_below (g := aN) Z4 hb); replace HB := Aside0.mk (below_step Z1 hb); clear hb; have ek := cells_25 aE.out) | (go_at_call 123; (with_reducible refine (sub_Right.calls k _ _ af false _ ?side1 ?side2 A7.out).mono ?_); (case side1 => exact Z6); (case side2 => exact aT.out); rintro e hW ⟨rfl, hb⟩; replace aE := Aside0.mk (blk_below (g := aN) Z4 hb); replace HB := Aside0.mk (below_step Z1 hb); clear hb))
     repeat (go_quiet (first | (go_at_call 65; (with_reducible refine (msg_Bare.calls ar aC az ay aA au aw av aD ax am ag ac aq ab ao ak ai ae ah ap _ _ aa aj al _ _ af true _ ?side1 ?side2 ?side3 ?side4 A5.out).mono ?_); (case side1 => exact Z9); (case side2 => exact bH.out); (case side3 => exact Z6); (case side4 => exact aT.out); rintro e hV ⟨rfl, hb⟩; have bL := Aside0.mk (blk_below (g := aN) Z4 hb); have bM := Aside0.mk (below_step Z1 hb); replace aE := bL; replace HB := bM; clear bL bM; (try clear hb); (try clear hb2); (try clear hk); (try clear hi); have ek := cells_25 aE.out) | (go_at_call 123; (with_reducible refine (sub_Right.calls k _ _ af false _ ?side1 ?side2 A7.out).mono ?_); (case side1 => exact Z6); (case side2 => exact aT.out); rintro e hW ⟨rfl, hb⟩; have bL := Aside0.mk (blk_below (g := aN) Z4 hb); have bM := Aside0.mk (below_step Z1 hb); replace aE := bL; replace HB := bM; clear bL bM; (try clear hb); (try clear hb2); (try clear hk); (try clear hi))); try go_wp2_with (first | ((with_reducible refine Pre.gate_load 32 rfl ?_); (try (refine gate_guard Z16 ?_; dsimp only)); refine Pre.load_event rfl rfl rfl Z16 Z0 Tryz.underlying32 rfl Z12 ?_) | (go_at_call 65; (with_reducible refine (msg_Bare.calls ar aC az ay aA au aw av aD ax am ag ac aq ab ao ak ai ae ah ap _ _ aa aj al _ _ af true _ ?side1 ?side2 ?side3 ?side4 A5.out).mono ?_); (case side1 => exact Z9); (case side2 => exact bH.out); (case side3 => exact Z6); (case side4 => exact aT.out); rintro e hV ⟨rfl, hb⟩; have bL := Aside0.mk (blk_below (g := aN) Z4 hb); have bM := Aside0.mk (below_step Z1 hb); replace aE := bL; replace HB := bM; clear bL bM; (try clear hb); (try clear hb2); (try clear hk); (try clear hi); have ek := cells_25 aE.out) | (go_at_call 123; (with_reducible refine (sub_Right.calls k _ _ af false _ ?side1 ?side2 A7.out).mono ?_); (case side1 => exact Z6); (case side2 => exact aT.out); rintro e hW ⟨rfl, hb⟩; have bL := Aside0.mk (blk_below (g := aN) Z4 hb); have bM := Aside0.mk (below_step Z1 hb); replace aE := bL; replace HB := bM; clear bL bM; (try clear hb); (try clear hb2); (try clear hk); (try clear hi))))
     go_meet
     case rel => exact ⟨_, (true), Z8, H', ⟨Z22⟩, ⟨Z4⟩, ⟨Z1⟩⟩
   ·replace c6 := Bool.eq_false_iff.mpr c6
    subst c6
    replace H := Sq.itF H
    have H' := Aside0.mk H
    clear H
    have dT := cells_25 aE.out
    go_wp2_with (first | ((with_reducible refine Pre.gate_load 32 rfl ?_); (try (refine gate_guard Z16 ?_; dsimp only)); refine Pre.load_event rfl rfl rfl Z16 Z0 Tryz.underlying32 rfl Z12 ?_) | (go_at_call 65; (with_reducible refine (msg_Bare.calls ar aC az ay aA au aw av aD ax am ag ac aq ab ao ak ai ae ah ap _ _ aa aj al _ _ af false _ ?side1 ?side2 ?side3 ?side4 A5.out).mono ?_); (case side1 => exact Z9); (case side2 => exact bH.out); (case side3 => exact Z6); (case side4 => exact aT.out); rintro e hJ ⟨rfl, hb⟩; replace aE := Aside0.mk (blk_below (g := aN) Z4 hb); replace HB := Aside0.mk (below_step Z1 hb); clear hb))
    repeat (go_quiet (first | (go_at_call 65; (with_reducible refine (msg_Bare.calls ar aC az ay aA au aw av aD ax am ag ac aq ab ao ak ai ae ah ap _ _ aa aj al _ _ af false _ ?side1 ?side2 ?side3 ?side4 A5.out).mono ?_); (case side1 => exact Z9); (case side2 => exact bH.out); (case side3 => exact Z6); (case side4 => exact aT.out); rintro e hJ ⟨rfl, hb⟩; have bL := Aside0.mk (blk_below (g := aN) Z4 hb); have bM := Aside0.mk (below_step Z1 hb); replace aE := bL; replace HB := bM; clear bL bM; (try clear hb); (try clear hb2); (try clear hk); (try clear hi))); try go_wp2_with (first | ((with_reducible refine Pre.gate_load 32 rfl ?_); (try (refine gate_guard Z16 ?_; dsimp only)); refine Pre.load_event rfl rfl rfl Z16 Z0 Tryz.underlying32 rfl Z12 ?_) | (go_at_call 65; (with_reducible refine (msg_Bare.calls ar aC az ay aA au aw av aD ax am ag ac aq ab ao ak ai ae ah ap _ _ aa aj al _ _ af false _ ?side1 ?side2 ?side3 ?side4 A5.out).mono ?_); (case side1 => exact Z9); (case side2 => exact bH.out); (case side3 => exact Z6); (case side4 => exact aT.out); rintro e hJ ⟨rfl, hb⟩; have bL := Aside0.mk (blk_below (g := aN) Z4 hb); have bM := Aside0.mk (below_step Z1 hb); replace aE := bL; replace HB := bM; clear bL bM; (try clear hb); (try clear hb2); (try clear hk); (try clear hi))))
    go_meet
    case rel => exact ⟨_, (true), Z8, H', ⟨Z22⟩, ⟨Z4⟩, ⟨Z1⟩⟩
  ·rw [if_neg c4] at H
   have bP : (ar == 11) = false := beq_eq_false_iff_ne.mpr c4
   have cl : (ar != 11) = true := bne_iff_ne.mpr c4
   (first | rw [bP] | (simp only [i64_w, i32_w]; rw [bP]) | skip)
   have H' := Aside0.mk H
   clear H
   have fu := cells_25 aE.out
   go_wp2_with (first | ((with_reducible refine Pre.gate_load 32 rfl ?_); (try (refine gate_guard Z16 ?_; dsimp only)); refine Pre.load_event rfl rfl rfl Z16 Z0 Tryz.underlying32 rfl Z12 ?_))
   repeat (go_quiet (fail); try go_wp2)
   go_meet
   case rel => exact ⟨_, (true), Z8, H', ⟨Z22⟩, ⟨Z4⟩, ⟨Z1⟩⟩
 case rest =>
  clear dY
  try clear c6
  obtain ⟨kq, dB, rfl, HA, eP, aE, HB⟩ := hcut
  cases kq with
  | zero => exact absurd HA.out (by simp [ctx_Right.j0])
  | succ kj1 =>
   have H := HA.out
   clear HA
   simp only [ctx_Right.j0] at H
   by_cases eT : dB = true
   ·subst eT
    replace H := Sq.itT H
    obtain rfl := Option.some.inj H
    go_wp2_with (first | ((with_reducible refine Pre.gate_load 32 rfl ?_); (try (refine gate_guard Z16 ?_; dsimp only)); refine Pre.load_event rfl rfl rfl Z16 Z0 Tryz.underlying32 rfl Z12 ?_))
    repeat (go_quiet (fail); try go_wp2)
    go_ret
    exact ⟨Z5, Z1⟩
   ·replace eT := Bool.eq_false_iff.mpr eT
    subst eT
    replace H := Sq.itF H
    have cX := Aside0.mk H
    clear H
    go_upto_region 3 with (first | ((with_reducible refine Pre.gate_load 32 rfl ?_); (try (refine gate_guard Z16 ?_; dsimp only)); refine Pre.load_event rfl rfl rfl Z16 Z0 Tryz.underlying32 rfl Z12 ?_))
    repeat (go_quiet (fail); go_upto_region 3 with (first | ((with_reducible refine Pre.gate_load 32 rfl ?_); (try (refine gate_guard Z16 ?_; dsimp only)); refine Pre.load_event rfl rfl rfl Z16 Z0 Tryz.underlying32 rfl Z12 ?_)))
    go_cut [28] (fun iy wc => ∃ (kq : Nat) (dE : Bool), iy = .bool dE ∧ Aside0 (ctx_Right.j1 kq dE ar aC az ay aA au aw av aD ax am ag ac aq ab ao ak ai ae ah ap aa aj al af = some r) ∧ Aside0 (kq ≤ kj1) ∧ Aside0 (wc.heap[aN]? = some (.cells #[.int .i64 ar, .int .i64 aC, .int .i64 az, .string ay, .int .i64 aA, .int .i64 au, .string aw, .int .i64 av, .int .i64 aD, .string ax, .int .i64 am, .string ag, .int .i64 ac, .int .i64 aq, .int .i64 ab, .int .i64 ao, .int .i64 ak, .int .i64 ai, .int .i64 ae, .string ah, .string ap, (.slice aJ aa.length aK), .int .i64 aj, .string al, (.slice aH af.length aI)] 32 (0, 0))) ∧ Aside0 (Below w.heap.size w wc))
    case first =>
     have H := cX.out
     clear cX
     replace H := Option.bind_eq_some_iff.mp H
     obtain ⟨ch, gv, H⟩ := H
     replace H : (if ch = true then ((octet_Fits.f ac 2).bind fun cb => (if cb = true then ((octet_Fits.f am 2).bind fun ci => (ctx_Right.j1 kj1 (!ci) ar aC az ay aA au aw av aD ax am ag ac aq ab ao ak ai ae ah ap aa aj al af)) else (ctx_Right.j1 kj1 true ar aC az ay aA au aw av aD ax am ag ac aq ab ao ak ai ae ah ap aa aj al af))) else (ctx_Right.j1 kj1 true ar aC az ay aA au aw av aD ax am ag ac aq ab ao ak ai ae ah ap aa aj al af)) = some r := H
     have eY := Aside0.mk gv
     clear gv
     by_cases eZ : ch = true
     ·subst eZ
      replace H := Sq.itT H
      replace H := Option.bind_eq_some_iff.mp H
      obtain ⟨cb, gw, H⟩ := H
      replace H : (if cb = true then ((octet_Fits.f am 2).bind fun ci => (ctx_Right.j1 kj1 (!ci) ar aC az ay aA au aw av aD ax am ag ac aq ab ao ak ai ae ah ap aa aj al af)) else (ctx_Right.j1 kj1 true ar aC az ay aA au aw av aD ax am ag ac aq ab ao ak ai ae ah ap aa aj al af)) = some r := H
      have fL := Aside0.mk gw
      clear gw
      by_cases dA : cb = true
      ·subst dA
       replace H := Sq.itT H
       replace H := Option.bind_eq_some_iff.mp H
       obtain ⟨ci, ez, H⟩ := H
       replace H : (ctx_Right.j1 kj1 (!ci) ar aC az ay aA au aw av aD ax am ag ac aq ab ao ak ai ae ah ap aa aj al af) = some r := H
       have fJ := Aside0.mk ez
       clear ez
       have H' := Aside0.mk H
       clear H
       have gy := cells_25 aE.out
       go_wp2_with (first | ((with_reducible refine Pre.gate_load 32 rfl ?_); (try (refine gate_guard Z16 ?_; dsimp only)); refine Pre.load_event rfl rfl rfl Z16 Z0 Tryz.underlying32 rfl Z12 ?_) | (go_at_call 90; (with_reducible refine (octet_Fits.calls ab 2 true _ eY.out).mono ?_); rintro e w' ⟨rfl, ⟨nd, rfl⟩⟩; (try first | exact ⟨rfl, _, World.drewN_drewN _ _ _⟩ | exact ⟨rfl, _, Eq.trans (World.drewN_drewN _ _ _) (congrArg (World.drewN _) (Nat.add_assoc _ _ _))⟩)) | (go_at_call 90; (with_reducible refine (octet_Fits.calls ac 2 true _ fL.out).mono ?_); rintro e w' ⟨rfl, ⟨nd, rfl⟩⟩; (try first | exact ⟨rfl, _, World.drewN_drewN _ _ _⟩ | exact ⟨rfl, _, Eq.trans (World.drewN_drewN _ _ _) (congrArg (World.drewN _) (Nat.add_assoc _ _ _))⟩)) | (go_at_call 90; (with_reducible refine (octet_Fits.calls am 2 ci _ fJ.out).mono ?_); rintro e w' ⟨rfl, ⟨nd, rfl⟩⟩; (try first | exact ⟨rfl, _, World.drewN_drewN _ _ _⟩ | exact ⟨rfl, _, Eq.trans (World.drewN_drewN _ _ _) (congrArg (World.drewN _) (Nat.add_assoc _ _ _))⟩)))
       repeat (go_quiet (first | (go_at_call 90; (with_reducible refine (octet_Fits.calls ab 2 true _ eY.out).mono ?_); rintro e w' ⟨rfl, ⟨nd, rfl⟩⟩; (try first | exact ⟨rfl, _, World.drewN_drewN _ _ _⟩ | exact ⟨rfl, _, Eq.trans (World.drewN_drewN _ _ _) (congrArg (World.drewN _) (Nat.add_assoc _ _ _))⟩)) | (go_at_call 90; (with_reducible refine (octet_Fits.calls ac 2 true _ fL.out).mono ?_); rintro e w' ⟨rfl, ⟨nd, rfl⟩⟩; (try first | exact ⟨rfl, _, World.drewN_drewN _ _ _⟩ | exact ⟨rfl, _, Eq.trans (World.drewN_drewN _ _ _) (congrArg (World.drewN _) (Nat.add_assoc _ _ _))⟩)) | (go_at_call 90; (with_reducible refine (octet_Fits.calls am 2 ci _ fJ.out).mono ?_); rintro e w' ⟨rfl, ⟨nd, rfl⟩⟩; (try first | exact ⟨rfl, _, World.drewN_drewN _ _ _⟩ | exact ⟨rfl, _, Eq.trans (World.drewN_drewN _ _ _) (congrArg (World.drewN _) (Nat.add_assoc _ _ _))⟩))); try go_wp2_with (first | ((with_reducible refine Pre.gate_load 32 rfl ?_); (try (refine gate_guard Z16 ?_; dsimp only)); refine Pre.load_event rfl rfl rfl Z16 Z0 Tryz.underlying32 rfl Z12 ?_) | (go_at_call 90; (with_reducible refine (octet_Fits.calls ab 2 true _ eY.out).mono ?_); rintro e w' ⟨rfl, ⟨nd, rfl⟩⟩; (try first | exact ⟨rfl, _, World.drewN_drewN _ _ _⟩ | exact ⟨rfl, _, Eq.trans (World.drewN_drewN _ _ _) (congrArg (World.drewN _) (Nat.add_assoc _ _ _))⟩)) | (go_at_call 90; (with_reducible refine (octet_Fits.calls ac 2 true _ fL.out).mono ?_); rintro e w' ⟨rfl, ⟨nd, rfl⟩⟩; (try first | exact ⟨rfl, _, World.drewN_drewN _ _ _⟩ | exact ⟨rfl, _, Eq.trans (World.drewN_drewN _ _ _) (congrArg (World.drewN _) (Nat.add_assoc _ _ _))⟩)) | (go_at_call 90; (with_reducible refine (octet_Fits.calls am 2 ci _ fJ.out).mono ?_); rintro e w' ⟨rfl, ⟨nd, rfl⟩⟩; (try first | exact ⟨rfl, _, World.drewN_drewN _ _ _⟩ | exact ⟨rfl, _, Eq.trans (World.drewN_drewN _ _ _) (congrArg (World.drewN _) (Nat.add_assoc _ _ _))⟩))))
       go_meet
       case rel => exact ⟨_, (!ci), Z8, H', ⟨by have := eP.out; first | omega | exact Nat.le_refl _⟩, ⟨Z4⟩, ⟨Z1⟩⟩
      ·replace dA := Bool.eq_false_iff.mpr dA
       subst dA
       replace H := Sq.itF H
       have H' := Aside0.mk H
       clear H
       have fY := cells_25 aE.out
       go_wp2_with (first | ((with_reducible refine Pre.gate_load 32 rfl ?_); (try (refine gate_guard Z16 ?_; dsimp only)); refine Pre.load_event rfl rfl rfl Z16 Z0 Tryz.underlying32 rfl Z12 ?_) | (go_at_call 90; (with_reducible refine (octet_Fits.calls ab 2 true _ eY.out).mono ?_); rintro e w' ⟨rfl, ⟨nd, rfl⟩⟩; (try first | exact ⟨rfl, _, World.drewN_drewN _ _ _⟩ | exact ⟨rfl, _, Eq.trans (World.drewN_drewN _ _ _) (congrArg (World.drewN _) (Nat.add_assoc _ _ _))⟩)) | (go_at_call 90; (with_reducible refine (octet_Fits.calls ac 2 false _ fL.out).mono ?_); rintro e w' ⟨rfl, ⟨nd, rfl⟩⟩; (try first | exact ⟨rfl, _, World.drewN_drewN _ _ _⟩ | exact ⟨rfl, _, Eq.trans (World.drewN_drewN _ _ _) (congrArg (World.drewN _) (Nat.add_assoc _ _ _))⟩)))
       repeat (go_quiet (first | (go_at_call 90; (with_reducible refine (octet_Fits.calls ab 2 true _ eY.out).mono ?_); rintro e w' ⟨rfl, ⟨nd, rfl⟩⟩; (try first | exact ⟨rfl, _, World.drewN_drewN _ _ _⟩ | exact ⟨rfl, _, Eq.trans (World.drewN_drewN _ _ _) (congrArg (World.drewN _) (Nat.add_assoc _ _ _))⟩)) | (go_at_call 90; (with_reducible refine (octet_Fits.calls ac 2 false _ fL.out).mono ?_); rintro e w' ⟨rfl, ⟨nd, rfl⟩⟩; (try first | exact ⟨rfl, _, World.drewN_drewN _ _ _⟩ | exact ⟨rfl, _, Eq.trans (World.drewN_drewN _ _ _) (congrArg (World.drewN _) (Nat.add_assoc _ _ _))⟩))); try go_wp2_with (first | ((with_reducible refine Pre.gate_load 32 rfl ?_); (try (refine gate_guard Z16 ?_; dsimp only)); refine Pre.load_event rfl rfl rfl Z16 Z0 Tryz.underlying32 rfl Z12 ?_) | (go_at_call 90; (with_reducible refine (octet_Fits.calls ab 2 true _ eY.out).mono ?_); rintro e w' ⟨rfl, ⟨nd, rfl⟩⟩; (try first | exact ⟨rfl, _, World.drewN_drewN _ _ _⟩ | exact ⟨rfl, _, Eq.trans (World.drewN_drewN _ _ _) (congrArg (World.drewN _) (Nat.add_assoc _ _ _))⟩)) | (go_at_call 90; (with_reducible refine (octet_Fits.calls ac 2 false _ fL.out).mono ?_); rintro e w' ⟨rfl, ⟨nd, rfl⟩⟩; (try first | exact ⟨rfl, _, World.drewN_drewN _ _ _⟩ | exact ⟨rfl, _, Eq.trans (World.drewN_drewN _ _ _) (congrArg (World.drewN _) (Nat.add_assoc _ _ _))⟩))))
       go_meet
       case rel => exact ⟨_, (true), Z8, H', ⟨by have := eP.out; first | omega | exact Nat.le_refl _⟩, ⟨Z4⟩, ⟨Z1⟩⟩
     ·replace eZ := Bool.eq_false_iff.mpr eZ
      subst eZ
      replace H := Sq.itF H
      have H' := Aside0.mk H
      clear H
      have ff := cells_25 aE.out
      go_wp2_with (first | ((with_reducible refine Pre.gate_load 32 rfl ?_); (try (refine gate_guard Z16 ?_; dsimp only)); refine Pre.load_event rfl rfl rfl Z16 Z0 Tryz.underlying32 rfl Z12 ?_) | (go_at_call 90; (with_reducible refine (octet_Fits.calls ab 2 false _ eY.out).mono ?_); rintro e w' ⟨rfl, ⟨nd, rfl⟩⟩; (try first | exact ⟨rfl, _, World.drewN_drewN _ _ _⟩ | exact ⟨rfl, _, Eq.trans (World.drewN_drewN _ _ _) (congrArg (World.drewN _) (Nat.add_assoc _ _ _))⟩)))
      repeat (go_quiet (first | (go_at_call 90; (with_reducible refine (octet_Fits.calls ab 2 false _ eY.out).mono ?_); rintro e w' ⟨rfl, ⟨nd, rfl⟩⟩; (try first | exact ⟨rfl, _, World.drewN_drewN _ _ _⟩ | exact ⟨rfl, _, Eq.trans (World.drewN_drewN _ _ _) (congrArg (World.drewN _) (Nat.add_assoc _ _ _))⟩))); try go_wp2_with (first | ((with_reducible refine Pre.gate_load 32 rfl ?_); (try (refine gate_guard Z16 ?_; dsimp only)); refine Pre.load_event rfl rfl rfl Z16 Z0 Tryz.underlying32 rfl Z12 ?_) | (go_at_call 90; (with_reducible refine (octet_Fits.calls ab 2 false _ eY.out).mono ?_); rintro e w' ⟨rfl, ⟨nd, rfl⟩⟩; (try first | exact ⟨rfl, _, World.drewN_drewN _ _ _⟩ | exact ⟨rfl, _, Eq.trans (World.drewN_drewN _ _ _) (congrArg (World.drewN _) (Nat.add_assoc _ _ _))⟩))))
      go_meet
      case rel => exact ⟨_, (true), Z8, H', ⟨by have := eP.out; first | omega | exact Nat.le_refl _⟩, ⟨Z4⟩, ⟨Z1⟩⟩
    case rest =>
     clear cX
     try clear c2
     try clear p2
     try clear c4
     try clear bP
     try clear cl
     try clear c6
     try clear c8
     try clear eT
     try clear dT
     try clear fu
     obtain ⟨kq, dE, rfl, HA, HJ23, aE, HB⟩ := hcut
     cases kq with
     | zero => exact absurd HA.out (by simp [ctx_Right.j1])
     | succ kj23 =>
      have H := HA.out
      clear HA
      simp only [ctx_Right.j1] at H
      by_cases hM : dE = true
      ·subst hM
       replace H := Sq.itT H
       obtain rfl := Option.some.inj H
       go_wp2_with (first | ((with_reducible refine Pre.gate_load 32 rfl ?_); (try (refine gate_guard Z16 ?_; dsimp only)); refine Pre.load_event rfl rfl rfl Z16 Z0 Tryz.underlying32 rfl Z12 ?_))
       repeat (go_quiet (fail); try go_wp2)
       go_ret
       exact ⟨Z5, Z1⟩
      ·replace hM := Bool.eq_false_iff.mpr hM
       subst hM
       replace H := Sq.itF H
       by_cases fB : am = 65535
       ·rw [if_pos fB] at H
        have gz : (am == 65535) = true := beq_iff_eq.mpr fB
        have gA : (am != 65535) = false := bne_eq_false_iff_eq.mpr fB
        clear fB
        by_cases gB : ag.size + ax.size ≤ 9223372036854775807
        ·rw [if_pos gB] at H
         have c35b0 := eq_true gB
         have c35b1 : decide (ag.size + ax.size ≤ 9223372036854775807) = true := decide_eq_true gB
         try have gC : (9223372036854775807 < ag.size + ax.size) = False := eq_false (Nat.not_lt.2 gB)
         try (have gD := gC; simp only [ByteArray.size_append] at gD)
         obtain rfl := Option.some.inj H
         have gb := cells_25 aE.out
         go_wp2_with (first | ((with_reducible refine Pre.gate_load 32 rfl ?_); (try (refine gate_guard Z16 ?_; dsimp only)); refine Pre.load_event rfl rfl rfl Z16 Z0 Tryz.underlying32 rfl Z12 ?_))
         repeat (go_quiet (fail); try go_wp2)
         go_ret
         exact ⟨Z5, Z1⟩
        ·rw [if_neg gB] at H
         exact absurd H Z27
       ·rw [if_neg fB] at H
        have gz : (am == 65535) = false := beq_eq_false_iff_ne.mpr fB
        have gA : (am != 65535) = true := bne_iff_ne.mpr fB
        by_cases fM : au > 0
        ·rw [if_pos fM] at H
         have gE : decide (0 < au) = true := decide_eq_true fM
         clear fM
         by_cases fC : (ag.size : Int) = 8
         ·rw [if_pos fC] at H
          have gF : ((ag.size : Int) == 8) = true := beq_iff_eq.mpr fC
          have gG : ((ag.size : Int) != 8) = false := bne_eq_false_iff_eq.mpr fC
          clear fC
          replace H := Option.bind_eq_some_iff.mp H
          obtain ⟨cj, gH, H⟩ := H
          replace H : ((ctx_Family.f au).bind fun cm => ((ctx_either.f ax (cj == cm)).bind fun db => (some db))) = some r := H
          have hX := Aside0.mk gH
          clear gH
          replace H := Option.bind_eq_some_iff.mp H
          obtain ⟨cm, gI, H⟩ := H
          replace H : ((ctx_either.f ax (cj == cm)).bind fun db => (some db)) = some r := H
          have eV := Aside0.mk gI
          clear gI
          replace H := Option.bind_eq_some_iff.mp H
          obtain ⟨db, gJ, H⟩ := H
          replace H : (some db) = some r := H
          have hY := Aside0.mk gJ
          clear gJ
          obtain rfl := Option.some.inj H
          have hcz42 := cells_25 aE.out
          go_wp2_with (first | ((with_reducible refine Pre.gate_load 32 rfl ?_); (try (refine gate_guard Z16 ?_; dsimp only)); refine Pre.load_event rfl rfl rfl Z16 Z0 Tryz.underlying32 rfl Z12 ?_) | (go_at_call 126; (with_reducible refine (addr_Family.calls ax cj _ hX.out).mono ?_); rintro e w' ⟨rfl, ⟨nd, rfl⟩⟩; (try first | exact ⟨rfl, _, World.drewN_drewN _ _ _⟩ | exact ⟨rfl, _, Eq.trans (World.drewN_drewN _ _ _) (congrArg (World.drewN _) (Nat.add_assoc _ _ _))⟩)) | (go_at_call 68; (with_reducible refine (ctx_Family.calls au cm _ eV.out).mono ?_); rintro e w' ⟨rfl, ⟨nd, rfl⟩⟩; (try first | exact ⟨rfl, _, World.drewN_drewN _ _ _⟩ | exact ⟨rfl, _, Eq.trans (World.drewN_drewN _ _ _) (congrArg (World.drewN _) (Nat.add_assoc _ _ _))⟩)) | (go_at_call 125; (with_reducible refine (ctx_either.calls ax (cj == cm) db _ hY.out).mono ?_); rintro e w' ⟨rfl, ⟨nd, rfl⟩⟩; (try first | exact ⟨rfl, _, World.drewN_drewN _ _ _⟩ | exact ⟨rfl, _, Eq.trans (World.drewN_drewN _ _ _) (congrArg (World.drewN _) (Nat.add_assoc _ _ _))⟩)))
          repeat (go_quiet (first | (go_at_call 126; (with_reducible refine (addr_Family.calls ax cj _ hX.out).mono ?_); rintro e w' ⟨rfl, ⟨nd, rfl⟩⟩; (try first | exact ⟨rfl, _, World.drewN_drewN _ _ _⟩ | exact ⟨rfl, _, Eq.trans (World.drewN_drewN _ _ _) (congrArg (World.drewN _) (Nat.add_assoc _ _ _))⟩)) | (go_at_call 68; (with_reducible refine (ctx_Family.calls au cm _ eV.out).mono ?_); rintro e w' ⟨rfl, ⟨nd, rfl⟩⟩; (try first | exact ⟨rfl, _, World.drewN_drewN _ _ _⟩ | exact ⟨rfl, _, Eq.trans (World.drewN_drewN _ _ _) (congrArg (World.drewN _) (Nat.add_assoc _ _ _))⟩)) | (go_at_call 125; (with_reducible refine (ctx_either.calls ax (cj == cm) db _ hY.out).mono ?_); rintro e w' ⟨rfl, ⟨nd, rfl⟩⟩; (try first | exact ⟨rfl, _, World.drewN_drewN _ _ _⟩ | exact ⟨rfl, _, Eq.trans (World.drewN_drewN _ _ _) (congrArg (World.drewN _) (Nat.add_assoc _ _ _))⟩))); try go_wp2_with (first | ((with_reducible refine Pre.gate_load 32 rfl ?_); (try (refine gate_guard Z16 ?_; dsimp only)); refine Pre.load_event rfl rfl rfl Z16 Z0 Tryz.underlying32 rfl Z12 ?_) | (go_at_call 126; (with_reducible refine (addr_Family.calls ax cj _ hX.out).mono ?_); rintro e w' ⟨rfl, ⟨nd, rfl⟩⟩; (try first | exact ⟨rfl, _, World.drewN_drewN _ _ _⟩ | exact ⟨rfl, _, Eq.trans (World.drewN_drewN _ _ _) (congrArg (World.drewN _) (Nat.add_assoc _ _ _))⟩)) | (go_at_call 68; (with_reducible refine (ctx_Family.calls au cm _ eV.out).mono ?_); rintro e w' ⟨rfl, ⟨nd, rfl⟩⟩; (try first | exact ⟨rfl, _, World.drewN_drewN _ _ _⟩ | exact ⟨rfl, _, Eq.trans (World.drewN_drewN _ _ _) (congrArg (World.drewN _) (Nat.add_assoc _ _ _))⟩)) | (go_at_call 125; (with_reducible refine (ctx_either.calls ax (cj == cm) db _ hY.out).mono ?_); rintro e w' ⟨rfl, ⟨nd, rfl⟩⟩; (try first | exact ⟨rfl, _, World.drewN_drewN _ _ _⟩ | exact ⟨rfl, _, Eq.trans (World.drewN_drewN _ _ _) (congrArg (World.drewN _) (Nat.add_assoc _ _ _))⟩))))
          go_ret
          exact ⟨Z5, Z1⟩
         ·rw [if_neg fC] at H
          have gF : ((ag.size : Int) == 8) = false := beq_eq_false_iff_ne.mpr fC
          have gG : ((ag.size : Int) != 8) = true := bne_iff_ne.mpr fC
          obtain rfl := Option.some.inj H
          have hcz43 := cells_25 aE.out
          go_wp2_with (first | ((with_reducible refine Pre.gate_load 32 rfl ?_); (try (refine gate_guard Z16 ?_; dsimp only)); refine Pre.load_event rfl rfl rfl Z16 Z0 Tryz.underlying32 rfl Z12 ?_))
          repeat (go_quiet (fail); try go_wp2)
          go_ret
          exact ⟨Z5, Z1⟩
        ·rw [if_neg fM] at H
         have gE : decide (0 < au) = false := decide_eq_false fM
         clear fM
         obtain rfl := Option.some.inj H
         have hcz44 := cells_25 aE.out
         go_wp2_with (first | ((with_reducible refine Pre.gate_load 32 rfl ?_); (try (refine gate_guard Z16 ?_; dsimp only)); refine Pre.load_event rfl rfl rfl Z16 Z0 Tryz.underlying32 rfl Z12 ?_))
         repeat (go_quiet (fail); try go_wp2)
         go_ret
         exact ⟨Z5, Z1⟩

end Go.Proofs.YtnllanjoebjeiaaGreat.PV
