-- Written by mp.py, a program of this work (wip/tools), out of the translation; Lean checks it.
import Derived.Test.YtccjakjjaemmkaaPAExZ
import Derived.Test.YtccjakjjaemmkaaPAExmsgBare
import Derived.Test.YtccjakjjaemmkaaPAExoctet
namespace Go.Proofs.Ytccjakjjaemmkaa.PAE
open Go.RowKit Go.Proofs.YtccjakjjaemmkaaW.PrintWords Go.Proofs.YtccjakjjaemmkaaW.PrintLast Go.Proofs.YtccjakjjaemmkaaW.PrintMore
attribute [local go_sem] max2_int min2_int max_two min_two max_three min_three max_four min_four   -- for this text's walks alone
set_option linter.unusedVariables false
set_option linter.unusedSimpArgs false

/-! ### rreq_Right: function 20 -/
mutual
def rreq_Right.j0 : Nat → Bool → Int → Int → Int → ByteArray → Int → Int → ByteArray → Int → Int → ByteArray → Int → ByteArray → Int → Int → Int → Int → Int → Int → Int → ByteArray → ByteArray → List (S46) → Int → ByteArray → List (S48) → Option (Bool)
 | 0, _, _, _, _, _, _, _, _, _, _, _, _, _, _, _, _, _, _, _, _, _, _, _, _, _, _ => none
 | k + 1, nQ, bq, bI, bJ, bK, bL, bM, bN, br, bO, bP, bQ, bD, bs, bA, bv, bo, bu, bB, bE, bw, bx, bf, bF, bG, bj => if nQ = true then (some false) else ((some (([bB, bs, bA] : List Int) : List Int)).bind fun cC => (rreq_Right.l0 k cC (cC.length : Int) 0 bq bI bJ bK bL bM bN br bO bP bQ bD bs bA bv bo bu bB bE bw bx bf bF bG bj))
def rreq_Right.l0 : Nat → List Int → Int → Int → Int → Int → Int → ByteArray → Int → Int → ByteArray → Int → Int → ByteArray → Int → ByteArray → Int → Int → Int → Int → Int → Int → Int → ByteArray → ByteArray → List (S46) → Int → ByteArray → List (S48) → Option (Bool)
 | 0, _, _, _, _, _, _, _, _, _, _, _, _, _, _, _, _, _, _, _, _, _, _, _, _, _, _, _, _ => none
 | k + 1, oc, oR, nf, bq, bI, bJ, bK, bL, bM, bN, br, bO, bP, bQ, bD, bs, bA, bv, bo, bu, bB, bE, bw, bx, bf, bF, bG, bj => if nf < oR then (if 0 ≤ nf then (if nf < (oc.length : Int) then ((octet_Fits.f (rd oc nf) 4).bind fun bX => (if bX = true then (rreq_Right.l0 k oc oR (wrap64 (nf + 1)) bq bI bJ bK bL bM bN br bO bP bQ bD bs bA bv bo bu bB bE bw bx bf bF bG bj) else (some false))) else (none)) else (none)) else ((octet_Fits.f bu 1).bind fun aH => (if aH = true then ((ext_Right.f k bj).bind fun aQ => (some aQ)) else (some false)))
end
def rreq_Right.f (k : Nat) (aD : Int) (aw : Int) (ax : Int) (au : ByteArray) (aA : Int) (ay : Int) (av : ByteArray) (ar : Int) (aC : Int) (az : ByteArray) (ao : Int) (am : ByteArray) (ah : Int) (aj : Int) (ak : Int) (ae : Int) (ag : Int) (ai : Int) (an : Int) (aa : ByteArray) (ab : ByteArray) (ac : List (S46)) (ap : Int) (aq : ByteArray) (af : List (S48)) : Option (Bool) := if aD = 3 then ((msg_Bare.f aD aw ax au aA ay av ar aC az ao am ah aj ak ae ag ai an aa ab ac ap aq af).bind fun aU => (if aU = true then (if ae < 0 then (rreq_Right.j0 k true aD aw ax au aA ay av ar aC az ao am ah aj ak ae ag ai an aa ab ac ap aq af) else (if ae > 31 then (rreq_Right.j0 k true aD aw ax au aA ay av ar aC az ao am ah aj ak ae ag ai an aa ab ac ap aq af) else (if (aa.size : Int) = 4 then (rreq_Right.j0 k ((ab.size : Int) != 4) aD aw ax au aA ay av ar aC az ao am ah aj ak ae ag ai an aa ab ac ap aq af) else (rreq_Right.j0 k true aD aw ax au aA ay av ar aC az ao am ah aj ak ae ag ai an aa ab ac ap aq af)))) else (rreq_Right.j0 k true aD aw ax au aA ay av ar aC az ao am ah aj ak ae ag ai an aa ab ac ap aq af))) else (rreq_Right.j0 k true aD aw ax au aA ay av ar aC az ao am ah aj ak ae ag ai an aa ab ac ap aq af)
theorem rreq_Right.mono_l : ∀ k, (∀ y0 y1 y2 y3 y4 y5 y6 y7 y8 y9 er es et eu ev ew ex ey ez eA eB eC eD eE eF eG, LeO (rreq_Right.j0 k y0 y1 y2 y3 y4 y5 y6 y7 y8 y9 er es et eu ev ew ex ey ez eA eB eC eD eE eF eG) (rreq_Right.j0 (k + 1) y0 y1 y2 y3 y4 y5 y6 y7 y8 y9 er es et eu ev ew ex ey ez eA eB eC eD eE eF eG)) ∧ (∀ y0 y1 y2 y3 y4 y5 y6 y7 y8 y9 er es et eu ev ew ex ey ez eA eB eC eD eE eF eG hq ia, LeO (rreq_Right.l0 k y0 y1 y2 y3 y4 y5 y6 y7 y8 y9 er es et eu ev ew ex ey ez eA eB eC eD eE eF eG hq ia) (rreq_Right.l0 (k + 1) y0 y1 y2 y3 y4 y5 y6 y7 y8 y9 er es et eu ev ew ex ey ez eA eB eC eD eE eF eG hq ia))
 | 0 => ⟨Sq.mz, Sq.mz⟩
 | k + 1 => by
  obtain ⟨ih0, ih1⟩ := rreq_Right.mono_l k
  refine ⟨?_, ?_⟩
  ·intros
   unfold rreq_Right.j0
   have m0 := ext_Right.mono
   exact Sq.mo
  ·intros
   unfold rreq_Right.l0
   have m0 := ext_Right.mono
   exact Sq.mo
theorem rreq_Right.mono : ∀ a0 a1 a2 a3 a4 a5 a6 a7 a8 a9 dY dZ ea eb ec ed ee ef eg eh ei ej ek el em k, LeO (rreq_Right.f k a0 a1 a2 a3 a4 a5 a6 a7 a8 a9 dY dZ ea eb ec ed ee ef eg eh ei ej ek el em) (rreq_Right.f (k + 1) a0 a1 a2 a3 a4 a5 a6 a7 a8 a9 dY dZ ea eb ec ed ee ef eg eh ei ej ek el em) := by
 intros
 rename_i k
 obtain ⟨ih0, ih1⟩ := rreq_Right.mono_l k
 unfold rreq_Right.f
 have m0 := ext_Right.mono
 exact Sq.mo

set_option maxHeartbeats 8000000 in
set_option maxRecDepth 100000 in
theorem rreq_Right.calls (k : Nat) (aD : Int) (aw : Int) (ax : Int) (au : ByteArray) (aA : Int) (ay : Int) (av : ByteArray) (ar : Int) (aC : Int) (az : ByteArray) (ao : Int) (am : ByteArray) (ah : Int) (aj : Int) (ak : Int) (ae : Int) (ag : Int) (ai : Int) (an : Int) (aa : ByteArray) (ab : ByteArray) (aP : Option Addr) (aN : Nat) (ac : List (S46)) (ap : Int) (aq : ByteArray) (aJ : Option Addr) (aK : Nat) (af : List (S48)) (r : Bool) (w : World) (bk : Kd.C k46 w aP ac.length ac) (bl : ac.length ≤ aN) (bm : Kd.C k48 w aJ af.length af) (bn : af.length ≤ aK) (h : rreq_Right.f k aD aw ax au aA ay av ar aC az ao am ah aj ak ae ag ai an aa ab ac ap aq af = some r) :
  Calls Try.prog 20 #[.agg #[.int .i64 aD, .int .i64 aw, .int .i64 ax, .string au, .int .i64 aA, .int .i64 ay, .string av, .int .i64 ar, .int .i64 aC, .string az, .int .i64 ao, .string am, .int .i64 ah, .int .i64 aj, .int .i64 ak, .int .i64 ae, .int .i64 ag, .int .i64 ai, .int .i64 an, .string aa, .string ab, .slice aP ac.length aN, .int .i64 ap, .string aq, .slice aJ af.length aK]] w fun e w' => e = .returned (.bool r) ∧ Below w.heap.size w w' := by
 have dM := Try.underlying25
 have cc := Aside0.mk bk
 have aZ := Aside0.mk bl
 clear bk bl
 have bZ := Aside0.mk bm
 have aT := Aside0.mk bn
 clear bm bn
 have HB := Aside0.mk (Below.refl w.heap.size w)
 have H : (if aD = 3 then ((msg_Bare.f aD aw ax au aA ay av ar aC az ao am ah aj ak ae ag ai an aa ab ac ap aq af).bind fun aU => (if aU = true then (if ae < 0 then (rreq_Right.j0 k true aD aw ax au aA ay av ar aC az ao am ah aj ak ae ag ai an aa ab ac ap aq af) else (if ae > 31 then (rreq_Right.j0 k true aD aw ax au aA ay av ar aC az ao am ah aj ak ae ag ai an aa ab ac ap aq af) else (if (aa.size : Int) = 4 then (rreq_Right.j0 k ((ab.size : Int) != 4) aD aw ax au aA ay av ar aC az ao am ah aj ak ae ag ai an aa ab ac ap aq af) else (rreq_Right.j0 k true aD aw ax au aA ay av ar aC az ao am ah aj ak ae ag ai an aa ab ac ap aq af)))) else (rreq_Right.j0 k true aD aw ax au aA ay av ar aC az ao am ah aj ak ae ag ai an aa ab ac ap aq af))) else (rreq_Right.j0 k true aD aw ax au aA ay av ar aC az ao am ah aj ak ae ag ai an aa ab ac ap aq af)) = some r := h
 clear h
 have fT := Aside0.mk H
 clear H
 go_enter Try.func20, Try.ntmps20
 go_upto_region 1 with (first | ((with_reducible refine Pre.gate_load 25 rfl ?_); (try (refine gate_guard Z14 ?_; dsimp only)); refine Pre.load_event rfl rfl rfl Z14 Z1 Try.underlying25 rfl Z11 ?_) | ((with_reducible refine gate_dst (N := 1) rfl ?_); (try (refine gate_guard Z14 ?_; dsimp only)); refine Sq.box 1 #[.int .i64 aD, .int .i64 aw, .int .i64 ax, .string au, .int .i64 aA, .int .i64 ay, .string av, .int .i64 ar, .int .i64 aC, .string az, .int .i64 ao, .string am, .int .i64 ah, .int .i64 aj, .int .i64 ak, .int .i64 ae, .int .i64 ag, .int .i64 ai, .int .i64 an, .string aa, .string ab, .slice aP ac.length aN, .int .i64 ap, .string aq, .slice aJ af.length aK] 25 ?_; intro aE hg w3 hbox hb; have al := Aside0.mk (hbox); have cd := Aside0.mk (Sq.ge hg Z2); have bV := Aside0.mk (Sq.ge hg Z2); replace HB := Aside0.mk (below_step Z2 hb); clear hb hbox hg))
 (try simp only [Act.put, Sq.s1, Sq.s2, Sq.s3])
 go_cut [34] (fun nR wc => ∃ (kq : Nat) (fQ : Bool), nR = .bool fQ ∧ Aside0 (rreq_Right.j0 kq fQ aD aw ax au aA ay av ar aC az ao am ah aj ak ae ag ai an aa ab ac ap aq af = some r) ∧ Aside0 (kq ≤ k) ∧ Aside0 (wc.heap[aE]? = some (.cells #[.int .i64 aD, .int .i64 aw, .int .i64 ax, .string au, .int .i64 aA, .int .i64 ay, .string av, .int .i64 ar, .int .i64 aC, .string az, .int .i64 ao, .string am, .int .i64 ah, .int .i64 aj, .int .i64 ak, .int .i64 ae, .int .i64 ag, .int .i64 ai, .int .i64 an, .string aa, .string ab, (.slice aP ac.length aN), .int .i64 ap, .string aq, (.slice aJ af.length aK)] 25 (0, 0))) ∧ Aside0 (Below w.heap.size w wc))
 case first =>
  have H := fT.out
  clear fT
  by_cases c4 : aD = 3
  ·rw [if_pos c4] at H
   have cf : (aD == 3) = true := beq_iff_eq.mpr c4
   have fd : (aD != 3) = false := bne_eq_false_iff_eq.mpr c4
   clear c4
   (first | rw [cf] | (simp only [i64_w, i32_w]; rw [cf]) | skip)
   replace H := Option.bind_eq_some_iff.mp H
   obtain ⟨aU, iy, H⟩ := H
   replace H : (if aU = true then (if ae < 0 then (rreq_Right.j0 k true aD aw ax au aA ay av ar aC az ao am ah aj ak ae ag ai an aa ab ac ap aq af) else (if ae > 31 then (rreq_Right.j0 k true aD aw ax au aA ay av ar aC az ao am ah aj ak ae ag ai an aa ab ac ap aq af) else (if (aa.size : Int) = 4 then (rreq_Right.j0 k ((ab.size : Int) != 4) aD aw ax au aA ay av ar aC az ao am ah aj ak ae ag ai an aa ab ac ap aq af) else (rreq_Right.j0 k true aD aw ax au aA ay av ar aC az ao am ah aj ak ae ag ai an aa ab ac ap aq af)))) else (rreq_Right.j0 k true aD aw ax au aA ay av ar aC az ao am ah aj ak ae ag ai an aa ab ac ap aq af)) = some r := H
   have A5 := Aside0.mk iy
   clear iy
   by_cases c6 : aU = true
   ·subst c6
    replace H := Sq.itT H
    by_cases c7 : ae < 0
    ·rw [if_pos c7] at H
     have dT : decide (ae < 0) = true := decide_eq_true c7
     clear c7
     have H' := Aside0.mk H
     clear H
     have iK := cells_25 al.out
     go_wp2_with (first | ((with_reducible refine Pre.gate_load 25 rfl ?_); (try (refine gate_guard Z14 ?_; dsimp only)); refine Pre.load_event rfl rfl rfl Z14 Z1 Try.underlying25 rfl Z11 ?_) | (go_at_call 53; (with_reducible refine (msg_Bare.calls aD aw ax au aA ay av ar aC az ao am ah aj ak ae ag ai an aa ab _ _ ac ap aq _ _ af true _ ?side1 ?side2 ?side3 ?side4 A5.out).mono ?_); (case side1 => exact Z7); (case side2 => exact aZ.out); (case side3 => exact Z5); (case side4 => exact aT.out); rintro e w9 ⟨rfl, hb⟩; replace al := Aside0.mk (blk_below (g := aE) Z3 hb); replace HB := Aside0.mk (below_step Z0 hb); clear hb; have fL := cells_25 al.out))
     go_meet
     case rel => exact ⟨_, (true), Z10, H', ⟨Z20⟩, ⟨Z3⟩, ⟨Z0⟩⟩
    ·rw [if_neg c7] at H
     have dT : decide (ae < 0) = false := decide_eq_false c7
     clear c7
     by_cases dC : ae > 31
     ·rw [if_pos dC] at H
      have fg : decide (31 < ae) = true := decide_eq_true dC
      clear dC
      have H' := Aside0.mk H
      clear H
      have gs := cells_25 al.out
      go_wp2_with (first | ((with_reducible refine Pre.gate_load 25 rfl ?_); (try (refine gate_guard Z14 ?_; dsimp only)); refine Pre.load_event rfl rfl rfl Z14 Z1 Try.underlying25 rfl Z11 ?_) | (go_at_call 53; (with_reducible refine (msg_Bare.calls aD aw ax au aA ay av ar aC az ao am ah aj ak ae ag ai an aa ab _ _ ac ap aq _ _ af true _ ?side1 ?side2 ?side3 ?side4 A5.out).mono ?_); (case side1 => exact Z7); (case side2 => exact aZ.out); (case side3 => exact Z5); (case side4 => exact aT.out); rintro e hS ⟨rfl, hb⟩; replace al := Aside0.mk (blk_below (g := aE) Z3 hb); replace HB := Aside0.mk (below_step Z0 hb); clear hb; have gO := cells_25 al.out))
      go_meet
      case rel => exact ⟨_, (true), Z10, H', ⟨Z20⟩, ⟨Z3⟩, ⟨Z0⟩⟩
     ·rw [if_neg dC] at H
      have fg : decide (31 < ae) = false := decide_eq_false dC
      clear dC
      by_cases dA : (aa.size : Int) = 4
      ·rw [if_pos dA] at H
       have fv : ((aa.size : Int) == 4) = true := beq_iff_eq.mpr dA
       have fw : ((aa.size : Int) != 4) = false := bne_eq_false_iff_eq.mpr dA
       clear dA
       have H' := Aside0.mk H
       clear H
       have io := cells_25 al.out
       go_wp2_with (first | ((with_reducible refine Pre.gate_load 25 rfl ?_); (try (refine gate_guard Z14 ?_; dsimp only)); refine Pre.load_event rfl rfl rfl Z14 Z1 Try.underlying25 rfl Z11 ?_) | (go_at_call 53; (with_reducible refine (msg_Bare.calls aD aw ax au aA ay av ar aC az ao am ah aj ak ae ag ai an aa ab _ _ ac ap aq _ _ af true _ ?side1 ?side2 ?side3 ?side4 A5.out).mono ?_); (case side1 => exact Z7); (case side2 => exact aZ.out); (case side3 => exact Z5); (case side4 => exact aT.out); rintro e ip ⟨rfl, hb⟩; replace al := Aside0.mk (blk_below (g := aE) Z3 hb); replace HB := Aside0.mk (below_step Z0 hb); clear hb; have hJ := cells_25 al.out))
       go_meet
       case rel => exact ⟨_, (((ab.size : Int) != 4)), Z10, H', ⟨Z20⟩, ⟨Z3⟩, ⟨Z0⟩⟩
      ·rw [if_neg dA] at H
       have fv : ((aa.size : Int) == 4) = false := beq_eq_false_iff_ne.mpr dA
       have fw : ((aa.size : Int) != 4) = true := bne_iff_ne.mpr dA
       have H' := Aside0.mk H
       clear H
       have ig := cells_25 al.out
       go_wp2_with (first | ((with_reducible refine Pre.gate_load 25 rfl ?_); (try (refine gate_guard Z14 ?_; dsimp only)); refine Pre.load_event rfl rfl rfl Z14 Z1 Try.underlying25 rfl Z11 ?_) | (go_at_call 53; (with_reducible refine (msg_Bare.calls aD aw ax au aA ay av ar aC az ao am ah aj ak ae ag ai an aa ab _ _ ac ap aq _ _ af true _ ?side1 ?side2 ?side3 ?side4 A5.out).mono ?_); (case side1 => exact Z7); (case side2 => exact aZ.out); (case side3 => exact Z5); (case side4 => exact aT.out); rintro e iM ⟨rfl, hb⟩; replace al := Aside0.mk (blk_below (g := aE) Z3 hb); replace HB := Aside0.mk (below_step Z0 hb); clear hb; have ih := cells_25 al.out))
       go_meet
       case rel => exact ⟨_, (true), Z10, H', ⟨Z20⟩, ⟨Z3⟩, ⟨Z0⟩⟩
   ·replace c6 := Bool.eq_false_iff.mpr c6
    subst c6
    replace H := Sq.itF H
    have H' := Aside0.mk H
    clear H
    have hP := cells_25 al.out
    go_wp2_with (first | ((with_reducible refine Pre.gate_load 25 rfl ?_); (try (refine gate_guard Z14 ?_; dsimp only)); refine Pre.load_event rfl rfl rfl Z14 Z1 Try.underlying25 rfl Z11 ?_) | (go_at_call 53; (with_reducible refine (msg_Bare.calls aD aw ax au aA ay av ar aC az ao am ah aj ak ae ag ai an aa ab _ _ ac ap aq _ _ af false _ ?side1 ?side2 ?side3 ?side4 A5.out).mono ?_); (case side1 => exact Z7); (case side2 => exact aZ.out); (case side3 => exact Z5); (case side4 => exact aT.out); rintro e gW ⟨rfl, hb⟩; replace al := Aside0.mk (blk_below (g := aE) Z3 hb); replace HB := Aside0.mk (below_step Z0 hb); clear hb))
    go_meet
    case rel => exact ⟨_, (true), Z10, H', ⟨Z20⟩, ⟨Z3⟩, ⟨Z0⟩⟩
  ·rw [if_neg c4] at H
   have cf : (aD == 3) = false := beq_eq_false_iff_ne.mpr c4
   have fd : (aD != 3) = true := bne_iff_ne.mpr c4
   (first | rw [cf] | (simp only [i64_w, i32_w]; rw [cf]) | skip)
   have H' := Aside0.mk H
   clear H
   have jy := cells_25 al.out
   go_wp2_with (first | ((with_reducible refine Pre.gate_load 25 rfl ?_); (try (refine gate_guard Z14 ?_; dsimp only)); refine Pre.load_event rfl rfl rfl Z14 Z1 Try.underlying25 rfl Z11 ?_))
   go_meet
   case rel => exact ⟨_, (true), Z10, H', ⟨Z20⟩, ⟨Z3⟩, ⟨Z0⟩⟩
 case rest =>
  clear fT
  try clear c2
  try clear gZ
  obtain ⟨kq, fQ, rfl, HA, hT, al, HB⟩ := hcut
  cases kq with
  | zero => exact absurd HA.out (by simp [rreq_Right.j0])
  | succ kj1 =>
   have H := HA.out
   clear HA
   simp only [rreq_Right.j0] at H
   by_cases hU : fQ = true
   ·subst hU
    replace H := Sq.itT H
    obtain rfl := Option.some.inj H
    go_wp2_with (first | ((with_reducible refine Pre.gate_load 25 rfl ?_); (try (refine gate_guard Z14 ?_; dsimp only)); refine Pre.load_event rfl rfl rfl Z14 Z1 Try.underlying25 rfl Z11 ?_))
    go_ret
    exact ⟨Z6, Z0⟩
   ·replace hU := Bool.eq_false_iff.mpr hU
    subst hU
    replace H := Sq.itF H
    obtain ⟨cC, hy103⟩ : ∃ y_ : List Int, y_ = (([ai, ah, aj] : List Int)) := ⟨_, rfl⟩
    replace H : (rreq_Right.l0 kj1 cC (cC.length : Int) 0 aD aw ax au aA ay av ar aC az ao am ah aj ak ae ag ai an aa ab ac ap aq af) = some r := by first | (rw [hy103]; with_reducible exact H) | (have H2_ := (Option.bind_some _ _).symm.trans H; rw [hy103]; with_reducible exact H2_) | (have H2_ := (Option.bind_some _ _).symm.trans H; with_reducible exact H2_) | with_reducible exact H | (rw [hy103]; exact H) | exact H
    have Ny103 := Aside0.mk hy103
    clear hy103
    have H' := Aside0.mk H
    clear H
    have gC := cells_25 al.out
    go_wp2_with (first | ((with_reducible refine Pre.gate_load 25 rfl ?_); (try (refine gate_guard Z14 ?_; dsimp only)); refine Pre.load_event rfl rfl rfl Z14 Z1 Try.underlying25 rfl Z11 ?_) | ((with_reducible refine gate_dst (N := 41) rfl ?_); (try (refine gate_guard Z14 ?_; dsimp only)); refine Kd.R_lit (Kd.int .i64) _ 3 ?hg (N := 41) ?hd (xs := ([ai, ah, aj] : List Int)) (inner := [.int .i64 ai, .int .i64 ah, .int .i64 aj]) (ok := fun _ => True) (okp := fun _ => True) ?hr ?hp (fun _ hk => hk) trivial (Below.refl _ _) (Nat.le_refl _) Z35 ?_; (case hd => rfl); (case hg => rfl); (case hr => first | (go_simp; done) | (go_simp; rfl)); (case hp => exact (Reps.one (show Kd.M (Kd.int .i64) _ _ _ ai [.int .i64 ai] from rfl) (Reps.one (show Kd.M (Kd.int .i64) _ _ _ ah [.int .i64 ah] from rfl) (Reps.one (show Kd.M (Kd.int .i64) _ _ _ aj [.int .i64 aj] from rfl) (Reps.none _ _))))); intro lb jT ho28 hb hg_ hnew_; clear hg_ hnew_; (first | rw [← Ny103.out] at ho28 | (simp only [Int.reduceToNat] at ho28; rw [← Ny103.out] at ho28)); have gR := Aside0.mk (Kd.R_lower ho28 (below_size Z0)); replace al := Aside0.mk (blk_below (g := aE) Z3 hb); replace HB := Aside0.mk (below_step Z0 hb); clear hb ho28; obtain ⟨od, oe, eo29⟩ := Kd.R_slice gR.out; subst eo29))
    go_loopg [43] kj1 (fun kq pi w' => ∃ (dw : Int), pi = .int .i64 dw ∧ Aside0 (rreq_Right.l0 kq cC (cC.length : Int) dw aD aw ax au aA ay av ar aC az ao am ah aj ak ae ag ai an aa ab ac ap aq af = some r) ∧ Aside0 (kq ≤ kj1) ∧ Aside0 (Kd.R (Kd.int .i64) 3 w' w.heap.size (fun _ => True) (.slice od cC.length oe) cC) ∧ Aside0 (w'.heap[aE]? = some (.cells #[.int .i64 aD, .int .i64 aw, .int .i64 ax, .string au, .int .i64 aA, .int .i64 ay, .string av, .int .i64 ar, .int .i64 aC, .string az, .int .i64 ao, .string am, .int .i64 ah, .int .i64 aj, .int .i64 ak, .int .i64 ae, .int .i64 ag, .int .i64 ai, .int .i64 an, .string aa, .string ab, (.slice aP ac.length aN), .int .i64 ap, .string aq, (.slice aJ af.length aK)] 25 (0, 0))) ∧ Aside0 (Below w.heap.size w w'))
    case atStart => exact ⟨(0), Z10, H', ⟨Nat.le_refl _⟩, ⟨Z53⟩, ⟨Z3⟩, ⟨Z0⟩⟩
    case round =>
     clear H'
     try clear c2
     try clear p2
     try clear c4
     try clear cf
     try clear fd
     try clear c6
     try clear c7
     try clear gZ
     try clear hU
     try clear hP
     try clear jy
     try clear gC
     obtain ⟨dw, rfl, HA, HK2, HO_41, al, HB⟩ := hrel
     cases gk with
     | zero => exact absurd HA.out (by simp [rreq_Right.l0])
     | succ k2 =>
      have H := HA.out
      clear HA
      simp only [rreq_Right.l0] at H
      by_cases iP : dw < (cC.length : Int)
      ·rw [if_pos iP] at H
       have nh : decide (dw < (cC.length : Int)) = true := decide_eq_true iP
       clear iP
       by_cases hm : 0 ≤ dw
       ·rw [if_pos hm] at H
        have iz : decide (0 ≤ dw) = true := decide_eq_true hm
        clear hm
        by_cases iA : dw < (cC.length : Int)
        ·rw [if_pos iA] at H
         have kC : decide (dw < (cC.length : Int)) = true := decide_eq_true iA
         clear iA
         replace H := Option.bind_eq_some_iff.mp H
         obtain ⟨bX, ni, H⟩ := H
         replace H : (if bX = true then (rreq_Right.l0 k2 cC (cC.length : Int) (wrap64 (dw + 1)) aD aw ax au aA ay av ar aC az ao am ah aj ak ae ag ai an aa ab ac ap aq af) else (some false)) = some r := H
         have oS := Aside0.mk ni
         clear ni
         by_cases iR : bX = true
         ·subst iR
          replace H := Sq.itT H
          have H' := Aside0.mk H
          clear H
          have p106 : 0 ≤ (dw : Int) := of_decide_eq_true Z8
          have q106 : dw < (cC.length : Int) := of_decide_eq_true Z8
          obtain ⟨ad106, e106, hx106_0⟩ := Kd.at_int (Kd.R_reads' HO_41.out).2.2 dw p106 q106
          cases e106
          replace p106 := eq_true p106
          replace q106 := eq_true q106
          go_wp2_with (first | ((with_reducible refine Pre.gate_load 25 rfl ?_); (try (refine gate_guard Z14 ?_; dsimp only)); refine Pre.load_event rfl rfl rfl Z14 Z1 Try.underlying25 rfl Z11 ?_) | ((with_reducible refine gate_callee (f := 54) rfl ?_); refine goesL_ (some 48) rfl rfl Try.func54 Z11 rfl #[.int .i64 (rd cC dw), .int .i64 4] rfl Z4 ?_; (with_reducible refine (octet_Fits.calls (rd cC dw) 4 true _ oS.out).mono ?_); rintro e w' ⟨rfl, ⟨nd, rfl⟩⟩; refine ⟨_, rfl, ?_⟩))
          go_roundg k2
          case measure => have := hT.out; have := HK2.out; omega
          case rel => exact ⟨(wrap64 (dw + 1)), Z10, H', ⟨by have := hT.out; have := HK2.out; omega⟩, ⟨by (with_reducible repeat (first | apply Kd.R_alloc | apply Kd.R_drewN | apply Kd.R_drew)); exact HO_41.out⟩, ⟨Z3⟩, ⟨Z0⟩⟩
         ·replace iR := Bool.eq_false_iff.mpr iR
          subst iR
          replace H := Sq.itF H
          obtain rfl := Option.some.inj H
          have p106 : 0 ≤ (dw : Int) := of_decide_eq_true Z8
          have q106 : dw < (cC.length : Int) := of_decide_eq_true Z8
          obtain ⟨ad106, e106, hx106_0⟩ := Kd.at_int (Kd.R_reads' HO_41.out).2.2 dw p106 q106
          cases e106
          replace p106 := eq_true p106
          replace q106 := eq_true q106
          go_wp2_with (first | ((with_reducible refine Pre.gate_load 25 rfl ?_); (try (refine gate_guard Z14 ?_; dsimp only)); refine Pre.load_event rfl rfl rfl Z14 Z1 Try.underlying25 rfl Z11 ?_) | ((with_reducible refine gate_callee (f := 54) rfl ?_); refine goesL_ (some 48) rfl rfl Try.func54 Z11 rfl #[.int .i64 (rd cC dw), .int .i64 4] rfl Z4 ?_; (with_reducible refine (octet_Fits.calls (rd cC dw) 4 false _ oS.out).mono ?_); rintro e w' ⟨rfl, ⟨nd, rfl⟩⟩; refine ⟨_, rfl, ?_⟩))
          go_ret
          exact ⟨Z6, Z0⟩
        ·rw [if_neg iA] at H
         exact absurd H Z35
       ·rw [if_neg hm] at H
        exact absurd H Z35
      ·rw [if_neg iP] at H
       have nh : decide (dw < (cC.length : Int)) = false := decide_eq_false iP
       clear iP
       replace H := Option.bind_eq_some_iff.mp H
       obtain ⟨aH, jC, H⟩ := H
       replace H : (if aH = true then ((ext_Right.f k2 af).bind fun aQ => (some aQ)) else (some false)) = some r := H
       have mE := Aside0.mk jC
       clear jC
       by_cases kf : aH = true
       ·subst kf
        replace H := Sq.itT H
        replace H := Option.bind_eq_some_iff.mp H
        obtain ⟨aQ, nj, H⟩ := H
        replace H : (some aQ) = some r := H
        have pj := Aside0.mk nj
        clear nj
        obtain rfl := Option.some.inj H
        have mu := cells_25 al.out
        go_wp2_with (first | ((with_reducible refine Pre.gate_load 25 rfl ?_); (try (refine gate_guard Z14 ?_; dsimp only)); refine Pre.load_event rfl rfl rfl Z14 Z1 Try.underlying25 rfl Z11 ?_) | ((with_reducible refine gate_callee (f := 54) rfl ?_); refine goesL_ (some 53) rfl rfl Try.func54 Z11 rfl #[.int .i64 ag, .int .i64 1] rfl Z4 ?_; (with_reducible refine (octet_Fits.calls ag 1 true _ mE.out).mono ?_); rintro e w' ⟨rfl, ⟨nd, rfl⟩⟩; refine ⟨_, rfl, ?_⟩) | (go_at_call 55; (with_reducible refine (ext_Right.calls k2 _ _ af aQ _ ?side1 ?side2 pj.out).mono ?_); (case side1 => exact Z60); (case side2 => exact aT.out); rintro e ke ⟨rfl, hb⟩; replace HO_41 := Aside0.mk (Kd.R_below (by (with_reducible repeat (first | apply Kd.R_alloc | apply Kd.R_drewN | apply Kd.R_drew)); exact HO_41.out) hb); replace al := Aside0.mk (blk_below (g := aE) Z3 hb); replace HB := Aside0.mk (below_step Z0 hb); clear hb))
        go_ret
        exact ⟨Z6, Z0⟩
       ·replace kf := Bool.eq_false_iff.mpr kf
        subst kf
        replace H := Sq.itF H
        obtain rfl := Option.some.inj H
        have hcz40 := cells_25 al.out
        go_wp2_with (first | ((with_reducible refine Pre.gate_load 25 rfl ?_); (try (refine gate_guard Z14 ?_; dsimp only)); refine Pre.load_event rfl rfl rfl Z14 Z1 Try.underlying25 rfl Z11 ?_) | ((with_reducible refine gate_callee (f := 54) rfl ?_); refine goesL_ (some 53) rfl rfl Try.func54 Z11 rfl #[.int .i64 ag, .int .i64 1] rfl Z4 ?_; (with_reducible refine (octet_Fits.calls ag 1 false _ mE.out).mono ?_); rintro e w' ⟨rfl, ⟨nd, rfl⟩⟩; refine ⟨_, rfl, ?_⟩))
        go_ret
        exact ⟨Z6, Z0⟩

/-! ### rreq_word: function 50 -/
def rreq_word.f (k : Nat) (a0 : Int) : Option (ByteArray) := (octet_Put.f k a0 4).bind fun bh => (some bh.1)
theorem rreq_word.mono : ∀ a0 k, LeO (rreq_word.f k a0) (rreq_word.f (k + 1) a0) := by
 intro a0 k
 unfold rreq_word.f
 have m0 := octet_Put.mono
 exact Sq.mo
set_option maxHeartbeats 8000000 in
set_option maxRecDepth 100000 in
theorem rreq_word.calls (k : Nat) (a0 : Int) (r : ByteArray) (w : World) (h : rreq_word.f k a0 = some r) :
  Calls Try.prog 50 #[.int .i64 a0] w fun e w' => e = .returned (.string r) ∧ Below w.heap.size w w' := by
 have HB := Aside0.mk (Below.refl w.heap.size w)
 have H : ((octet_Put.f k a0 4).bind fun bh => (some bh.1)) = some r := h
 clear h
 replace H := Option.bind_eq_some_iff.mp H
 obtain ⟨⟨bU, aU⟩, dL, H⟩ := H
 replace H : (some bU) = some r := H
 have A2 := Aside0.mk dL
 clear dL
 obtain rfl := Option.some.inj H
 go_enter Try.func50, Try.ntmps50
 go_wp2_with (first | ((with_reducible refine gate_callee (f := 67) rfl ?_); refine goesL_ (some 7) rfl rfl Try.func67 Z11 rfl #[.int .i64 a0, .int .i64 4] rfl Z4 ?_; (with_reducible refine (octet_Put.calls k a0 4 bU aU _ A2.out).mono ?_); rintro e w3 ⟨rfl, hb⟩; refine ⟨_, rfl, ?_⟩; replace HB := Aside0.mk (below_step Z2 hb); clear hb))
 go_ret
 exact ⟨Z6, Z2⟩

/-! ### rreq_Put: function 18 -/
def rreq_Put.f (k : Nat) (aD : Int) (aw : Int) (ax : Int) (au : ByteArray) (aA : Int) (ay : Int) (av : ByteArray) (ar : Int) (aC : Int) (az : ByteArray) (ao : Int) (am : ByteArray) (ah : Int) (aj : Int) (ak : Int) (ae : Int) (ag : Int) (ai : Int) (an : Int) (aa : ByteArray) (ab : ByteArray) (ac : List (S46)) (ap : Int) (aq : ByteArray) (af : List (S48)) : Option (ByteArray × Bool) := (rreq_Right.f k aD aw ax au aA ay av ar aC az ao am ah aj ak ae ag ai an aa ab ac ap aq af).bind fun aU => (if aU = true then ((ext_Put.f k af).bind fun bR => ((some (([1, (wrap64 (ae * 8)) % 256, 0, (ag) % 256] : List Int) : List Int)).bind fun aI => ((rreq_word.f k ai).bind fun aH => (if (strOfNums aI).size + aH.size ≤ 9223372036854775807 then (if ((strOfNums aI) ++ aH).size + aa.size ≤ 9223372036854775807 then ((rreq_word.f k ah).bind fun aQ => (if (((strOfNums aI) ++ aH) ++ aa).size + aQ.size ≤ 9223372036854775807 then (if ((((strOfNums aI) ++ aH) ++ aa) ++ aQ).size + ab.size ≤ 9223372036854775807 then ((rreq_word.f k aj).bind fun ba => (if (((((strOfNums aI) ++ aH) ++ aa) ++ aQ) ++ ab).size + ba.size ≤ 9223372036854775807 then (if ((((((strOfNums aI) ++ aH) ++ aa) ++ aQ) ++ ab) ++ ba).size + bR.1.size ≤ 9223372036854775807 then (some (((((((strOfNums aI) ++ aH) ++ aa) ++ aQ) ++ ab) ++ ba) ++ bR.1, true)) else (none)) else (none))) else (none)) else (none))) else (none)) else (none))))) else (some ((⟨#[]⟩ : ByteArray), false)))
theorem rreq_Put.mono : ∀ a0 a1 a2 a3 a4 a5 a6 a7 a8 a9 dY dZ ea eb ec ed ee ef eg eh ei ej ek el em k, LeO (rreq_Put.f k a0 a1 a2 a3 a4 a5 a6 a7 a8 a9 dY dZ ea eb ec ed ee ef eg eh ei ej ek el em) (rreq_Put.f (k + 1) a0 a1 a2 a3 a4 a5 a6 a7 a8 a9 dY dZ ea eb ec ed ee ef eg eh ei ej ek el em) := by
 intros
 rename_i k
 unfold rreq_Put.f
 have m0 := ext_Put.mono
 have m1 := rreq_Right.mono
 have m2 := rreq_word.mono
 exact Sq.mo
def rreq_Put.T5 : Bool × List (List Nat × List Nat) := (true, [([], []), ([], []), ([1], [1]), ([2], [2]), ([0, 3], [0, 3]), ([], []), ([5], [5]), ([4, 6], [4, 6]), ([], []), ([8], [8]), ([9, 3], [9]), ([7, 10], [7, 10]), ([], []), ([12], [12]), ([11, 13], [11, 13]), ([], []), ([15], [15]), ([16, 10], [16]), ([14, 17], [14, 17]), ([], []), ([18, 19], [18, 19]), ([20, 17, 0, 1, 2, 3, 4, 5, 6, 7, 8, 9, 10, 11, 12, 13, 14, 15, 16, 17, 18, 19, 20], [20]), ([21, 0, 1, 2, 3, 4, 5, 6, 7, 8, 9, 10, 11, 12, 13, 14, 15, 16, 17, 18, 19, 20, 21], [])])
def rreq_Put.B5 : List Nat := [0, 0, 2, 6, 15, 0, 32, 127, 0, 256, 782, 2047, 0, 4096, 16383, 0, 32768, 100110, 262143, 0, 1048575, 2097151, 4194303]
theorem rreq_Put.tab5 : rtab .any (opsOf Try.f18 5) = rreq_Put.T5 := by kernel_rfl
theorem rreq_Put.bits5 : waitsOk rreq_Put.T5.2 rreq_Put.B5 = true := by kernel_rfl

set_option maxHeartbeats 8000000 in
set_option maxRecDepth 100000 in
theorem rreq_Put.calls (k : Nat) (aD : Int) (aw : Int) (ax : Int) (au : ByteArray) (aA : Int) (ay : Int) (av : ByteArray) (ar : Int) (aC : Int) (az : ByteArray) (ao : Int) (am : ByteArray) (ah : Int) (aj : Int) (ak : Int) (ae : Int) (ag : Int) (ai : Int) (an : Int) (aa : ByteArray) (ab : ByteArray) (aP : Option Addr) (aN : Nat) (ac : List (S46)) (ap : Int) (aq : ByteArray) (aJ : Option Addr) (aK : Nat) (af : List (S48)) (r1 : ByteArray) (r2 : Bool) (w : World) (bk : Kd.C k46 w aP ac.length ac) (bl : ac.length ≤ aN) (bm : Kd.C k48 w aJ af.length af) (bn : af.length ≤ aK) (h : rreq_Put.f k aD aw ax au aA ay av ar aC az ao am ah aj ak ae ag ai an aa ab ac ap aq af = some (r1, r2)) :
  Calls Try.prog 18 #[.agg #[.int .i64 aD, .int .i64 aw, .int .i64 ax, .string au, .int .i64 aA, .int .i64 ay, .string av, .int .i64 ar, .int .i64 aC, .string az, .int .i64 ao, .string am, .int .i64 ah, .int .i64 aj, .int .i64 ak, .int .i64 ae, .int .i64 ag, .int .i64 ai, .int .i64 an, .string aa, .string ab, .slice aP ac.length aN, .int .i64 ap, .string aq, .slice aJ af.length aK]] w fun e w' => e = .returned (.tuple #[.string r1, .bool r2]) ∧ Below w.heap.size w w' := by
 have dM := Try.underlying25
 have cc := Aside0.mk bk
 have aZ := Aside0.mk bl
 clear bk bl
 have bZ := Aside0.mk bm
 have aT := Aside0.mk bn
 clear bm bn
 have HB := Aside0.mk (Below.refl w.heap.size w)
 have H : ((rreq_Right.f k aD aw ax au aA ay av ar aC az ao am ah aj ak ae ag ai an aa ab ac ap aq af).bind fun aU => (if aU = true then ((ext_Put.f k af).bind fun bR => ((some (([1, (wrap64 (ae * 8)) % 256, 0, (ag) % 256] : List Int) : List Int)).bind fun aI => ((rreq_word.f k ai).bind fun aH => (if (strOfNums aI).size + aH.size ≤ 9223372036854775807 then (if ((strOfNums aI) ++ aH).size + aa.size ≤ 9223372036854775807 then ((rreq_word.f k ah).bind fun aQ => (if (((strOfNums aI) ++ aH) ++ aa).size + aQ.size ≤ 9223372036854775807 then (if ((((strOfNums aI) ++ aH) ++ aa) ++ aQ).size + ab.size ≤ 9223372036854775807 then ((rreq_word.f k aj).bind fun ba => (if (((((strOfNums aI) ++ aH) ++ aa) ++ aQ) ++ ab).size + ba.size ≤ 9223372036854775807 then (if ((((((strOfNums aI) ++ aH) ++ aa) ++ aQ) ++ ab) ++ ba).size + bR.1.size ≤ 9223372036854775807 then (some (((((((strOfNums aI) ++ aH) ++ aa) ++ aQ) ++ ab) ++ ba) ++ bR.1, true)) else (none)) else (none))) else (none)) else (none))) else (none)) else (none))))) else (some ((⟨#[]⟩ : ByteArray), false)))) = some (r1, r2) := h
 clear h
 replace H := Option.bind_eq_some_iff.mp H
 obtain ⟨aU, dL, H⟩ := H
 replace H : (if aU = true then ((ext_Put.f k af).bind fun bR => ((some (([1, (wrap64 (ae * 8)) % 256, 0, (ag) % 256] : List Int) : List Int)).bind fun aI => ((rreq_word.f k ai).bind fun aH => (if (strOfNums aI).size + aH.size ≤ 9223372036854775807 then (if ((strOfNums aI) ++ aH).size + aa.size ≤ 9223372036854775807 then ((rreq_word.f k ah).bind fun aQ => (if (((strOfNums aI) ++ aH) ++ aa).size + aQ.size ≤ 9223372036854775807 then (if ((((strOfNums aI) ++ aH) ++ aa) ++ aQ).size + ab.size ≤ 9223372036854775807 then ((rreq_word.f k aj).bind fun ba => (if (((((strOfNums aI) ++ aH) ++ aa) ++ aQ) ++ ab).size + ba.size ≤ 9223372036854775807 then (if ((((((strOfNums aI) ++ aH) ++ aa) ++ aQ) ++ ab) ++ ba).size + bR.1.size ≤ 9223372036854775807 then (some (((((((strOfNums aI) ++ aH) ++ aa) ++ aQ) ++ ab) ++ ba) ++ bR.1, true)) else (none)) else (none))) else (none)) else (none))) else (none)) else (none))))) else (some ((⟨#[]⟩ : ByteArray), false))) = some (r1, r2) := H
 have A2 := Aside0.mk dL
 clear dL
 by_cases c3 : aU = true
 ·subst c3
  have H1 : ((ext_Put.f k af).bind fun bR => ((some (([1, (wrap64 (ae * 8)) % 256, 0, (ag) % 256] : List Int) : List Int)).bind fun aI => ((rreq_word.f k ai).bind fun aH => (if (strOfNums aI).size + aH.size ≤ 9223372036854775807 then (if ((strOfNums aI) ++ aH).size + aa.size ≤ 9223372036854775807 then ((rreq_word.f k ah).bind fun aQ => (if (((strOfNums aI) ++ aH) ++ aa).size + aQ.size ≤ 9223372036854775807 then (if ((((strOfNums aI) ++ aH) ++ aa) ++ aQ).size + ab.size ≤ 9223372036854775807 then ((rreq_word.f k aj).bind fun ba => (if (((((strOfNums aI) ++ aH) ++ aa) ++ aQ) ++ ab).size + ba.size ≤ 9223372036854775807 then (if ((((((strOfNums aI) ++ aH) ++ aa) ++ aQ) ++ ab) ++ ba).size + bR.1.size ≤ 9223372036854775807 then (some (((((((strOfNums aI) ++ aH) ++ aa) ++ aQ) ++ ab) ++ ba) ++ bR.1, true)) else (none)) else (none))) else (none)) else (none))) else (none)) else (none))))) = some (r1, r2) := by rw [if_pos rfl] at H; exact H
  clear H
  have H := H1
  clear H1
  replace H := Option.bind_eq_some_iff.mp H
  obtain ⟨⟨aY, bg⟩, gl, H⟩ := H
  replace H : ((some (([1, (wrap64 (ae * 8)) % 256, 0, (ag) % 256] : List Int) : List Int)).bind fun aI => ((rreq_word.f k ai).bind fun aH => (if (strOfNums aI).size + aH.size ≤ 9223372036854775807 then (if ((strOfNums aI) ++ aH).size + aa.size ≤ 9223372036854775807 then ((rreq_word.f k ah).bind fun aQ => (if (((strOfNums aI) ++ aH) ++ aa).size + aQ.size ≤ 9223372036854775807 then (if ((((strOfNums aI) ++ aH) ++ aa) ++ aQ).size + ab.size ≤ 9223372036854775807 then ((rreq_word.f k aj).bind fun ba => (if (((((strOfNums aI) ++ aH) ++ aa) ++ aQ) ++ ab).size + ba.size ≤ 9223372036854775807 then (if ((((((strOfNums aI) ++ aH) ++ aa) ++ aQ) ++ ab) ++ ba).size + aY.size ≤ 9223372036854775807 then (some (((((((strOfNums aI) ++ aH) ++ aa) ++ aQ) ++ ab) ++ ba) ++ aY, true)) else (none)) else (none))) else (none)) else (none))) else (none)) else (none)))) = some (r1, r2) := H
  have A4 := Aside0.mk gl
  clear gl
  obtain ⟨aI, hy105⟩ : ∃ y_ : List Int, y_ = (([1, (wrap64 (ae * 8)) % 256, 0, (ag) % 256] : List Int)) := ⟨_, rfl⟩
  replace H : ((rreq_word.f k ai).bind fun aH => (if (strOfNums aI).size + aH.size ≤ 9223372036854775807 then (if ((strOfNums aI) ++ aH).size + aa.size ≤ 9223372036854775807 then ((rreq_word.f k ah).bind fun aQ => (if (((strOfNums aI) ++ aH) ++ aa).size + aQ.size ≤ 9223372036854775807 then (if ((((strOfNums aI) ++ aH) ++ aa) ++ aQ).size + ab.size ≤ 9223372036854775807 then ((rreq_word.f k aj).bind fun ba => (if (((((strOfNums aI) ++ aH) ++ aa) ++ aQ) ++ ab).size + ba.size ≤ 9223372036854775807 then (if ((((((strOfNums aI) ++ aH) ++ aa) ++ aQ) ++ ab) ++ ba).size + aY.size ≤ 9223372036854775807 then (some (((((((strOfNums aI) ++ aH) ++ aa) ++ aQ) ++ ab) ++ ba) ++ aY, true)) else (none)) else (none))) else (none)) else (none))) else (none)) else (none))) = some (r1, r2) := by first | (rw [hy105]; with_reducible exact H) | (have H2_ := (Option.bind_some _ _).symm.trans H; rw [hy105]; with_reducible exact H2_) | (have H2_ := (Option.bind_some _ _).symm.trans H; with_reducible exact H2_) | with_reducible exact H | (rw [hy105]; exact H) | exact H
  have Ny105 := Aside0.mk hy105
  clear hy105
  replace H := Option.bind_eq_some_iff.mp H
  obtain ⟨aH, iy, H⟩ := H
  replace H : (if (strOfNums aI).size + aH.size ≤ 9223372036854775807 then (if ((strOfNums aI) ++ aH).size + aa.size ≤ 9223372036854775807 then ((rreq_word.f k ah).bind fun aQ => (if (((strOfNums aI) ++ aH) ++ aa).size + aQ.size ≤ 9223372036854775807 then (if ((((strOfNums aI) ++ aH) ++ aa) ++ aQ).size + ab.size ≤ 9223372036854775807 then ((rreq_word.f k aj).bind fun ba => (if (((((strOfNums aI) ++ aH) ++ aa) ++ aQ) ++ ab).size + ba.size ≤ 9223372036854775807 then (if ((((((strOfNums aI) ++ aH) ++ aa) ++ aQ) ++ ab) ++ ba).size + aY.size ≤ 9223372036854775807 then (some (((((((strOfNums aI) ++ aH) ++ aa) ++ aQ) ++ ab) ++ ba) ++ aY, true)) else (none)) else (none))) else (none)) else (none))) else (none)) else (none)) = some (r1, r2) := H
  have A5 := Aside0.mk iy
  clear iy
  by_cases c6 : (strOfNums aI).size + aH.size ≤ 9223372036854775807
  ·rw [if_pos c6] at H
   have dW := eq_true c6
   have ft : decide ((strOfNums aI).size + aH.size ≤ 9223372036854775807) = true := decide_eq_true c6
   try have ha : (9223372036854775807 < (strOfNums aI).size + aH.size) = False := eq_false (Nat.not_lt.2 c6)
   try (have hf := ha; simp only [ByteArray.size_append] at hf)
   by_cases c7 : ((strOfNums aI) ++ aH).size + aa.size ≤ 9223372036854775807
   ·rw [if_pos c7] at H
    have dT := eq_true c7
    have hu : decide (((strOfNums aI) ++ aH).size + aa.size ≤ 9223372036854775807) = true := decide_eq_true c7
    try have jb : (9223372036854775807 < ((strOfNums aI) ++ aH).size + aa.size) = False := eq_false (Nat.not_lt.2 c7)
    try (have jc := jb; simp only [ByteArray.size_append] at jc)
    replace H := Option.bind_eq_some_iff.mp H
    obtain ⟨aQ, kw, H⟩ := H
    replace H : (if (((strOfNums aI) ++ aH) ++ aa).size + aQ.size ≤ 9223372036854775807 then (if ((((strOfNums aI) ++ aH) ++ aa) ++ aQ).size + ab.size ≤ 9223372036854775807 then ((rreq_word.f k aj).bind fun ba => (if (((((strOfNums aI) ++ aH) ++ aa) ++ aQ) ++ ab).size + ba.size ≤ 9223372036854775807 then (if ((((((strOfNums aI) ++ aH) ++ aa) ++ aQ) ++ ab) ++ ba).size + aY.size ≤ 9223372036854775807 then (some (((((((strOfNums aI) ++ aH) ++ aa) ++ aQ) ++ ab) ++ ba) ++ aY, true)) else (none)) else (none))) else (none)) else (none)) = some (r1, r2) := H
    have A8 := Aside0.mk kw
    clear kw
    by_cases c9 : (((strOfNums aI) ++ aH) ++ aa).size + aQ.size ≤ 9223372036854775807
    ·rw [if_pos c9] at H
     have ga := eq_true c9
     have gG : decide ((((strOfNums aI) ++ aH) ++ aa).size + aQ.size ≤ 9223372036854775807) = true := decide_eq_true c9
     try have jz : (9223372036854775807 < (((strOfNums aI) ++ aH) ++ aa).size + aQ.size) = False := eq_false (Nat.not_lt.2 c9)
     try (have mA := jz; simp only [ByteArray.size_append] at mA)
     by_cases dv : ((((strOfNums aI) ++ aH) ++ aa) ++ aQ).size + ab.size ≤ 9223372036854775807
     ·rw [if_pos dv] at H
      have eS := eq_true dv
      have gn : decide (((((strOfNums aI) ++ aH) ++ aa) ++ aQ).size + ab.size ≤ 9223372036854775807) = true := decide_eq_true dv
      try have jd : (9223372036854775807 < ((((strOfNums aI) ++ aH) ++ aa) ++ aQ).size + ab.size) = False := eq_false (Nat.not_lt.2 dv)
      try (have je := jd; simp only [ByteArray.size_append] at je)
      replace H := Option.bind_eq_some_iff.mp H
      obtain ⟨ba, gh, H⟩ := H
      replace H : (if (((((strOfNums aI) ++ aH) ++ aa) ++ aQ) ++ ab).size + ba.size ≤ 9223372036854775807 then (if ((((((strOfNums aI) ++ aH) ++ aa) ++ aQ) ++ ab) ++ ba).size + aY.size ≤ 9223372036854775807 then (some (((((((strOfNums aI) ++ aH) ++ aa) ++ aQ) ++ ab) ++ ba) ++ aY, true)) else (none)) else (none)) = some (r1, r2) := H
      have iY := Aside0.mk gh
      clear gh
      by_cases dP : (((((strOfNums aI) ++ aH) ++ aa) ++ aQ) ++ ab).size + ba.size ≤ 9223372036854775807
      ·rw [if_pos dP] at H
       have gB := eq_true dP
       have c12b1 : decide ((((((strOfNums aI) ++ aH) ++ aa) ++ aQ) ++ ab).size + ba.size ≤ 9223372036854775807) = true := decide_eq_true dP
       try have nk : (9223372036854775807 < (((((strOfNums aI) ++ aH) ++ aa) ++ aQ) ++ ab).size + ba.size) = False := eq_false (Nat.not_lt.2 dP)
       try (have nm := nk; simp only [ByteArray.size_append] at nm)
       by_cases dB : ((((((strOfNums aI) ++ aH) ++ aa) ++ aQ) ++ ab) ++ ba).size + aY.size ≤ 9223372036854775807
       ·rw [if_pos dB] at H
        have fK := eq_true dB
        have gN : decide (((((((strOfNums aI) ++ aH) ++ aa) ++ aQ) ++ ab) ++ ba).size + aY.size ≤ 9223372036854775807) = true := decide_eq_true dB
        try have hF : (9223372036854775807 < ((((((strOfNums aI) ++ aH) ++ aa) ++ aQ) ++ ab) ++ ba).size + aY.size) = False := eq_false (Nat.not_lt.2 dB)
        try (have hG := hF; simp only [ByteArray.size_append] at hG)
        simp only [Option.some.injEq, Prod.mk.injEq] at H
        obtain ⟨rfl, rfl⟩ := H
        go_enter Try.func18, Try.ntmps18
        try go_wp2_with (first | ((with_reducible refine Pre.gate_load 25 rfl ?_); (try (refine gate_guard Z14 ?_; dsimp only)); refine Pre.load_event rfl rfl rfl Z14 Z1 Try.underlying25 rfl Z11 ?_) | ((with_reducible refine gate_dst (N := 1) rfl ?_); refine Sq.box 1 #[.int .i64 aD, .int .i64 aw, .int .i64 ax, .string au, .int .i64 aA, .int .i64 ay, .string av, .int .i64 ar, .int .i64 aC, .string az, .int .i64 ao, .string am, .int .i64 ah, .int .i64 aj, .int .i64 ak, .int .i64 ae, .int .i64 ag, .int .i64 ai, .int .i64 an, .string aa, .string ab, .slice aP ac.length aN, .int .i64 ap, .string aq, .slice aJ af.length aK] 25 ?_; intro aE hg kJ hbox hb; have al := Aside0.mk (hbox); have cd := Aside0.mk (Sq.ge hg Z2); have bV := Aside0.mk (Sq.ge hg Z2); replace HB := Aside0.mk (below_step Z2 hb); clear hb hbox hg; have md := cells_25 al.out) | ((with_reducible refine gate_callee (f := 20) rfl ?_); refine goesL_ (some 8) rfl rfl Try.func20 Z11 rfl #[.agg #[.int .i64 aD, .int .i64 aw, .int .i64 ax, .string au, .int .i64 aA, .int .i64 ay, .string av, .int .i64 ar, .int .i64 aC, .string az, .int .i64 ao, .string am, .int .i64 ah, .int .i64 aj, .int .i64 ak, .int .i64 ae, .int .i64 ag, .int .i64 ai, .int .i64 an, .string aa, .string ab, .slice aP ac.length aN, .int .i64 ap, .string aq, .slice aJ af.length aK]] rfl Z4 ?_; (with_reducible refine (rreq_Right.calls k aD aw ax au aA ay av ar aC az ao am ah aj ak ae ag ai an aa ab _ _ ac ap aq _ _ af true _ ?side1 ?side2 ?side3 ?side4 A2.out).mono ?_); (case side1 => exact Z7); (case side2 => exact aZ.out); (case side3 => exact Z5); (case side4 => exact aT.out); rintro e kp ⟨rfl, hb⟩; refine ⟨_, rfl, ?_⟩; replace al := Aside0.mk (blk_below (g := aE) Z3 hb); replace HB := Aside0.mk (below_step Z0 hb); clear hb; have kF := cells_25 al.out) | ((with_reducible refine gate_callee (f := 49) rfl ?_); refine goesL_ (some 13) rfl rfl Try.func49 Z11 rfl #[.slice aJ af.length aK] rfl Z4 ?_; (with_reducible refine (ext_Put.calls k _ _ af aY bg _ ?side1 ?side2 A4.out).mono ?_); (case side1 => exact Z5); (case side2 => exact aT.out); rintro e np ⟨rfl, hb⟩; refine ⟨_, rfl, ?_⟩; replace al := Aside0.mk (blk_below (g := aE) Z3 hb); replace HB := Aside0.mk (below_step Z0 hb); clear hb; have ig := cells_25 al.out) | ((with_reducible refine gate_dst (N := 23) rfl ?_); refine Kd.R_lit (Kd.int .u8) _ 5 ?hg (N := 23) ?hd (xs := ([1, (wrap64 (ae * 8)) % 256, 0, (ag) % 256] : List Int)) (inner := [.int .u8 1, .int .u8 ((wrap64 (ae * 8)) % 256), .int .u8 0, .int .u8 ((ag) % 256)]) (ok := fun _ => True) (okp := fun _ => True) ?hr ?hp (fun _ hk => hk) trivial (Below.refl _ _) (Nat.le_refl _) Z35 ?_; (case hd => rfl); (case hg => rfl); (case hr => first | (go_simp; done) | (go_simp; rfl)); (case hp => exact (Reps.one (show Kd.M (Kd.int .u8) _ _ _ 1 [.int .u8 1] from rfl) (Reps.one (show Kd.M (Kd.int .u8) _ _ _ ((wrap64 (ae * 8)) % 256) [.int .u8 ((wrap64 (ae * 8)) % 256)] from rfl) (Reps.one (show Kd.M (Kd.int .u8) _ _ _ 0 [.int .u8 0] from rfl) (Reps.one (show Kd.M (Kd.int .u8) _ _ _ ((ag) % 256) [.int .u8 ((ag) % 256)] from rfl) (Reps.none _ _)))))); intro ct iM ho21 hb hg_ hnew_; clear hg_ hnew_; (first | rw [← Ny105.out] at ho21 | (simp only [Int.reduceToNat] at ho21; rw [← Ny105.out] at ho21)); have bS := Aside0.mk (Kd.R_lower ho21 (below_size Z0)); replace al := Aside0.mk (blk_below (g := aE) Z3 hb); replace HB := Aside0.mk (below_step Z0 hb); clear hb ho21; have hcv22 := own_string (P := Try.prog) Try.underlying51 Try.underlying5 Try.underlying9 (Kd.own_of_R bS.out)))
        have bi := Aside0.mk (Kd.R_drew bS.out)
        have bp := Aside0.mk (blk_drew al.out)
        have bT := Aside0.mk (below_drew1 HB.out)
        clear bS
        clear al
        clear HB
        have bS := bi
        have al := bp
        have HB := bT
        clear bi bp bT
        refine start_ (n := 23) (S := fun w' => w'.cell? ⟨aE, 12, none⟩ = some (.int .i64 ah) ∧ w'.cell? ⟨aE, 13, none⟩ = some (.int .i64 aj) ∧ w'.cell? ⟨aE, 17, none⟩ = some (.int .i64 ai) ∧ w'.cell? ⟨aE, 19, none⟩ = some (.string aa) ∧ w'.cell? ⟨aE, 20, none⟩ = some (.string ab)) (ds := []) (Sq.b 23 0) Z11 rfl rfl ⟨Sq.bc al 12, Sq.bc al 13, Sq.bc al 17, Sq.bc al 19, Sq.bc al 20⟩ (fun hHeld => ?_); refine with_tabW rreq_Put.tab5 rreq_Put.bits5 (fun HT_ HW_ => ?_)
        generalize iM.drew = gW at bS al HB hHeld ⊢
        refine Sq.pur 0 (some 25) (Sq.b 23 1) HT_.out ?_
        refine Sq.pur 1 (some 26) (Sq.b 23 3) HT_.out ?_
        refine Sq.pur 5 (some 30) (Sq.b 23 35) HT_.out ?_
        refine Sq.pur 8 (some 33) (Sq.b 23 291) HT_.out ?_
        refine Sq.pur 12 (some 37) (Sq.b 23 4387) HT_.out ?_
        refine Sq.pur 15 (some 40) (Sq.b 23 37155) HT_.out ?_
        refine Sq.pur 19 (some 44) (Sq.b 23 561443) HT_.out ?_
        refine Sq.tak 2 (some 27) (Sq.b 23 561447) HT_.out HW_.out hHeld (v := ?_) (a' := ?_) ?_ ?_ ?_
        rotate_left
        ·rintro w' ⟨s0, s1, s2, s3, s4⟩
         go_simp
         with_reducible rfl
        rotate_left
        ·simp only [Act.put, Sq.s1, Sq.s2, Sq.s3, i64_w, i32_w]
         rfl
        refine Sq.tak 6 (some 31) (Sq.b 23 561511) HT_.out HW_.out hHeld (v := ?_) (a' := ?_) ?_ ?_ ?_
        rotate_left
        ·rintro w' ⟨s0, s1, s2, s3, s4⟩
         go_simp
         with_reducible rfl
        rotate_left
        ·simp only [Act.put, Sq.s1, Sq.s2, Sq.s3, i64_w, i32_w]
         rfl
        refine Sq.tak 9 (some 34) (Sq.b 23 562023) HT_.out HW_.out hHeld (v := ?_) (a' := ?_) ?_ ?_ ?_
        rotate_left
        ·rintro w' ⟨s0, s1, s2, s3, s4⟩
         go_simp
         with_reducible rfl
        rotate_left
        ·simp only [Act.put, Sq.s1, Sq.s2, Sq.s3, i64_w, i32_w]
         rfl
        refine Sq.tak 13 (some 38) (Sq.b 23 570215) HT_.out HW_.out hHeld (v := ?_) (a' := ?_) ?_ ?_ ?_
        rotate_left
        ·rintro w' ⟨s0, s1, s2, s3, s4⟩
         go_simp
         with_reducible rfl
        rotate_left
        ·simp only [Act.put, Sq.s1, Sq.s2, Sq.s3, i64_w, i32_w]
         rfl
        refine Sq.tak 16 (some 41) (Sq.b 23 635751) HT_.out HW_.out hHeld (v := ?_) (a' := ?_) ?_ ?_ ?_
        rotate_left
        ·rintro w' ⟨s0, s1, s2, s3, s4⟩
         go_simp
         with_reducible rfl
        rotate_left
        ·simp only [Act.put, Sq.s1, Sq.s2, Sq.s3, i64_w, i32_w]
         rfl
        refine one_ (i := 3) (N := some 28) (Sq.b 23 635759) rfl rfl (one_of HT_.out Z11) Z21 (fun K hK => ?_)
        refine goes_ Try.func50 Z11 rfl #[.int .i64 ai] Z14 rfl rfl Z4 ?_
        with_reducible refine (rreq_word.calls k ai aH _ A5.out).mono ?_
        rintro e gJ ⟨rfl, hb⟩
        refine ⟨_, rfl, ?_⟩
        have bi := Aside0.mk (Kd.R_below Z12 hb)
        have bp := Aside0.mk (blk_below (g := aE) Z3 hb)
        have bT := Aside0.mk (below_step Z0 hb)
        clear bS
        clear al
        clear HB
        have bS := bi
        have al := bp
        have HB := bT
        clear bi bp bT
        (try clear hb)
        (try clear hb2)
        (try clear hk)
        (try clear hi)
        refine hK.out _ _ ⟨Sq.bc al 12, Sq.bc al 13, Sq.bc al 17, Sq.bc al 19, Sq.bc al 20⟩ (fun hHeld => ?_)
        clear hK K
        refine norm_ (a' := ?_) ?_ ?_
        rotate_left
        ·show Act.put _ (some 28) _ = _
         simp only [Act.put, Sq.s1, Sq.s2, Sq.s3, i64_w, i32_w]
         rfl
        refine Sq.pur 4 (some 29) (Sq.b 23 635775) HT_.out ?_
        refine Sq.pur 7 (some 32) (Sq.b 23 635903) HT_.out ?_
        refine one_ (i := 10) (N := some 35) (Sq.b 23 636927) rfl rfl (one_of HT_.out Z11) Z21 (fun K hK => ?_)
        refine goes_ Try.func50 Z11 rfl #[.int .i64 ah] Z14 rfl rfl Z4 ?_
        with_reducible refine (rreq_word.calls k ah aQ _ A8.out).mono ?_
        rintro e hX ⟨rfl, hb⟩
        refine ⟨_, rfl, ?_⟩
        have bi := Aside0.mk (Kd.R_below Z12 hb)
        have bp := Aside0.mk (blk_below (g := aE) Z3 hb)
        have bT := Aside0.mk (below_step Z0 hb)
        clear bS
        clear al
        clear HB
        have bS := bi
        have al := bp
        have HB := bT
        clear bi bp bT
        (try clear hb)
        (try clear hb2)
        (try clear hk)
        (try clear hi)
        refine hK.out _ _ ⟨Sq.bc al 12, Sq.bc al 13, Sq.bc al 17, Sq.bc al 19, Sq.bc al 20⟩ (fun hHeld => ?_)
        clear hK K
        refine norm_ (a' := ?_) ?_ ?_
        rotate_left
        ·show Act.put _ (some 35) _ = _
         simp only [Act.put, Sq.s1, Sq.s2, Sq.s3, i64_w, i32_w]
         rfl
        refine Sq.pur 11 (some 36) (Sq.b 23 638975) HT_.out ?_
        refine Sq.pur 14 (some 39) (Sq.b 23 655359) HT_.out ?_
        refine one_ (i := 17) (N := some 42) (Sq.b 23 786431) rfl rfl (one_of HT_.out Z11) Z21 (fun K hK => ?_)
        refine goes_ Try.func50 Z11 rfl #[.int .i64 aj] Z14 rfl rfl Z4 ?_
        with_reducible refine (rreq_word.calls k aj ba _ iY.out).mono ?_
        rintro e iH ⟨rfl, hb⟩
        refine ⟨_, rfl, ?_⟩
        have bi := Aside0.mk (Kd.R_below Z12 hb)
        have bp := Aside0.mk (blk_below (g := aE) Z3 hb)
        have bT := Aside0.mk (below_step Z0 hb)
        clear bS
        clear al
        clear HB
        have bS := bi
        have al := bp
        have HB := bT
        clear bi bp bT
        (try clear hb)
        (try clear hb2)
        (try clear hk)
        (try clear hi)
        refine hK.out _ _ ⟨Sq.bc al 12, Sq.bc al 13, Sq.bc al 17, Sq.bc al 19, Sq.bc al 20⟩ (fun hHeld => ?_)
        clear hK K
        refine norm_ (a' := ?_) ?_ ?_
        rotate_left
        ·show Act.put _ (some 42) _ = _
         simp only [Act.put, Sq.s1, Sq.s2, Sq.s3, i64_w, i32_w]
         rfl
        refine Sq.pur 18 (some 43) (Sq.b 23 1048575) HT_.out ?_
        refine Sq.pur 20 (some 45) (Sq.b 23 2097151) HT_.out ?_
        refine Sq.pur 21 (some 2) (Sq.b 23 4194303) HT_.out ?_
        refine Sq.pur 22 (some 3) (Sq.b 23 8388607) HT_.out ?_
        refine done_ (done_of HT_.out Z11) ?_
        try go_wp2_with (first | ((with_reducible refine Pre.gate_load 25 rfl ?_); (try (refine gate_guard Z14 ?_; dsimp only)); refine Pre.load_event rfl rfl rfl Z14 Z1 Try.underlying25 rfl Z11 ?_))
        go_ret2
        exact ⟨Z6, Z0⟩
       ·rw [if_neg dB] at H
        exact absurd H Z35
      ·rw [if_neg dP] at H
       exact absurd H Z35
     ·rw [if_neg dv] at H
      exact absurd H Z35
    ·rw [if_neg c9] at H
     exact absurd H Z35
   ·rw [if_neg c7] at H
    exact absurd H Z35
  ·rw [if_neg c6] at H
   exact absurd H Z35
 ·replace c3 := Bool.eq_false_iff.mpr c3
  subst c3
  have H1 : (some ((⟨#[]⟩ : ByteArray), false)) = some (r1, r2) := by rw [if_neg (show ¬ (false = true) by decide)] at H; exact H
  clear H
  have H := H1
  clear H1
  simp only [Option.some.injEq, Prod.mk.injEq] at H
  obtain ⟨rfl, rfl⟩ := H
  go_enter Try.func18, Try.ntmps18
  go_wp2_with (first | ((with_reducible refine Pre.gate_load 25 rfl ?_); (try (refine gate_guard Z14 ?_; dsimp only)); refine Pre.load_event rfl rfl rfl Z14 Z1 Try.underlying25 rfl Z11 ?_) | ((with_reducible refine gate_dst (N := 1) rfl ?_); refine Sq.box 1 #[.int .i64 aD, .int .i64 aw, .int .i64 ax, .string au, .int .i64 aA, .int .i64 ay, .string av, .int .i64 ar, .int .i64 aC, .string az, .int .i64 ao, .string am, .int .i64 ah, .int .i64 aj, .int .i64 ak, .int .i64 ae, .int .i64 ag, .int .i64 ai, .int .i64 an, .string aa, .string ab, .slice aP ac.length aN, .int .i64 ap, .string aq, .slice aJ af.length aK] 25 ?_; intro aE hg jT hbox hb; have al := Aside0.mk (hbox); have cd := Aside0.mk (Sq.ge hg Z2); have bV := Aside0.mk (Sq.ge hg Z2); replace HB := Aside0.mk (below_step Z2 hb); clear hb hbox hg; have ir := cells_25 al.out) | ((with_reducible refine gate_callee (f := 20) rfl ?_); refine goesL_ (some 8) rfl rfl Try.func20 Z11 rfl #[.agg #[.int .i64 aD, .int .i64 aw, .int .i64 ax, .string au, .int .i64 aA, .int .i64 ay, .string av, .int .i64 ar, .int .i64 aC, .string az, .int .i64 ao, .string am, .int .i64 ah, .int .i64 aj, .int .i64 ak, .int .i64 ae, .int .i64 ag, .int .i64 ai, .int .i64 an, .string aa, .string ab, .slice aP ac.length aN, .int .i64 ap, .string aq, .slice aJ af.length aK]] rfl Z4 ?_; (with_reducible refine (rreq_Right.calls k aD aw ax au aA ay av ar aC az ao am ah aj ak ae ag ai an aa ab _ _ ac ap aq _ _ af false _ ?side1 ?side2 ?side3 ?side4 A2.out).mono ?_); (case side1 => exact Z7); (case side2 => exact aZ.out); (case side3 => exact Z5); (case side4 => exact aT.out); rintro e nt ⟨rfl, hb⟩; refine ⟨_, rfl, ?_⟩; replace al := Aside0.mk (blk_below (g := aE) Z3 hb); replace HB := Aside0.mk (below_step Z0 hb); clear hb))
  go_ret2
  exact ⟨Z6, Z0⟩

end Go.Proofs.Ytccjakjjaemmkaa.PAE
