-- Written by mp.py, a program of this work (wip/tools), out of the translation; Lean checks it.
import Derived.Test.YtccjakjjaemmkaaPAExZ
import Derived.Test.YtccjakjjaemmkaaPAExmsgBare
import Derived.Test.YtccjakjjaemmkaaPAExoctet
import Derived.Test.YtccjakjjaemmkaaLoad
namespace Go.Proofs.Ytccjakjjaemmkaa.PAE
open Go.RowKit Go.Proofs.YtccjakjjaemmkaaW.PrintWords Go.Proofs.YtccjakjjaemmkaaW.PrintLast Go.Proofs.YtccjakjjaemmkaaW.PrintMore
attribute [local go_sem] max2_int min2_int max_two min_two max_three min_three max_four min_four   -- for this text's walks alone
set_option linter.unusedVariables false
set_option linter.unusedSimpArgs false

/-! ### rerr_Right: function 28 -/
mutual
def rerr_Right.j0 : Nat → Bool → Int → Int → Int → ByteArray → Int → Int → ByteArray → Int → Int → ByteArray → Int → ByteArray → Int → Int → Int → Int → Int → Int → Int → ByteArray → ByteArray → List (S46) → Int → ByteArray → List (S48) → Option (Bool)
 | 0, _, _, _, _, _, _, _, _, _, _, _, _, _, _, _, _, _, _, _, _, _, _, _, _, _, _ => none
 | k + 1, nQ, bq, bI, bJ, bK, bL, bM, bN, br, bO, bP, bQ, bD, bs, bA, bv, bo, bu, bB, bE, bw, bx, bf, bF, bG, bj => if nQ = true then (some false) else (rerr_Right.l0 k bf (bf.length : Int) 0 bq bI bJ bK bL bM bN br bO bP bQ bD bs bA bv bo bu bB bE bw bx bf bF bG bj)
def rerr_Right.l0 : Nat → List (S46) → Int → Int → Int → Int → Int → ByteArray → Int → Int → ByteArray → Int → Int → ByteArray → Int → ByteArray → Int → Int → Int → Int → Int → Int → Int → ByteArray → ByteArray → List (S46) → Int → ByteArray → List (S48) → Option (Bool)
 | 0, _, _, _, _, _, _, _, _, _, _, _, _, _, _, _, _, _, _, _, _, _, _, _, _, _, _, _, _ => none
 | k + 1, ns, oO, lp, bq, bI, bJ, bK, bL, bM, bN, br, bO, bP, bQ, bD, bs, bA, bv, bo, bu, bB, bE, bw, bx, bf, bF, bG, bj => if lp < oO then (if 0 ≤ lp then (if lp < (ns.length : Int) then (if (((rd_T46 ns lp).f0).size : Int) = 4 then ((octet_Fits.f ((rd_T46 ns lp).f1) 4).bind fun bH => (if bH = true then (rerr_Right.l0 k ns oO (wrap64 (lp + 1)) bq bI bJ bK bL bM bN br bO bP bQ bD bs bA bv bo bu bB bE bw bx bf bF bG bj) else (some false))) else (some false)) else (none)) else (none)) else ((ext_Right.f k bj).bind fun aW => (some aW))
end
def rerr_Right.f (k : Nat) (aD : Int) (aw : Int) (ax : Int) (au : ByteArray) (aA : Int) (ay : Int) (av : ByteArray) (ar : Int) (aC : Int) (az : ByteArray) (ao : Int) (am : ByteArray) (ah : Int) (aj : Int) (ak : Int) (ae : Int) (ag : Int) (ai : Int) (an : Int) (aa : ByteArray) (ab : ByteArray) (ac : List (S46)) (ap : Int) (aq : ByteArray) (af : List (S48)) : Option (Bool) := if aD = 5 then ((msg_Bare.f aD aw ax au aA ay av ar aC az ao am ah aj ak ae ag ai an aa ab ac ap aq af).bind fun aU => (if aU = true then (if ae = 0 then (if (ac.length : Int) = 0 then (rerr_Right.j0 k true aD aw ax au aA ay av ar aC az ao am ah aj ak ae ag ai an aa ab ac ap aq af) else (rerr_Right.j0 k (decide ((ac.length : Int) > 255)) aD aw ax au aA ay av ar aC az ao am ah aj ak ae ag ai an aa ab ac ap aq af)) else (if ae = 1 then (if (ac.length : Int) = 0 then (rerr_Right.j0 k true aD aw ax au aA ay av ar aC az ao am ah aj ak ae ag ai an aa ab ac ap aq af) else (rerr_Right.j0 k (decide ((ac.length : Int) > 255)) aD aw ax au aA ay av ar aC az ao am ah aj ak ae ag ai an aa ab ac ap aq af)) else (rerr_Right.j0 k true aD aw ax au aA ay av ar aC az ao am ah aj ak ae ag ai an aa ab ac ap aq af))) else (rerr_Right.j0 k true aD aw ax au aA ay av ar aC az ao am ah aj ak ae ag ai an aa ab ac ap aq af))) else (rerr_Right.j0 k true aD aw ax au aA ay av ar aC az ao am ah aj ak ae ag ai an aa ab ac ap aq af)
theorem rerr_Right.mono_l : ∀ k, (∀ y0 y1 y2 y3 y4 y5 y6 y7 y8 y9 er es et eu ev ew ex ey ez eA eB eC eD eE eF eG, LeO (rerr_Right.j0 k y0 y1 y2 y3 y4 y5 y6 y7 y8 y9 er es et eu ev ew ex ey ez eA eB eC eD eE eF eG) (rerr_Right.j0 (k + 1) y0 y1 y2 y3 y4 y5 y6 y7 y8 y9 er es et eu ev ew ex ey ez eA eB eC eD eE eF eG)) ∧ (∀ y0 y1 y2 y3 y4 y5 y6 y7 y8 y9 er es et eu ev ew ex ey ez eA eB eC eD eE eF eG hq ia, LeO (rerr_Right.l0 k y0 y1 y2 y3 y4 y5 y6 y7 y8 y9 er es et eu ev ew ex ey ez eA eB eC eD eE eF eG hq ia) (rerr_Right.l0 (k + 1) y0 y1 y2 y3 y4 y5 y6 y7 y8 y9 er es et eu ev ew ex ey ez eA eB eC eD eE eF eG hq ia))
 | 0 => ⟨Sq.mz, Sq.mz⟩
 | k + 1 => by
  obtain ⟨ih0, ih1⟩ := rerr_Right.mono_l k
  refine ⟨?_, ?_⟩
  ·intros
   unfold rerr_Right.j0
   have m0 := ext_Right.mono
   exact Sq.mo
  ·intros
   unfold rerr_Right.l0
   have m0 := ext_Right.mono
   exact Sq.mo
theorem rerr_Right.mono : ∀ a0 a1 a2 a3 a4 a5 a6 a7 a8 a9 dY dZ ea eb ec ed ee ef eg eh ei ej ek el em k, LeO (rerr_Right.f k a0 a1 a2 a3 a4 a5 a6 a7 a8 a9 dY dZ ea eb ec ed ee ef eg eh ei ej ek el em) (rerr_Right.f (k + 1) a0 a1 a2 a3 a4 a5 a6 a7 a8 a9 dY dZ ea eb ec ed ee ef eg eh ei ej ek el em) := by
 intros
 rename_i k
 obtain ⟨ih0, ih1⟩ := rerr_Right.mono_l k
 unfold rerr_Right.f
 have m0 := ext_Right.mono
 exact Sq.mo

set_option maxHeartbeats 8000000 in
set_option maxRecDepth 100000 in
theorem rerr_Right.calls (k : Nat) (aD : Int) (aw : Int) (ax : Int) (au : ByteArray) (aA : Int) (ay : Int) (av : ByteArray) (ar : Int) (aC : Int) (az : ByteArray) (ao : Int) (am : ByteArray) (ah : Int) (aj : Int) (ak : Int) (ae : Int) (ag : Int) (ai : Int) (an : Int) (aa : ByteArray) (ab : ByteArray) (aP : Option Addr) (aN : Nat) (ac : List (S46)) (ap : Int) (aq : ByteArray) (aJ : Option Addr) (aK : Nat) (af : List (S48)) (r : Bool) (w : World) (bk : Kd.C k46 w aP ac.length ac) (bl : ac.length ≤ aN) (bm : Kd.C k48 w aJ af.length af) (bn : af.length ≤ aK) (h : rerr_Right.f k aD aw ax au aA ay av ar aC az ao am ah aj ak ae ag ai an aa ab ac ap aq af = some r) :
  Calls Try.prog 28 #[.agg #[.int .i64 aD, .int .i64 aw, .int .i64 ax, .string au, .int .i64 aA, .int .i64 ay, .string av, .int .i64 ar, .int .i64 aC, .string az, .int .i64 ao, .string am, .int .i64 ah, .int .i64 aj, .int .i64 ak, .int .i64 ae, .int .i64 ag, .int .i64 ai, .int .i64 an, .string aa, .string ab, .slice aP ac.length aN, .int .i64 ap, .string aq, .slice aJ af.length aK]] w fun e w' => e = .returned (.bool r) ∧ Below w.heap.size w w' := by
 have dM := Try.underlying25
 have mB := Try.underlying46
 have cc := Aside0.mk bk
 have aZ := Aside0.mk bl
 clear bk bl
 have bZ := Aside0.mk bm
 have aT := Aside0.mk bn
 clear bm bn
 have HB := Aside0.mk (Below.refl w.heap.size w)
 have H : (if aD = 5 then ((msg_Bare.f aD aw ax au aA ay av ar aC az ao am ah aj ak ae ag ai an aa ab ac ap aq af).bind fun aU => (if aU = true then (if ae = 0 then (if (ac.length : Int) = 0 then (rerr_Right.j0 k true aD aw ax au aA ay av ar aC az ao am ah aj ak ae ag ai an aa ab ac ap aq af) else (rerr_Right.j0 k (decide ((ac.length : Int) > 255)) aD aw ax au aA ay av ar aC az ao am ah aj ak ae ag ai an aa ab ac ap aq af)) else (if ae = 1 then (if (ac.length : Int) = 0 then (rerr_Right.j0 k true aD aw ax au aA ay av ar aC az ao am ah aj ak ae ag ai an aa ab ac ap aq af) else (rerr_Right.j0 k (decide ((ac.length : Int) > 255)) aD aw ax au aA ay av ar aC az ao am ah aj ak ae ag ai an aa ab ac ap aq af)) else (rerr_Right.j0 k true aD aw ax au aA ay av ar aC az ao am ah aj ak ae ag ai an aa ab ac ap aq af))) else (rerr_Right.j0 k true aD aw ax au aA ay av ar aC az ao am ah aj ak ae ag ai an aa ab ac ap aq af))) else (rerr_Right.j0 k true aD aw ax au aA ay av ar aC az ao am ah aj ak ae ag ai an aa ab ac ap aq af)) = some r := h
 clear h
 have fT := Aside0.mk H
 clear H
 go_enter Try.func28, Try.ntmps28
 go_upto_region 1 with (first | ((with_reducible refine Pre.gate_load 25 rfl ?_); (try (refine gate_guard Z14 ?_; dsimp only)); refine Pre.load_event rfl rfl rfl Z14 Z9 Try.underlying25 rfl Z11 ?_) | ((with_reducible refine Pre.gate_load 25 rfl ?_); (try (refine gate_guard Z14 ?_; dsimp only)); refine Pre.load_event_a rfl rfl rfl Z14 Pre.range25 Try.underlying25 rfl Z11 ?_) | ((with_reducible refine gate_dst (N := 1) rfl ?_); (try (refine gate_guard Z14 ?_; dsimp only)); refine Sq.box 1 #[.int .i64 aD, .int .i64 aw, .int .i64 ax, .string au, .int .i64 aA, .int .i64 ay, .string av, .int .i64 ar, .int .i64 aC, .string az, .int .i64 ao, .string am, .int .i64 ah, .int .i64 aj, .int .i64 ak, .int .i64 ae, .int .i64 ag, .int .i64 ai, .int .i64 an, .string aa, .string ab, .slice aP ac.length aN, .int .i64 ap, .string aq, .slice aJ af.length aK] 25 ?_; intro aE hg w3 hbox hb; have al := Aside0.mk (hbox); have cd := Aside0.mk (Sq.ge hg Z2); have bV := Aside0.mk (Sq.ge hg Z2); replace HB := Aside0.mk (below_step Z2 hb); clear hb hbox hg))
 (try simp only [Act.put, Sq.s1, Sq.s2, Sq.s3])
 go_cut [34] (fun nR wc => ∃ (kq : Nat) (fQ : Bool), nR = .bool fQ ∧ Aside0 (rerr_Right.j0 kq fQ aD aw ax au aA ay av ar aC az ao am ah aj ak ae ag ai an aa ab ac ap aq af = some r) ∧ Aside0 (kq ≤ k) ∧ Aside0 (wc.heap[aE]? = some (.cells #[.int .i64 aD, .int .i64 aw, .int .i64 ax, .string au, .int .i64 aA, .int .i64 ay, .string av, .int .i64 ar, .int .i64 aC, .string az, .int .i64 ao, .string am, .int .i64 ah, .int .i64 aj, .int .i64 ak, .int .i64 ae, .int .i64 ag, .int .i64 ai, .int .i64 an, .string aa, .string ab, (.slice aP ac.length aN), .int .i64 ap, .string aq, (.slice aJ af.length aK)] 25 (0, 0))) ∧ Aside0 (Below w.heap.size w wc))
 case first =>
  have H := fT.out
  clear fT
  by_cases c4 : aD = 5
  ·rw [if_pos c4] at H
   have cf : (aD == 5) = true := beq_iff_eq.mpr c4
   have fd : (aD != 5) = false := bne_eq_false_iff_eq.mpr c4
   clear c4
   (first | rw [cf] | (simp only [i64_w, i32_w]; rw [cf]) | skip)
   replace H := Option.bind_eq_some_iff.mp H
   obtain ⟨aU, iy, H⟩ := H
   replace H : (if aU = true then (if ae = 0 then (if (ac.length : Int) = 0 then (rerr_Right.j0 k true aD aw ax au aA ay av ar aC az ao am ah aj ak ae ag ai an aa ab ac ap aq af) else (rerr_Right.j0 k (decide ((ac.length : Int) > 255)) aD aw ax au aA ay av ar aC az ao am ah aj ak ae ag ai an aa ab ac ap aq af)) else (if ae = 1 then (if (ac.length : Int) = 0 then (rerr_Right.j0 k true aD aw ax au aA ay av ar aC az ao am ah aj ak ae ag ai an aa ab ac ap aq af) else (rerr_Right.j0 k (decide ((ac.length : Int) > 255)) aD aw ax au aA ay av ar aC az ao am ah aj ak ae ag ai an aa ab ac ap aq af)) else (rerr_Right.j0 k true aD aw ax au aA ay av ar aC az ao am ah aj ak ae ag ai an aa ab ac ap aq af))) else (rerr_Right.j0 k true aD aw ax au aA ay av ar aC az ao am ah aj ak ae ag ai an aa ab ac ap aq af)) = some r := H
   have A5 := Aside0.mk iy
   clear iy
   by_cases c6 : aU = true
   ·subst c6
    replace H := Sq.itT H
    by_cases c7 : ae = 0
    ·rw [if_pos c7] at H
     have dT : (ae == 0) = true := beq_iff_eq.mpr c7
     have hu : (ae != 0) = false := bne_eq_false_iff_eq.mpr c7
     clear c7
     by_cases c8 : (ac.length : Int) = 0
     ·rw [if_pos c8] at H
      have fS : ((ac.length : Int) == 0) = true := beq_iff_eq.mpr c8
      have gF : ((ac.length : Int) != 0) = false := bne_eq_false_iff_eq.mpr c8
      clear c8
      have H' := Aside0.mk H
      clear H
      have ji := cells_25 al.out
      go_wp2_with (first | ((with_reducible refine Pre.gate_load 25 rfl ?_); (try (refine gate_guard Z14 ?_; dsimp only)); refine Pre.load_event rfl rfl rfl Z14 Z9 Try.underlying25 rfl Z11 ?_) | ((with_reducible refine Pre.gate_load 25 rfl ?_); (try (refine gate_guard Z14 ?_; dsimp only)); refine Pre.load_event_a rfl rfl rfl Z14 Pre.range25 Try.underlying25 rfl Z11 ?_) | (go_at_call 53; (with_reducible refine (msg_Bare.calls aD aw ax au aA ay av ar aC az ao am ah aj ak ae ag ai an aa ab _ _ ac ap aq _ _ af true _ ?side1 ?side2 ?side3 ?side4 A5.out).mono ?_); (case side1 => exact Z7); (case side2 => exact aZ.out); (case side3 => exact Z5); (case side4 => exact aT.out); rintro e nF ⟨rfl, hb⟩; replace al := Aside0.mk (blk_below (g := aE) Z3 hb); replace HB := Aside0.mk (below_step Z0 hb); clear hb; have jm := cells_25 al.out))
      go_meet
      case rel => exact ⟨_, (true), Z10, H', ⟨Z20⟩, ⟨Z3⟩, ⟨Z0⟩⟩
     ·rw [if_neg c8] at H
      have fS : ((ac.length : Int) == 0) = false := beq_eq_false_iff_ne.mpr c8
      have gF : ((ac.length : Int) != 0) = true := bne_iff_ne.mpr c8
      have jR : ¬ (ac = []) := fun h_ => c8 (by rw [h_]; rfl)
      have H' := Aside0.mk H
      clear H
      have gs := cells_25 al.out
      go_wp2_with (first | ((with_reducible refine Pre.gate_load 25 rfl ?_); (try (refine gate_guard Z14 ?_; dsimp only)); refine Pre.load_event rfl rfl rfl Z14 Z9 Try.underlying25 rfl Z11 ?_) | ((with_reducible refine Pre.gate_load 25 rfl ?_); (try (refine gate_guard Z14 ?_; dsimp only)); refine Pre.load_event_a rfl rfl rfl Z14 Pre.range25 Try.underlying25 rfl Z11 ?_) | (go_at_call 53; (with_reducible refine (msg_Bare.calls aD aw ax au aA ay av ar aC az ao am ah aj ak ae ag ai an aa ab _ _ ac ap aq _ _ af true _ ?side1 ?side2 ?side3 ?side4 A5.out).mono ?_); (case side1 => exact Z7); (case side2 => exact aZ.out); (case side3 => exact Z5); (case side4 => exact aT.out); rintro e hS ⟨rfl, hb⟩; replace al := Aside0.mk (blk_below (g := aE) Z3 hb); replace HB := Aside0.mk (below_step Z0 hb); clear hb; have gO := cells_25 al.out))
      go_meet
      case rel => exact ⟨_, (decide ((ac.length : Int) > 255)), Z10, H', ⟨Z20⟩, ⟨Z3⟩, ⟨Z0⟩⟩
    ·rw [if_neg c7] at H
     have dT : (ae == 0) = false := beq_eq_false_iff_ne.mpr c7
     have hu : (ae != 0) = true := bne_iff_ne.mpr c7
     by_cases dA : ae = 1
     ·rw [if_pos dA] at H
      have fv : (ae == 1) = true := beq_iff_eq.mpr dA
      have fw : (ae != 1) = false := bne_eq_false_iff_eq.mpr dA
      clear dA
      by_cases dy : (ac.length : Int) = 0
      ·rw [if_pos dy] at H
       have eP : ((ac.length : Int) == 0) = true := beq_iff_eq.mpr dy
       have fV : ((ac.length : Int) != 0) = false := bne_eq_false_iff_eq.mpr dy
       clear dy
       have H' := Aside0.mk H
       clear H
       have kF := cells_25 al.out
       go_wp2_with (first | ((with_reducible refine Pre.gate_load 25 rfl ?_); (try (refine gate_guard Z14 ?_; dsimp only)); refine Pre.load_event rfl rfl rfl Z14 Z9 Try.underlying25 rfl Z11 ?_) | ((with_reducible refine Pre.gate_load 25 rfl ?_); (try (refine gate_guard Z14 ?_; dsimp only)); refine Pre.load_event_a rfl rfl rfl Z14 Pre.range25 Try.underlying25 rfl Z11 ?_) | (go_at_call 53; (with_reducible refine (msg_Bare.calls aD aw ax au aA ay av ar aC az ao am ah aj ak ae ag ai an aa ab _ _ ac ap aq _ _ af true _ ?side1 ?side2 ?side3 ?side4 A5.out).mono ?_); (case side1 => exact Z7); (case side2 => exact aZ.out); (case side3 => exact Z5); (case side4 => exact aT.out); rintro e np ⟨rfl, hb⟩; replace al := Aside0.mk (blk_below (g := aE) Z3 hb); replace HB := Aside0.mk (below_step Z0 hb); clear hb; have ig := cells_25 al.out))
       go_meet
       case rel => exact ⟨_, (true), Z10, H', ⟨Z20⟩, ⟨Z3⟩, ⟨Z0⟩⟩
      ·rw [if_neg dy] at H
       have eP : ((ac.length : Int) == 0) = false := beq_eq_false_iff_ne.mpr dy
       have fV : ((ac.length : Int) != 0) = true := bne_iff_ne.mpr dy
       have gQ : ¬ (ac = []) := fun h_ => dy (by rw [h_]; rfl)
       have H' := Aside0.mk H
       clear H
       have iw := cells_25 al.out
       go_wp2_with (first | ((with_reducible refine Pre.gate_load 25 rfl ?_); (try (refine gate_guard Z14 ?_; dsimp only)); refine Pre.load_event rfl rfl rfl Z14 Z9 Try.underlying25 rfl Z11 ?_) | ((with_reducible refine Pre.gate_load 25 rfl ?_); (try (refine gate_guard Z14 ?_; dsimp only)); refine Pre.load_event_a rfl rfl rfl Z14 Pre.range25 Try.underlying25 rfl Z11 ?_) | (go_at_call 53; (with_reducible refine (msg_Bare.calls aD aw ax au aA ay av ar aC az ao am ah aj ak ae ag ai an aa ab _ _ ac ap aq _ _ af true _ ?side1 ?side2 ?side3 ?side4 A5.out).mono ?_); (case side1 => exact Z7); (case side2 => exact aZ.out); (case side3 => exact Z5); (case side4 => exact aT.out); rintro e kY ⟨rfl, hb⟩; replace al := Aside0.mk (blk_below (g := aE) Z3 hb); replace HB := Aside0.mk (below_step Z0 hb); clear hb; have hP := cells_25 al.out))
       go_meet
       case rel => exact ⟨_, (decide ((ac.length : Int) > 255)), Z10, H', ⟨Z20⟩, ⟨Z3⟩, ⟨Z0⟩⟩
     ·rw [if_neg dA] at H
      have fv : (ae == 1) = false := beq_eq_false_iff_ne.mpr dA
      have fw : (ae != 1) = true := bne_iff_ne.mpr dA
      have H' := Aside0.mk H
      clear H
      have km := cells_25 al.out
      go_wp2_with (first | ((with_reducible refine Pre.gate_load 25 rfl ?_); (try (refine gate_guard Z14 ?_; dsimp only)); refine Pre.load_event rfl rfl rfl Z14 Z9 Try.underlying25 rfl Z11 ?_) | ((with_reducible refine Pre.gate_load 25 rfl ?_); (try (refine gate_guard Z14 ?_; dsimp only)); refine Pre.load_event_a rfl rfl rfl Z14 Pre.range25 Try.underlying25 rfl Z11 ?_) | (go_at_call 53; (with_reducible refine (msg_Bare.calls aD aw ax au aA ay av ar aC az ao am ah aj ak ae ag ai an aa ab _ _ ac ap aq _ _ af true _ ?side1 ?side2 ?side3 ?side4 A5.out).mono ?_); (case side1 => exact Z7); (case side2 => exact aZ.out); (case side3 => exact Z5); (case side4 => exact aT.out); rintro e gJ ⟨rfl, hb⟩; replace al := Aside0.mk (blk_below (g := aE) Z3 hb); replace HB := Aside0.mk (below_step Z0 hb); clear hb; have ii := cells_25 al.out))
      go_meet
      case rel => exact ⟨_, (true), Z10, H', ⟨Z20⟩, ⟨Z3⟩, ⟨Z0⟩⟩
   ·replace c6 := Bool.eq_false_iff.mpr c6
    subst c6
    replace H := Sq.itF H
    have H' := Aside0.mk H
    clear H
    have gC := cells_25 al.out
    go_wp2_with (first | ((with_reducible refine Pre.gate_load 25 rfl ?_); (try (refine gate_guard Z14 ?_; dsimp only)); refine Pre.load_event rfl rfl rfl Z14 Z9 Try.underlying25 rfl Z11 ?_) | ((with_reducible refine Pre.gate_load 25 rfl ?_); (try (refine gate_guard Z14 ?_; dsimp only)); refine Pre.load_event_a rfl rfl rfl Z14 Pre.range25 Try.underlying25 rfl Z11 ?_) | (go_at_call 53; (with_reducible refine (msg_Bare.calls aD aw ax au aA ay av ar aC az ao am ah aj ak ae ag ai an aa ab _ _ ac ap aq _ _ af false _ ?side1 ?side2 ?side3 ?side4 A5.out).mono ?_); (case side1 => exact Z7); (case side2 => exact aZ.out); (case side3 => exact Z5); (case side4 => exact aT.out); rintro e jT ⟨rfl, hb⟩; replace al := Aside0.mk (blk_below (g := aE) Z3 hb); replace HB := Aside0.mk (below_step Z0 hb); clear hb))
    go_meet
    case rel => exact ⟨_, (true), Z10, H', ⟨Z20⟩, ⟨Z3⟩, ⟨Z0⟩⟩
  ·rw [if_neg c4] at H
   have cf : (aD == 5) = false := beq_eq_false_iff_ne.mpr c4
   have fd : (aD != 5) = true := bne_iff_ne.mpr c4
   (first | rw [cf] | (simp only [i64_w, i32_w]; rw [cf]) | skip)
   have H' := Aside0.mk H
   clear H
   have ir := cells_25 al.out
   go_wp2_with (first | ((with_reducible refine Pre.gate_load 25 rfl ?_); (try (refine gate_guard Z14 ?_; dsimp only)); refine Pre.load_event rfl rfl rfl Z14 Z9 Try.underlying25 rfl Z11 ?_) | ((with_reducible refine Pre.gate_load 25 rfl ?_); (try (refine gate_guard Z14 ?_; dsimp only)); refine Pre.load_event_a rfl rfl rfl Z14 Pre.range25 Try.underlying25 rfl Z11 ?_))
   go_meet
   case rel => exact ⟨_, (true), Z10, H', ⟨Z20⟩, ⟨Z3⟩, ⟨Z0⟩⟩
 case rest =>
  clear fT
  try clear c2
  try clear pa
  obtain ⟨kq, fQ, rfl, HA, hT, al, HB⟩ := hcut
  cases kq with
  | zero => exact absurd HA.out (by simp [rerr_Right.j0])
  | succ kj1 =>
   have H := HA.out
   clear HA
   simp only [rerr_Right.j0] at H
   by_cases lf : fQ = true
   ·subst lf
    replace H := Sq.itT H
    obtain rfl := Option.some.inj H
    go_wp2_with (first | ((with_reducible refine Pre.gate_load 25 rfl ?_); (try (refine gate_guard Z14 ?_; dsimp only)); refine Pre.load_event rfl rfl rfl Z14 Z9 Try.underlying25 rfl Z11 ?_) | ((with_reducible refine Pre.gate_load 25 rfl ?_); (try (refine gate_guard Z14 ?_; dsimp only)); refine Pre.load_event_a rfl rfl rfl Z14 Pre.range25 Try.underlying25 rfl Z11 ?_))
    go_ret
    exact ⟨Z6, Z0⟩
   ·replace lf := Bool.eq_false_iff.mpr lf
    subst lf
    replace H := Sq.itF H
    have H' := Aside0.mk H
    clear H
    have iu := cells_25 al.out
    go_wp2_with (first | ((with_reducible refine Pre.gate_load 25 rfl ?_); (try (refine gate_guard Z14 ?_; dsimp only)); refine Pre.load_event rfl rfl rfl Z14 Z9 Try.underlying25 rfl Z11 ?_) | ((with_reducible refine Pre.gate_load 25 rfl ?_); (try (refine gate_guard Z14 ?_; dsimp only)); refine Pre.load_event_a rfl rfl rfl Z14 Pre.range25 Try.underlying25 rfl Z11 ?_))
    go_loopg [38] kj1 (fun kq pb w' => ∃ (cE : Int), pb = .int .i64 cE ∧ Aside0 (rerr_Right.l0 kq ac (ac.length : Int) cE aD aw ax au aA ay av ar aC az ao am ah aj ak ae ag ai an aa ab ac ap aq af = some r) ∧ Aside0 (kq ≤ kj1) ∧ Aside0 (w'.heap[aE]? = some (.cells #[.int .i64 aD, .int .i64 aw, .int .i64 ax, .string au, .int .i64 aA, .int .i64 ay, .string av, .int .i64 ar, .int .i64 aC, .string az, .int .i64 ao, .string am, .int .i64 ah, .int .i64 aj, .int .i64 ak, .int .i64 ae, .int .i64 ag, .int .i64 ai, .int .i64 an, .string aa, .string ab, (.slice aP ac.length aN), .int .i64 ap, .string aq, (.slice aJ af.length aK)] 25 (0, 0))) ∧ Aside0 (Below w.heap.size w w'))
    case atStart => exact ⟨(0), Z10, H', ⟨Nat.le_refl _⟩, ⟨Z3⟩, ⟨Z0⟩⟩
    case round =>
     clear H'
     try clear c2
     try clear p2
     try clear c4
     try clear cf
     try clear fd
     try clear c6
     try clear c7
     try clear pa
     try clear lf
     try clear gC
     try clear ir
     try clear iu
     obtain ⟨cE, rfl, HA, HK2, al, HB⟩ := hrel
     cases gk with
     | zero => exact absurd HA.out (by simp [rerr_Right.l0])
     | succ k2 =>
      have H := HA.out
      clear HA
      simp only [rerr_Right.l0] at H
      by_cases hm : cE < (ac.length : Int)
      ·rw [if_pos hm] at H
       have iz : decide (cE < (ac.length : Int)) = true := decide_eq_true hm
       clear hm
       by_cases iA : 0 ≤ cE
       ·rw [if_pos iA] at H
        have kC : decide (0 ≤ cE) = true := decide_eq_true iA
        clear iA
        by_cases iQ : cE < (ac.length : Int)
        ·rw [if_pos iQ] at H
         have kD : decide (cE < (ac.length : Int)) = true := decide_eq_true iQ
         clear iQ
         by_cases iR : (((rd_T46 ac cE).f0).size : Int) = 4
         ·rw [if_pos iR] at H
          have mC : ((((rd_T46 ac cE).f0).size : Int) == 4) = true := beq_iff_eq.mpr iR
          have mD : ((((rd_T46 ac cE).f0).size : Int) != 4) = false := bne_eq_false_iff_eq.mpr iR
          clear iR
          replace H := Option.bind_eq_some_iff.mp H
          obtain ⟨bH, jC, H⟩ := H
          replace H : (if bH = true then (rerr_Right.l0 k2 ac (ac.length : Int) (wrap64 (cE + 1)) aD aw ax au aA ay av ar aC az ao am ah aj ak ae ag ai an aa ab ac ap aq af) else (some false)) = some r := H
          have mE := Aside0.mk jC
          clear jC
          by_cases kf : bH = true
          ·subst kf
           replace H := Sq.itT H
           have H' := Aside0.mk H
           clear H
           have p103 : 0 ≤ (cE : Int) := of_decide_eq_true Z8
           have q103 : cE < (ac.length : Int) := of_decide_eq_true Z8
           obtain ⟨ad103, e103, hx103_0, hx103_1⟩ := at_T46 cc.out cE p103 q103
           cases e103
           replace hx103_0 := Sq.up HB.out hx103_0
           replace hx103_1 := Sq.up HB.out hx103_1
           replace p103 := eq_true p103
           replace q103 := eq_true q103
           go_wp2_with (first | ((with_reducible refine Pre.gate_load 25 rfl ?_); (try (refine gate_guard Z14 ?_; dsimp only)); refine Pre.load_event rfl rfl rfl Z14 Z9 Try.underlying25 rfl Z11 ?_) | ((with_reducible refine Pre.gate_load 25 rfl ?_); (try (refine gate_guard Z14 ?_; dsimp only)); refine Pre.load_event_a rfl rfl rfl Z14 Pre.range25 Try.underlying25 rfl Z11 ?_) | ((with_reducible refine gate_dst (N := 4) rfl ?_); (try (refine gate_guard Z14 ?_; dsimp only)); refine Sq.box 4 #[.string ⟨#[]⟩, .int .i64 0] 46 ?_; intro fX hg oP hbox hb; have dV := Aside0.mk (hbox); have kG := Aside0.mk (Sq.ge hg Z0); have jD := Aside0.mk (Sq.ge hg Z0); have dO := Aside0.mk (Sq.nl hg (blk_lt (g := aE) Z3)); have eW := Aside0.mk (Sq.ng hg (blk_lt (g := aE) Z3)); replace al := Aside0.mk (blk_below (g := aE) Z3 hb); replace HB := Aside0.mk (below_step Z0 hb); clear hb hbox hg; have hnb38 := eW.out; have hnc38 := dO.out; have hcz39_0 : oP.cell? ⟨fX, 0, none⟩ = some (.string ⟨#[]⟩) := (blk_cell dV.out 0).trans rfl; have hcz39_1 : oP.cell? ⟨fX, 1, none⟩ = some (.int .i64 0) := (blk_cell dV.out 1).trans rfl; have hfz39_0 := blk_frozen dV.out 0; have hfz39_1 := blk_frozen dV.out 1) | (go_at_call 54; (with_reducible refine (octet_Fits.calls ((rd_T46 ac cE).f1) 4 true _ mE.out).mono ?_); rintro e w' ⟨rfl, ⟨nd, rfl⟩⟩))
           go_roundg k2
           case measure => have := hT.out; have := HK2.out; omega
           case rel => exact ⟨(wrap64 (cE + 1)), Z10, H', ⟨by have := hT.out; have := HK2.out; omega⟩, ⟨by (with_reducible repeat (first | refine blk_drewN ?_ _ | refine blk_drew ?_ | refine blk_alloc ?_ _)); refine blk_far ?_ dO.out _; (with_reducible repeat (first | refine blk_drewN ?_ _ | refine blk_drew ?_ | refine blk_alloc ?_ _)); refine blk_far ?_ dO.out _; (with_reducible repeat (first | refine blk_drewN ?_ _ | refine blk_drew ?_ | refine blk_alloc ?_ _)); exact al.out⟩, ⟨Z40⟩⟩
          ·replace kf := Bool.eq_false_iff.mpr kf
           subst kf
           replace H := Sq.itF H
           obtain rfl := Option.some.inj H
           have p103 : 0 ≤ (cE : Int) := of_decide_eq_true Z8
           have q103 : cE < (ac.length : Int) := of_decide_eq_true Z8
           obtain ⟨ad103, e103, hx103_0, hx103_1⟩ := at_T46 cc.out cE p103 q103
           cases e103
           replace hx103_0 := Sq.up HB.out hx103_0
           replace hx103_1 := Sq.up HB.out hx103_1
           replace p103 := eq_true p103
           replace q103 := eq_true q103
           go_wp2_with (first | ((with_reducible refine Pre.gate_load 25 rfl ?_); (try (refine gate_guard Z14 ?_; dsimp only)); refine Pre.load_event rfl rfl rfl Z14 Z9 Try.underlying25 rfl Z11 ?_) | ((with_reducible refine Pre.gate_load 25 rfl ?_); (try (refine gate_guard Z14 ?_; dsimp only)); refine Pre.load_event_a rfl rfl rfl Z14 Pre.range25 Try.underlying25 rfl Z11 ?_) | ((with_reducible refine gate_dst (N := 4) rfl ?_); (try (refine gate_guard Z14 ?_; dsimp only)); refine Sq.box 4 #[.string ⟨#[]⟩, .int .i64 0] 46 ?_; intro fX hg iN hbox hb; have dV := Aside0.mk (hbox); have kG := Aside0.mk (Sq.ge hg Z0); have jD := Aside0.mk (Sq.ge hg Z0); have dO := Aside0.mk (Sq.nl hg (blk_lt (g := aE) Z3)); have eW := Aside0.mk (Sq.ng hg (blk_lt (g := aE) Z3)); replace al := Aside0.mk (blk_below (g := aE) Z3 hb); replace HB := Aside0.mk (below_step Z0 hb); clear hb hbox hg; have hnb41 := eW.out; have hnc41 := dO.out; have hcz42_0 : iN.cell? ⟨fX, 0, none⟩ = some (.string ⟨#[]⟩) := (blk_cell dV.out 0).trans rfl; have hcz42_1 : iN.cell? ⟨fX, 1, none⟩ = some (.int .i64 0) := (blk_cell dV.out 1).trans rfl; have hfz42_0 := blk_frozen dV.out 0; have hfz42_1 := blk_frozen dV.out 1) | (go_at_call 54; (with_reducible refine (octet_Fits.calls ((rd_T46 ac cE).f1) 4 false _ mE.out).mono ?_); rintro e w' ⟨rfl, ⟨nd, rfl⟩⟩))
           go_ret
           exact ⟨Z6, Z40⟩
         ·rw [if_neg iR] at H
          have mC : ((((rd_T46 ac cE).f0).size : Int) == 4) = false := beq_eq_false_iff_ne.mpr iR
          have mD : ((((rd_T46 ac cE).f0).size : Int) != 4) = true := bne_iff_ne.mpr iR
          obtain rfl := Option.some.inj H
          have p103 : 0 ≤ (cE : Int) := of_decide_eq_true Z8
          have q103 : cE < (ac.length : Int) := of_decide_eq_true Z8
          obtain ⟨ad103, e103, hx103_0, hx103_1⟩ := at_T46 cc.out cE p103 q103
          cases e103
          replace hx103_0 := Sq.up HB.out hx103_0
          replace hx103_1 := Sq.up HB.out hx103_1
          replace p103 := eq_true p103
          replace q103 := eq_true q103
          go_wp2_with (first | ((with_reducible refine Pre.gate_load 25 rfl ?_); (try (refine gate_guard Z14 ?_; dsimp only)); refine Pre.load_event rfl rfl rfl Z14 Z9 Try.underlying25 rfl Z11 ?_) | ((with_reducible refine Pre.gate_load 25 rfl ?_); (try (refine gate_guard Z14 ?_; dsimp only)); refine Pre.load_event_a rfl rfl rfl Z14 Pre.range25 Try.underlying25 rfl Z11 ?_) | ((with_reducible refine gate_dst (N := 4) rfl ?_); (try (refine gate_guard Z14 ?_; dsimp only)); refine Sq.box 4 #[.string ⟨#[]⟩, .int .i64 0] 46 ?_; intro fX hg ld hbox hb; have dV := Aside0.mk (hbox); have kG := Aside0.mk (Sq.ge hg Z0); have jD := Aside0.mk (Sq.ge hg Z0); have dO := Aside0.mk (Sq.nl hg (blk_lt (g := aE) Z3)); have eW := Aside0.mk (Sq.ng hg (blk_lt (g := aE) Z3)); replace al := Aside0.mk (blk_below (g := aE) Z3 hb); replace HB := Aside0.mk (below_step Z0 hb); clear hb hbox hg; have hnb44 := eW.out; have hnc44 := dO.out; have hcz45_0 : ld.cell? ⟨fX, 0, none⟩ = some (.string ⟨#[]⟩) := (blk_cell dV.out 0).trans rfl; have hcz45_1 : ld.cell? ⟨fX, 1, none⟩ = some (.int .i64 0) := (blk_cell dV.out 1).trans rfl; have hfz45_0 := blk_frozen dV.out 0; have hfz45_1 := blk_frozen dV.out 1))
          go_ret
          exact ⟨Z6, Z40⟩
        ·rw [if_neg iQ] at H
         exact absurd H Z35
       ·rw [if_neg iA] at H
        exact absurd H Z35
      ·rw [if_neg hm] at H
       have iz : decide (cE < (ac.length : Int)) = false := decide_eq_false hm
       clear hm
       replace H := Option.bind_eq_some_iff.mp H
       obtain ⟨aW, mF, H⟩ := H
       replace H : (some aW) = some r := H
       have pc := Aside0.mk mF
       clear mF
       obtain rfl := Option.some.inj H
       have lU := cells_25 al.out
       go_wp2_with (first | ((with_reducible refine Pre.gate_load 25 rfl ?_); (try (refine gate_guard Z14 ?_; dsimp only)); refine Pre.load_event rfl rfl rfl Z14 Z9 Try.underlying25 rfl Z11 ?_) | ((with_reducible refine Pre.gate_load 25 rfl ?_); (try (refine gate_guard Z14 ?_; dsimp only)); refine Pre.load_event_a rfl rfl rfl Z14 Pre.range25 Try.underlying25 rfl Z11 ?_) | ((with_reducible refine gate_callee (f := 55) rfl ?_); refine goesL_ (some 55) rfl rfl Try.func55 Z11 rfl #[.slice aJ af.length aK] rfl Z4 ?_; (with_reducible refine (ext_Right.calls k2 _ _ af aW _ ?side1 ?side2 pc.out).mono ?_); (case side1 => exact Z5); (case side2 => exact aT.out); rintro e oW ⟨rfl, hb⟩; refine ⟨_, rfl, ?_⟩; replace al := Aside0.mk (blk_below (g := aE) Z3 hb); replace HB := Aside0.mk (below_step Z0 hb); clear hb))
       go_ret
       exact ⟨Z6, Z0⟩

/-! ### rerr_Put: function 26 -/
def rerr_Put.l0 : Nat → List Int → List (S46) → Int → Int → Int → Int → Int → ByteArray → Int → Int → ByteArray → Int → Int → ByteArray → Int → ByteArray → Int → Int → Int → Int → Int → Int → Int → ByteArray → ByteArray → List (S46) → Int → ByteArray → List (S48) → Option (ByteArray × Bool)
 | 0, _, _, _, _, _, _, _, _, _, _, _, _, _, _, _, _, _, _, _, _, _, _, _, _, _, _, _, _, _ => none
 | k + 1, x4, mG, oQ, lh, bq, bI, bJ, bK, bL, bM, bN, br, bO, bP, bQ, bD, bs, bA, bv, bo, bu, bB, bE, bw, bx, bf, bF, bG, bj => if lh < oQ then (if 0 ≤ lh then (if lh < (mG.length : Int) then ((octet_Put.f k ((rd_T46 mG lh).f1) 4).bind fun kH => (if x4.length + ((rd_T46 mG lh).f0).size < 140737488355328 then ((some (x4 ++ bytesOf ((rd_T46 mG lh).f0) : List Int)).bind fun gb => (if gb.length + kH.1.size < 140737488355328 then (rerr_Put.l0 k (gb ++ bytesOf kH.1) mG oQ (wrap64 (lh + 1)) bq bI bJ bK bL bM bN br bO bP bQ bD bs bA bv bo bu bB bE bw bx bf bF bG bj) else (none))) else (none))) else (none)) else (none)) else ((ext_Put.f k bj).bind fun kI => (if (strOfNums x4).size + kI.1.size ≤ 9223372036854775807 then (some ((strOfNums x4) ++ kI.1, true)) else (none)))
def rerr_Put.f (k : Nat) (aD : Int) (aw : Int) (ax : Int) (au : ByteArray) (aA : Int) (ay : Int) (av : ByteArray) (ar : Int) (aC : Int) (az : ByteArray) (ao : Int) (am : ByteArray) (ah : Int) (aj : Int) (ak : Int) (ae : Int) (ag : Int) (ai : Int) (an : Int) (aa : ByteArray) (ab : ByteArray) (ac : List (S46)) (ap : Int) (aq : ByteArray) (af : List (S48)) : Option (ByteArray × Bool) := (rerr_Right.f k aD aw ax au aA ay av ar aC az ao am ah aj ak ae ag ai an aa ab ac ap aq af).bind fun aU => (if aU = true then (rerr_Put.l0 k (([3, (wrap64 (ae * 128)) % 256, 0, ((ac.length : Int)) % 256] : List Int)) ac (ac.length : Int) 0 aD aw ax au aA ay av ar aC az ao am ah aj ak ae ag ai an aa ab ac ap aq af) else (some ((⟨#[]⟩ : ByteArray), false)))
theorem rerr_Put.mono_l : ∀ k, (∀ y0 y1 y2 y3 y4 y5 y6 y7 y8 y9 er es et eu ev ew ex ey ez eA eB eC eD eE eF eG hq ia kj, LeO (rerr_Put.l0 k y0 y1 y2 y3 y4 y5 y6 y7 y8 y9 er es et eu ev ew ex ey ez eA eB eC eD eE eF eG hq ia kj) (rerr_Put.l0 (k + 1) y0 y1 y2 y3 y4 y5 y6 y7 y8 y9 er es et eu ev ew ex ey ez eA eB eC eD eE eF eG hq ia kj))
 | 0 => Sq.mz
 | k + 1 => by
  have ih0 := rerr_Put.mono_l k
  ·intros
   unfold rerr_Put.l0
   have m0 := ext_Put.mono
   have m1 := octet_Put.mono
   have m2 := rerr_Right.mono
   exact Sq.mo
theorem rerr_Put.mono : ∀ a0 a1 a2 a3 a4 a5 a6 a7 a8 a9 dY dZ ea eb ec ed ee ef eg eh ei ej ek el em k, LeO (rerr_Put.f k a0 a1 a2 a3 a4 a5 a6 a7 a8 a9 dY dZ ea eb ec ed ee ef eg eh ei ej ek el em) (rerr_Put.f (k + 1) a0 a1 a2 a3 a4 a5 a6 a7 a8 a9 dY dZ ea eb ec ed ee ef eg eh ei ej ek el em) := by
 intro a0 a1 a2 a3 a4 a5 a6 a7 a8 a9 dY dZ ea eb ec ed ee ef eg eh ei ej ek el em k
 have ih0 := rerr_Put.mono_l k
 unfold rerr_Put.f
 have m0 := ext_Put.mono
 have m1 := octet_Put.mono
 have m2 := rerr_Right.mono
 exact Sq.mo

set_option maxHeartbeats 8000000 in
set_option maxRecDepth 100000 in
theorem rerr_Put.calls (k : Nat) (aD : Int) (aw : Int) (ax : Int) (au : ByteArray) (aA : Int) (ay : Int) (av : ByteArray) (ar : Int) (aC : Int) (az : ByteArray) (ao : Int) (am : ByteArray) (ah : Int) (aj : Int) (ak : Int) (ae : Int) (ag : Int) (ai : Int) (an : Int) (aa : ByteArray) (ab : ByteArray) (aP : Option Addr) (aN : Nat) (ac : List (S46)) (ap : Int) (aq : ByteArray) (aJ : Option Addr) (aK : Nat) (af : List (S48)) (r1 : ByteArray) (r2 : Bool) (w : World) (bk : Kd.C k46 w aP ac.length ac) (bl : ac.length ≤ aN) (bm : Kd.C k48 w aJ af.length af) (bn : af.length ≤ aK) (h : rerr_Put.f k aD aw ax au aA ay av ar aC az ao am ah aj ak ae ag ai an aa ab ac ap aq af = some (r1, r2)) :
  Calls Try.prog 26 #[.agg #[.int .i64 aD, .int .i64 aw, .int .i64 ax, .string au, .int .i64 aA, .int .i64 ay, .string av, .int .i64 ar, .int .i64 aC, .string az, .int .i64 ao, .string am, .int .i64 ah, .int .i64 aj, .int .i64 ak, .int .i64 ae, .int .i64 ag, .int .i64 ai, .int .i64 an, .string aa, .string ab, .slice aP ac.length aN, .int .i64 ap, .string aq, .slice aJ af.length aK]] w fun e w' => e = .returned (.tuple #[.string r1, .bool r2]) ∧ Below w.heap.size w w' := by
 have dM := Try.underlying25
 have mB := Try.underlying46
 have cc := Aside0.mk bk
 have aZ := Aside0.mk bl
 clear bk bl
 have bZ := Aside0.mk bm
 have aT := Aside0.mk bn
 clear bm bn
 have HB := Aside0.mk (Below.refl w.heap.size w)
 have H : ((rerr_Right.f k aD aw ax au aA ay av ar aC az ao am ah aj ak ae ag ai an aa ab ac ap aq af).bind fun aU => (if aU = true then (rerr_Put.l0 k (([3, (wrap64 (ae * 128)) % 256, 0, ((ac.length : Int)) % 256] : List Int)) ac (ac.length : Int) 0 aD aw ax au aA ay av ar aC az ao am ah aj ak ae ag ai an aa ab ac ap aq af) else (some ((⟨#[]⟩ : ByteArray), false)))) = some (r1, r2) := h
 clear h
 replace H := Option.bind_eq_some_iff.mp H
 obtain ⟨aU, dL, H⟩ := H
 replace H : (if aU = true then (rerr_Put.l0 k (([3, (wrap64 (ae * 128)) % 256, 0, ((ac.length : Int)) % 256] : List Int)) ac (ac.length : Int) 0 aD aw ax au aA ay av ar aC az ao am ah aj ak ae ag ai an aa ab ac ap aq af) else (some ((⟨#[]⟩ : ByteArray), false))) = some (r1, r2) := H
 have A2 := Aside0.mk dL
 clear dL
 by_cases c3 : aU = true
 ·subst c3
  have H1 : (rerr_Put.l0 k (([3, (wrap64 (ae * 128)) % 256, 0, ((ac.length : Int)) % 256] : List Int)) ac (ac.length : Int) 0 aD aw ax au aA ay av ar aC az ao am ah aj ak ae ag ai an aa ab ac ap aq af) = some (r1, r2) := by rw [if_pos rfl] at H; exact H
  clear H
  have H := H1
  clear H1
  obtain ⟨cC, hy103⟩ : ∃ y_ : List Int, y_ = (([3, (wrap64 (ae * 128)) % 256, 0, ((ac.length : Int)) % 256] : List Int)) := ⟨_, rfl⟩
  replace H : (rerr_Put.l0 k cC ac (ac.length : Int) 0 aD aw ax au aA ay av ar aC az ao am ah aj ak ae ag ai an aa ab ac ap aq af) = some (r1, r2) := by first | (rw [hy103]; with_reducible exact H) | (have H2_ := (Option.bind_some _ _).symm.trans H; rw [hy103]; with_reducible exact H2_) | (have H2_ := (Option.bind_some _ _).symm.trans H; with_reducible exact H2_) | with_reducible exact H | (rw [hy103]; exact H) | exact H
  have Ny103 := Aside0.mk hy103
  clear hy103
  have H' := Aside0.mk H
  clear H
  go_enter Try.func26, Try.ntmps26
  go_wp2_with (first | ((with_reducible refine Pre.gate_load 25 rfl ?_); (try (refine gate_guard Z14 ?_; dsimp only)); refine Pre.load_event rfl rfl rfl Z14 Z18 Try.underlying25 rfl Z11 ?_) | ((with_reducible refine Pre.gate_load 25 rfl ?_); (try (refine gate_guard Z14 ?_; dsimp only)); refine Pre.load_event_a rfl rfl rfl Z14 Pre.range25 Try.underlying25 rfl Z11 ?_) | ((with_reducible refine gate_dst (N := 1) rfl ?_); refine Sq.box 1 #[.int .i64 aD, .int .i64 aw, .int .i64 ax, .string au, .int .i64 aA, .int .i64 ay, .string av, .int .i64 ar, .int .i64 aC, .string az, .int .i64 ao, .string am, .int .i64 ah, .int .i64 aj, .int .i64 ak, .int .i64 ae, .int .i64 ag, .int .i64 ai, .int .i64 an, .string aa, .string ab, .slice aP ac.length aN, .int .i64 ap, .string aq, .slice aJ af.length aK] 25 ?_; intro aE hg w4 hbox hb; have al := Aside0.mk (hbox); have cd := Aside0.mk (Sq.ge hg Z2); have bV := Aside0.mk (Sq.ge hg Z2); replace HB := Aside0.mk (below_step Z2 hb); clear hb hbox hg; have hh := cells_25 al.out) | ((with_reducible refine gate_callee (f := 28) rfl ?_); refine goesL_ (some 12) rfl rfl Try.func28 Z11 rfl #[.agg #[.int .i64 aD, .int .i64 aw, .int .i64 ax, .string au, .int .i64 aA, .int .i64 ay, .string av, .int .i64 ar, .int .i64 aC, .string az, .int .i64 ao, .string am, .int .i64 ah, .int .i64 aj, .int .i64 ak, .int .i64 ae, .int .i64 ag, .int .i64 ai, .int .i64 an, .string aa, .string ab, .slice aP ac.length aN, .int .i64 ap, .string aq, .slice aJ af.length aK]] rfl Z4 ?_; (with_reducible refine (rerr_Right.calls k aD aw ax au aA ay av ar aC az ao am ah aj ak ae ag ai an aa ab _ _ ac ap aq _ _ af true _ ?side1 ?side2 ?side3 ?side4 A2.out).mono ?_); (case side1 => exact Z7); (case side2 => exact aZ.out); (case side3 => exact Z5); (case side4 => exact aT.out); rintro e w6 ⟨rfl, hb⟩; refine ⟨_, rfl, ?_⟩; replace al := Aside0.mk (blk_below (g := aE) Z3 hb); replace HB := Aside0.mk (below_step Z0 hb); clear hb; have iI := cells_25 al.out) | ((with_reducible refine gate_dst (N := 22) rfl ?_); refine Kd.R_lit (Kd.int .u8) _ 5 ?hg (N := 22) ?hd (xs := ([3, (wrap64 (ae * 128)) % 256, 0, ((ac.length : Int)) % 256] : List Int)) (inner := [.int .u8 3, .int .u8 ((wrap64 (ae * 128)) % 256), .int .u8 0, .int .u8 (((ac.length : Int)) % 256)]) (ok := fun _ => True) (okp := fun _ => True) ?hr ?hp (fun _ hk => hk) trivial (Below.refl _ _) (Nat.le_refl _) Z35 ?_; (case hd => rfl); (case hg => rfl); (case hr => first | (go_simp; done) | (go_simp; rfl)); (case hp => exact (Reps.one (show Kd.M (Kd.int .u8) _ _ _ 3 [.int .u8 3] from rfl) (Reps.one (show Kd.M (Kd.int .u8) _ _ _ ((wrap64 (ae * 128)) % 256) [.int .u8 ((wrap64 (ae * 128)) % 256)] from rfl) (Reps.one (show Kd.M (Kd.int .u8) _ _ _ 0 [.int .u8 0] from rfl) (Reps.one (show Kd.M (Kd.int .u8) _ _ _ (((ac.length : Int)) % 256) [.int .u8 (((ac.length : Int)) % 256)] from rfl) (Reps.none _ _)))))); intro lb w8 ho9 hb hg_ hnew_; clear hg_ hnew_; (first | rw [← Ny103.out] at ho9 | (simp only [Int.reduceToNat] at ho9; rw [← Ny103.out] at ho9)); have gR := Aside0.mk (Kd.R_lower ho9 (below_size Z0)); replace al := Aside0.mk (blk_below (g := aE) Z3 hb); replace HB := Aside0.mk (below_step Z0 hb); clear hb ho9; have fL := cells_25 al.out))
  go_loopg [4, 26] k (fun kq v4 pd w' => ∃ (cy : List Int) (cA : Int), pd = .int .i64 cA ∧ Aside0 (rerr_Put.l0 kq cy ac (ac.length : Int) cA aD aw ax au aA ay av ar aC az ao am ah aj ak ae ag ai an aa ab ac ap aq af = some (r1, r2)) ∧ Aside0 (kq ≤ k) ∧ Aside0 (Kd.R (Kd.int .u8) 5 w' w.heap.size (fun _ => True) v4 cy) ∧ Aside0 (w'.heap[aE]? = some (.cells #[.int .i64 aD, .int .i64 aw, .int .i64 ax, .string au, .int .i64 aA, .int .i64 ay, .string av, .int .i64 ar, .int .i64 aC, .string az, .int .i64 ao, .string am, .int .i64 ah, .int .i64 aj, .int .i64 ak, .int .i64 ae, .int .i64 ag, .int .i64 ai, .int .i64 an, .string aa, .string ab, (.slice aP ac.length aN), .int .i64 ap, .string aq, (.slice aJ af.length aK)] 25 (0, 0))) ∧ Aside0 (Below w.heap.size w w'))
  case atStart => exact ⟨(cC), (0), Z10, H', ⟨Nat.le_refl _⟩, ⟨Z53⟩, ⟨Z3⟩, ⟨Z0⟩⟩
  case round =>
   clear H'
   try clear c2
   try clear p2
   try clear c3
   try clear p6
   try clear fL
   try clear hh
   try clear iI
   obtain ⟨cy, cA, rfl, HA, HK1, HO_4, al, HB⟩ := hrel
   cases gk with
   | zero => exact absurd HA.out (by simp [rerr_Put.l0])
   | succ k1 =>
    have H := HA.out
    clear HA
    simp only [rerr_Put.l0] at H
    by_cases dC : cA < (ac.length : Int)
    ·rw [if_pos dC] at H
     have fg : decide (cA < (ac.length : Int)) = true := decide_eq_true dC
     clear dC
     by_cases dP : 0 ≤ cA
     ·rw [if_pos dP] at H
      have gB : decide (0 ≤ cA) = true := decide_eq_true dP
      clear dP
      by_cases dB : cA < (ac.length : Int)
      ·rw [if_pos dB] at H
       have fK : decide (cA < (ac.length : Int)) = true := decide_eq_true dB
       clear dB
       replace H := Option.bind_eq_some_iff.mp H
       obtain ⟨⟨aH, aQ⟩, fO, H⟩ := H
       replace H : (if cy.length + ((rd_T46 ac cA).f0).size < 140737488355328 then ((some (cy ++ bytesOf ((rd_T46 ac cA).f0) : List Int)).bind fun gb => (if gb.length + aH.size < 140737488355328 then (rerr_Put.l0 k1 (gb ++ bytesOf aH) ac (ac.length : Int) (wrap64 (cA + 1)) aD aw ax au aA ay av ar aC az ao am ah aj ak ae ag ai an aa ab ac ap aq af) else (none))) else (none)) = some (r1, r2) := H
       have jW := Aside0.mk fO
       clear fO
       by_cases dA : cy.length + ((rd_T46 ac cA).f0).size < 140737488355328
       ·rw [if_pos dA] at H
        have LMc15 := Aside0.mk dA
        clear dA
        obtain ⟨gb, hy110⟩ : ∃ y_ : List Int, y_ = (cy ++ bytesOf ((rd_T46 ac cA).f0)) := ⟨_, rfl⟩
        replace H : (if gb.length + aH.size < 140737488355328 then (rerr_Put.l0 k1 (gb ++ bytesOf aH) ac (ac.length : Int) (wrap64 (cA + 1)) aD aw ax au aA ay av ar aC az ao am ah aj ak ae ag ai an aa ab ac ap aq af) else (none)) = some (r1, r2) := by first | (rw [hy110]; with_reducible exact H) | (have H2_ := (Option.bind_some _ _).symm.trans H; rw [hy110]; with_reducible exact H2_) | (have H2_ := (Option.bind_some _ _).symm.trans H; with_reducible exact H2_) | with_reducible exact H | (rw [hy110]; exact H) | exact H
        have Ny110 := Aside0.mk hy110
        clear hy110
        by_cases dy : gb.length + aH.size < 140737488355328
        ·rw [if_pos dy] at H
         have LMc16 := Aside0.mk dy
         clear dy
         obtain ⟨li, hy113⟩ : ∃ y_ : List Int, y_ = (gb ++ bytesOf aH) := ⟨_, rfl⟩
         replace H : (rerr_Put.l0 k1 li ac (ac.length : Int) (wrap64 (cA + 1)) aD aw ax au aA ay av ar aC az ao am ah aj ak ae ag ai an aa ab ac ap aq af) = some (r1, r2) := by first | (rw [hy113]; with_reducible exact H) | (have H2_ := (Option.bind_some _ _).symm.trans H; rw [hy113]; with_reducible exact H2_) | (have H2_ := (Option.bind_some _ _).symm.trans H; with_reducible exact H2_) | with_reducible exact H | (rw [hy113]; exact H) | exact H
         have Ny113 := Aside0.mk hy113
         clear hy113
         have H' := Aside0.mk H
         clear H
         have p106 : 0 ≤ (cA : Int) := of_decide_eq_true Z8
         have q106 : cA < (ac.length : Int) := of_decide_eq_true Z8
         obtain ⟨ad106, e106, hx106_0, hx106_1⟩ := at_T46 cc.out cA p106 q106
         cases e106
         replace hx106_0 := Sq.up HB.out hx106_0
         replace hx106_1 := Sq.up HB.out hx106_1
         replace p106 := eq_true p106
         replace q106 := eq_true q106
         go_wp2_with (first | ((with_reducible refine Pre.gate_load 25 rfl ?_); (try (refine gate_guard Z14 ?_; dsimp only)); refine Pre.load_event rfl rfl rfl Z14 Z18 Try.underlying25 rfl Z11 ?_) | ((with_reducible refine Pre.gate_load 25 rfl ?_); (try (refine gate_guard Z14 ?_; dsimp only)); refine Pre.load_event_a rfl rfl rfl Z14 Pre.range25 Try.underlying25 rfl Z11 ?_) | ((with_reducible refine gate_dst (N := 6) rfl ?_); refine Sq.box 6 #[.string ⟨#[]⟩, .int .i64 0] 46 ?_; intro dK hg ip hbox hb; have cB := Aside0.mk (hbox); have mn := Aside0.mk (Sq.ge hg Z0); have jv := Aside0.mk (Sq.ge hg Z0); have fU := Aside0.mk (Sq.nl hg (blk_lt (g := aE) Z3)); have iL := Aside0.mk (Sq.ng hg (blk_lt (g := aE) Z3)); replace HO_4 := Aside0.mk (Kd.R_below Z51 hb); replace al := Aside0.mk (blk_below (g := aE) Z3 hb); replace HB := Aside0.mk (below_step Z0 hb); clear hb hbox hg; have hnb18 := iL.out; have hnc18 := fU.out; have hcz19_0 : ip.cell? ⟨dK, 0, none⟩ = some (.string ⟨#[]⟩) := (blk_cell cB.out 0).trans rfl; have hcz19_1 : ip.cell? ⟨dK, 1, none⟩ = some (.int .i64 0) := (blk_cell cB.out 1).trans rfl; have hfz19_0 := blk_frozen cB.out 0; have hfz19_1 := blk_frozen cB.out 1) | ((with_reducible refine gate_callee (f := 67) rfl ?_); refine goesL_ (some 33) rfl rfl Try.func67 Z11 rfl #[.int .i64 ((rd_T46 ac cA).f1), .int .i64 4] rfl Z4 ?_; (with_reducible refine (octet_Put.calls k1 ((rd_T46 ac cA).f1) 4 aH aQ _ jW.out).mono ?_); rintro e iM ⟨rfl, hb⟩; refine ⟨_, rfl, ?_⟩; replace HO_4 := Aside0.mk (Kd.R_below (by (with_reducible repeat (first | apply Kd.R_alloc | apply Kd.R_drewN | apply Kd.R_drew)); exact (Kd.R_mono (Kd.R_far (p := ⟨dK, 1, none⟩) (Kd.R_far (p := ⟨dK, 0, none⟩) (Kd.R_types HO_4.out cB.out Z21) (fun _ hk => hk.2) (.string ((rd_T46 ac cA).f0))) (fun _ hk => hk.2) (.int .i64 ((rd_T46 ac cA).f1))) (fun _ h_ => h_.1))) hb); replace al := Aside0.mk (blk_below (g := aE) (o := .cells #[.int .i64 aD, .int .i64 aw, .int .i64 ax, .string au, .int .i64 aA, .int .i64 ay, .string av, .int .i64 ar, .int .i64 aC, .string az, .int .i64 ao, .string am, .int .i64 ah, .int .i64 aj, .int .i64 ak, .int .i64 ae, .int .i64 ag, .int .i64 ai, .int .i64 an, .string aa, .string ab, .slice (some ad106) ac.length aN, .int .i64 ap, .string aq, .slice aJ af.length aK] 25 (0, 0)) (by (with_reducible repeat (first | refine blk_drewN ?_ _ | refine blk_drew ?_ | refine blk_alloc ?_ _)); refine blk_far ?_ fU.out _; (with_reducible repeat (first | refine blk_drewN ?_ _ | refine blk_drew ?_ | refine blk_alloc ?_ _)); refine blk_far ?_ fU.out _; (with_reducible repeat (first | refine blk_drewN ?_ _ | refine blk_drew ?_ | refine blk_alloc ?_ _)); exact al.out) hb); replace cB := Aside0.mk (blk_below (g := dK) (o := .cells #[.string ((rd_T46 ac cA).f0), .int .i64 ((rd_T46 ac cA).f1)] 46 (0, 0)) (by (with_reducible repeat (first | refine blk_drewN ?_ _ | refine blk_drew ?_ | refine blk_alloc ?_ _)); refine blk_put (cs := #[.string ((rd_T46 ac cA).f0), .int .i64 0]) ?_ 1 _ rfl; (with_reducible repeat (first | refine blk_drewN ?_ _ | refine blk_drew ?_ | refine blk_alloc ?_ _)); refine blk_put (cs := #[.string ⟨#[]⟩, .int .i64 0]) ?_ 0 _ rfl; (with_reducible repeat (first | refine blk_drewN ?_ _ | refine blk_drew ?_ | refine blk_alloc ?_ _)); exact cB.out) hb); replace HB := Aside0.mk (below_step Z25 hb); clear hb; (try clear hk); have hcz21_0 : iM.cell? ⟨dK, 0, none⟩ = some (.string ((rd_T46 ac cA).f0)) := (blk_cell cB.out 0).trans rfl; have hcz21_1 : iM.cell? ⟨dK, 1, none⟩ = some (.int .i64 ((rd_T46 ac cA).f1)) := (blk_cell cB.out 1).trans rfl; have hfz21_0 := blk_frozen cB.out 0; have hfz21_1 := blk_frozen cB.out 1) | (at_builtin; refine print_append_str (w0 := w) w.heap.size rfl (.tmp 36) _ 51 9 5 rfl Try.underlying51 Try.underlying9 info5 u4 cy ((rd_T46 ac cA).f0) rfl rfl ?aO ?aB ?aS ?aL ?_; (case aB => exact Z25); (case aO => exact (Kd.own_of_R Z51)); (case aS => exact (below_size Z25)); (case aL => have := LMc15.out; omega); intro mH kV ho0 hb hg; have ho := Kd.R_of_own (h1 := fun _ => rfl) (ok := fun _ => True) ho0 (fun _ _ => trivial); clear ho0; have hat := True.intro; rw [← Ny110.out] at ho; change Kd.R (Kd.int .u8) 5 kV w.heap.size (fun _ => True) mH gb at ho; have iB := Aside0.mk (ho); replace al := Aside0.mk (blk_grown (g := aE) (o := .cells #[.int .i64 aD, .int .i64 aw, .int .i64 ax, .string au, .int .i64 aA, .int .i64 ay, .string av, .int .i64 ar, .int .i64 aC, .string az, .int .i64 ao, .string am, .int .i64 ah, .int .i64 aj, .int .i64 ak, .int .i64 ae, .int .i64 ag, .int .i64 ai, .int .i64 an, .string aa, .string ab, .slice (some ad106) ac.length aN, .int .i64 ap, .string aq, .slice aJ af.length aK] 25 (0, 0)) Z3 hg (Kd.R_ne HO_4.out al.out Z21)); replace cB := Aside0.mk (blk_grown (g := dK) (o := .cells #[.string ((rd_T46 ac cA).f0), .int .i64 ((rd_T46 ac cA).f1)] 46 (0, 0)) Z44 hg (Kd.R_ne HO_4.out cB.out Z21)); replace HB := Aside0.mk (hb); clear HO_4; clear ho hb hg hat) | (at_builtin; refine print_append_str (w0 := w) w.heap.size rfl (.tmp 40) _ 51 9 5 rfl Try.underlying51 Try.underlying9 info5 mH gb aH rfl rfl ?aO ?aB ?aS ?aL ?_; (case aB => exact Z25); (case aO => exact (Kd.own_of_R (by (with_reducible repeat (first | apply Kd.R_alloc | apply Kd.R_drewN | apply Kd.R_drew)); exact iB.out))); (case aS => exact (below_size Z25)); (case aL => have := LMc16.out; omega); intro nS gW ho0 hb hg; have ho := Kd.R_of_own (h1 := fun _ => rfl) (ok := fun _ => True) ho0 (fun _ _ => trivial); clear ho0; have hat := True.intro; rw [← Ny113.out] at ho; change Kd.R (Kd.int .u8) 5 gW w.heap.size (fun _ => True) nS li at ho; have mI := Aside0.mk (ho); replace al := Aside0.mk (blk_grown (g := aE) (o := .cells #[.int .i64 aD, .int .i64 aw, .int .i64 ax, .string au, .int .i64 aA, .int .i64 ay, .string av, .int .i64 ar, .int .i64 aC, .string az, .int .i64 ao, .string am, .int .i64 ah, .int .i64 aj, .int .i64 ak, .int .i64 ae, .int .i64 ag, .int .i64 ai, .int .i64 an, .string aa, .string ab, .slice (some ad106) ac.length aN, .int .i64 ap, .string aq, .slice aJ af.length aK] 25 (0, 0)) Z3 hg (Kd.R_ne iB.out al.out Z21)); replace cB := Aside0.mk (blk_grown (g := dK) (o := .cells #[.string ((rd_T46 ac cA).f0), .int .i64 ((rd_T46 ac cA).f1)] 46 (0, 0)) Z44 hg (Kd.R_ne iB.out cB.out Z21)); replace HB := Aside0.mk (hb); clear iB; clear ho hb hg hat))
         go_roundg k1
         case measure => have := HK1.out; omega
         case rel => exact ⟨(li), (wrap64 (cA + 1)), Z10, H', ⟨Z49⟩, ⟨by (with_reducible repeat (first | apply Kd.R_alloc | apply Kd.R_drewN | apply Kd.R_drew)); exact mI.out⟩, ⟨Z3⟩, ⟨Z25⟩⟩
        ·rw [if_neg dy] at H
         exact absurd H Z35
       ·rw [if_neg dA] at H
        exact absurd H Z35
      ·rw [if_neg dB] at H
       exact absurd H Z35
     ·rw [if_neg dP] at H
      exact absurd H Z35
    ·rw [if_neg dC] at H
     have fg : decide (cA < (ac.length : Int)) = false := decide_eq_false dC
     clear dC
     replace H := Option.bind_eq_some_iff.mp H
     obtain ⟨⟨dU, eT⟩, jk, H⟩ := H
     replace H : (if (strOfNums cy).size + dU.size ≤ 9223372036854775807 then (some ((strOfNums cy) ++ dU, true)) else (none)) = some (r1, r2) := H
     have dN := Aside0.mk jk
     clear jk
     by_cases hU : (strOfNums cy).size + dU.size ≤ 9223372036854775807
     ·rw [if_pos hU] at H
      have c25b0 := eq_true hU
      have c25b1 : decide ((strOfNums cy).size + dU.size ≤ 9223372036854775807) = true := decide_eq_true hU
      try have mJ : (9223372036854775807 < (strOfNums cy).size + dU.size) = False := eq_false (Nat.not_lt.2 hU)
      try (have mK := mJ; simp only [ByteArray.size_append] at mK)
      simp only [Option.some.injEq, Prod.mk.injEq] at H
      obtain ⟨rfl, rfl⟩ := H
      have gC := cells_25 al.out
      go_wp2_with (first | ((with_reducible refine Pre.gate_load 25 rfl ?_); (try (refine gate_guard Z14 ?_; dsimp only)); refine Pre.load_event rfl rfl rfl Z14 Z18 Try.underlying25 rfl Z11 ?_) | ((with_reducible refine Pre.gate_load 25 rfl ?_); (try (refine gate_guard Z14 ?_; dsimp only)); refine Pre.load_event_a rfl rfl rfl Z14 Pre.range25 Try.underlying25 rfl Z11 ?_) | ((with_reducible refine gate_callee (f := 49) rfl ?_); refine goesL_ (some 47) rfl rfl Try.func49 Z11 rfl #[.slice aJ af.length aK] rfl Z4 ?_; (with_reducible refine (ext_Put.calls k1 _ _ af dU eT _ ?side1 ?side2 dN.out).mono ?_); (case side1 => exact Z5); (case side2 => exact aT.out); rintro e jT ⟨rfl, hb⟩; refine ⟨_, rfl, ?_⟩; replace HO_4 := Aside0.mk (Kd.R_below Z51 hb); replace al := Aside0.mk (blk_below (g := aE) Z3 hb); replace HB := Aside0.mk (below_step Z0 hb); clear hb; have hcv28 := own_string (P := Try.prog) Try.underlying51 Try.underlying5 Try.underlying9 (Kd.own_of_R HO_4.out)))
      go_ret2
      exact ⟨Z6, Z0⟩
     ·rw [if_neg hU] at H
      exact absurd H Z35
 ·replace c3 := Bool.eq_false_iff.mpr c3
  subst c3
  have H1 : (some ((⟨#[]⟩ : ByteArray), false)) = some (r1, r2) := by rw [if_neg (show ¬ (false = true) by decide)] at H; exact H
  clear H
  have H := H1
  clear H1
  simp only [Option.some.injEq, Prod.mk.injEq] at H
  obtain ⟨rfl, rfl⟩ := H
  go_enter Try.func26, Try.ntmps26
  go_wp2_with (first | ((with_reducible refine Pre.gate_load 25 rfl ?_); (try (refine gate_guard Z14 ?_; dsimp only)); refine Pre.load_event rfl rfl rfl Z14 Z18 Try.underlying25 rfl Z11 ?_) | ((with_reducible refine Pre.gate_load 25 rfl ?_); (try (refine gate_guard Z14 ?_; dsimp only)); refine Pre.load_event_a rfl rfl rfl Z14 Pre.range25 Try.underlying25 rfl Z11 ?_) | ((with_reducible refine gate_dst (N := 1) rfl ?_); refine Sq.box 1 #[.int .i64 aD, .int .i64 aw, .int .i64 ax, .string au, .int .i64 aA, .int .i64 ay, .string av, .int .i64 ar, .int .i64 aC, .string az, .int .i64 ao, .string am, .int .i64 ah, .int .i64 aj, .int .i64 ak, .int .i64 ae, .int .i64 ag, .int .i64 ai, .int .i64 an, .string aa, .string ab, .slice aP ac.length aN, .int .i64 ap, .string aq, .slice aJ af.length aK] 25 ?_; intro aE hg nt hbox hb; have al := Aside0.mk (hbox); have cd := Aside0.mk (Sq.ge hg Z2); have bV := Aside0.mk (Sq.ge hg Z2); replace HB := Aside0.mk (below_step Z2 hb); clear hb hbox hg; have iu := cells_25 al.out) | ((with_reducible refine gate_callee (f := 28) rfl ?_); refine goesL_ (some 12) rfl rfl Try.func28 Z11 rfl #[.agg #[.int .i64 aD, .int .i64 aw, .int .i64 ax, .string au, .int .i64 aA, .int .i64 ay, .string av, .int .i64 ar, .int .i64 aC, .string az, .int .i64 ao, .string am, .int .i64 ah, .int .i64 aj, .int .i64 ak, .int .i64 ae, .int .i64 ag, .int .i64 ai, .int .i64 an, .string aa, .string ab, .slice aP ac.length aN, .int .i64 ap, .string aq, .slice aJ af.length aK]] rfl Z4 ?_; (with_reducible refine (rerr_Right.calls k aD aw ax au aA ay av ar aC az ao am ah aj ak ae ag ai an aa ab _ _ ac ap aq _ _ af false _ ?side1 ?side2 ?side3 ?side4 A2.out).mono ?_); (case side1 => exact Z7); (case side2 => exact aZ.out); (case side3 => exact Z5); (case side4 => exact aT.out); rintro e jP ⟨rfl, hb⟩; refine ⟨_, rfl, ?_⟩; replace al := Aside0.mk (blk_below (g := aE) Z3 hb); replace HB := Aside0.mk (below_step Z0 hb); clear hb))
  go_ret2
  exact ⟨Z6, Z0⟩

end Go.Proofs.Ytccjakjjaemmkaa.PAE
