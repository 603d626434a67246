-- Written by mp.py, a program of this work (wip/tools), out of the translation; Lean checks it.
import Derived.Test.YtccjakjjaemmkaaPABxZ
import Derived.Test.YtccjakjjaemmkaaPABxoctet
import Derived.Test.YtccjakjjaemmkaaMake0
namespace Go.Proofs.Ytccjakjjaemmkaa.PAB
open Go.RowKit Go.Proofs.YtccjakjjaemmkaaW.PrintWords Go.Proofs.YtccjakjjaemmkaaW.PrintLast Go.Proofs.YtccjakjjaemmkaaW.PrintMore
attribute [local go_sem] max2_int min2_int max_two min_two max_three min_three max_four min_four   -- for this text's walks alone
set_option linter.unusedVariables false
set_option linter.unusedSimpArgs false

/-! ### ext_Get: function 59 -/
def ext_Get.l0 : Nat → List (S48) → ByteArray → Int → Int → Bool → Option ((List (S48)) × Int × Int)
 | 0, _, _, _, _, _ => none
 | k + 1, x5, ko, iY, kp, kr => (cursor_Left.f ko iY kp kr).bind fun aT => (if aT > 0 then ((cursor_Num.f ko iY kp kr 1).bind fun dh => ((cursor_Num.f dh.2.1 dh.2.2.1 dh.2.2.2.1 dh.2.2.2.2 1).bind fun eK => ((cursor_Text.f eK.2.1 eK.2.2.1 eK.2.2.2.1 eK.2.2.2.2 eK.1).bind fun bX => (if bX.2.2.2.2 = true then (some (([] : List (S48)), iY, 2)) else (if x5.length < 5864062014805 then (ext_Get.l0 k (x5 ++ [(⟨dh.1, bX.1⟩ : S48)]) bX.2.1 bX.2.2.1 bX.2.2.2.1 bX.2.2.2.2) else (none)))))) else (some (x5, 0, 0)))
def ext_Get.f (k : Nat) (a0 : ByteArray) : Option ((List (S48)) × Int × Int) := (cursor_New.f a0).bind fun bk => (ext_Get.l0 k ([] : List (S48)) bk.1 bk.2.1 bk.2.2.1 bk.2.2.2)
theorem ext_Get.mono_l : ∀ k, (∀ y0 y1 y2 y3 y4, LeO (ext_Get.l0 k y0 y1 y2 y3 y4) (ext_Get.l0 (k + 1) y0 y1 y2 y3 y4))
 | 0 => Sq.mz
 | k + 1 => by
  have ih0 := ext_Get.mono_l k
  ·intros
   unfold ext_Get.l0
   exact Sq.mo
theorem ext_Get.mono : ∀ a0 k, LeO (ext_Get.f k a0) (ext_Get.f (k + 1) a0) := by
 intro a0 k
 have ih0 := ext_Get.mono_l k
 unfold ext_Get.f
 exact Sq.mo
set_option maxHeartbeats 8000000 in
set_option maxRecDepth 100000 in
theorem ext_Get.calls (k : Nat) (a0 : ByteArray) (r1 : List (S48)) (r2 : Int) (r3 : Int) (w : World) (h : ext_Get.f k a0 = some (r1, r2, r3)) :
  Calls Try.prog 59 #[.string a0] w fun e w' => ∃ v0_ : Value, e = .returned (.tuple #[v0_, .int .i64 r2, .int .i64 r3]) ∧ Kd.R k48 48 w' w.heap.size (fun _ => True) v0_ r1 ∧ Below w.heap.size w w' := by
 have ie := Try.underlying60
 have mn := Try.underlying48
 have HB := Aside0.mk (Below.refl w.heap.size w)
 have H : ((cursor_New.f a0).bind fun bk => (ext_Get.l0 k ([] : List (S48)) bk.1 bk.2.1 bk.2.2.1 bk.2.2.2)) = some (r1, r2, r3) := h
 clear h
 replace H := Option.bind_eq_some_iff.mp H
 obtain ⟨⟨ck, aM, aW, aY⟩, gb, H⟩ := H
 replace H : (ext_Get.l0 k ([] : List (S48)) ck aM aW aY) = some (r1, r2, r3) := H
 have A2 := Aside0.mk gb
 clear gb
 have H' := Aside0.mk H
 clear H
 go_enter Try.func59, Try.ntmps59
 go_wp2_with (first | ((with_reducible refine gate_callee (f := 61) rfl ?_); refine goesL_ (some 11) rfl rfl Try.func61 Z14 rfl #[.string a0] rfl Z4 ?_; (with_reducible refine (cursor_New.calls a0 ck aM aW aY _ A2.out).mono ?_); rintro e w3 ⟨rfl, hb⟩; refine ⟨_, rfl, ?_⟩; replace HB := Aside0.mk (below_step Z1 hb); clear hb) | ((with_reducible refine gate_dst (N := 6) rfl ?_); refine Sq.box 6 #[.string ⟨#[]⟩, .int .i64 0, .int .i64 0, .bool false] 60 ?_; intro cM hg w4 hbox hb; have cN := Aside0.mk (hbox); have nH := Aside0.mk (Sq.ge hg Z1); have hZ := Aside0.mk (Sq.ge hg Z1); replace HB := Aside0.mk (below_step Z1 hb); clear hb hbox hg; have ji := cells_4 cN.out))
 go_loopg [5, 6] k (fun kq v5 v6 w' => ∃ (aj : List (S48)) (ck : ByteArray) (aM : Int) (aW : Int) (aY : Bool) (cM : Nat), v6 = .pointer (some ⟨cM, 0, none⟩) ∧ Aside0 (ext_Get.l0 kq aj ck aM aW aY = some (r1, r2, r3)) ∧ Aside0 (kq ≤ k) ∧ Aside0 (Kd.R k48 48 w' w.heap.size (fun _ => True) v5 aj) ∧ Aside0 (w'.heap[cM]? = some (.cells #[.string ck, .int .i64 aM, .int .i64 aW, .bool aY] 60 (0, 0))) ∧ Aside0 (w.heap.size ≤ cM) ∧ Aside0 (Below w.heap.size w w'))
 case atStart => exact ⟨([] : List (S48)), ck, aM, aW, aY, cM, rfl, H', ⟨Nat.le_refl _⟩, ⟨Z13⟩, ⟨Z65⟩, hZ, ⟨Z26⟩⟩
 case round =>
  clear H'
  try clear p2
  try clear c5
  try clear ji
  clear cN hZ nH HB
  obtain ⟨aj, ck, aM, aW, aY, cM, rfl, HA, HK1, HO_5, cN, hZ, HB⟩ := hrel
  have nH := hZ
  cases gk with
  | zero => exact absurd HA.out (by simp [ext_Get.l0])
  | succ k1 =>
   have H := HA.out
   clear HA
   simp only [ext_Get.l0] at H
   replace H := Option.bind_eq_some_iff.mp H
   obtain ⟨aT, qR, H⟩ := H
   replace H : (if aT > 0 then ((cursor_Num.f ck aM aW aY 1).bind fun dh => ((cursor_Num.f dh.2.1 dh.2.2.1 dh.2.2.2.1 dh.2.2.2.2 1).bind fun eK => ((cursor_Text.f eK.2.1 eK.2.2.1 eK.2.2.2.1 eK.2.2.2.2 eK.1).bind fun bX => (if bX.2.2.2.2 = true then (some (([] : List (S48)), aM, 2)) else (if aj.length < 5864062014805 then (ext_Get.l0 k1 (aj ++ [(⟨dh.1, bX.1⟩ : S48)]) bX.2.1 bX.2.2.1 bX.2.2.2.1 bX.2.2.2.2) else (none)))))) else (some (aj, 0, 0))) = some (r1, r2, r3) := H
   have A6 := Aside0.mk qR
   clear qR
   by_cases c7 : aT > 0
   ·rw [if_pos c7] at H
    have fp : decide (0 < aT) = true := decide_eq_true c7
    clear c7
    replace H := Option.bind_eq_some_iff.mp H
    obtain ⟨⟨aV, bi, bl, cK, el⟩, nA, H⟩ := H
    replace H : ((cursor_Num.f bi bl cK el 1).bind fun eK => ((cursor_Text.f eK.2.1 eK.2.2.1 eK.2.2.2.1 eK.2.2.2.2 eK.1).bind fun bX => (if bX.2.2.2.2 = true then (some (([] : List (S48)), aM, 2)) else (if aj.length < 5864062014805 then (ext_Get.l0 k1 (aj ++ [(⟨aV, bX.1⟩ : S48)]) bX.2.1 bX.2.2.1 bX.2.2.2.1 bX.2.2.2.2) else (none))))) = some (r1, r2, r3) := H
    have A8 := Aside0.mk nA
    clear nA
    replace H := Option.bind_eq_some_iff.mp H
    obtain ⟨⟨dy, cT, cn, cY, dZ⟩, tL, H⟩ := H
    replace H : ((cursor_Text.f cT cn cY dZ dy).bind fun bX => (if bX.2.2.2.2 = true then (some (([] : List (S48)), aM, 2)) else (if aj.length < 5864062014805 then (ext_Get.l0 k1 (aj ++ [(⟨aV, bX.1⟩ : S48)]) bX.2.1 bX.2.2.1 bX.2.2.2.1 bX.2.2.2.2) else (none)))) = some (r1, r2, r3) := H
    have A9 := Aside0.mk tL
    clear tL
    replace H := Option.bind_eq_some_iff.mp H
    obtain ⟨⟨cv, cm, co, dc, dB⟩, ju, H⟩ := H
    replace H : (if dB = true then (some (([] : List (S48)), aM, 2)) else (if aj.length < 5864062014805 then (ext_Get.l0 k1 (aj ++ [(⟨aV, cv⟩ : S48)]) cm co dc dB) else (none))) = some (r1, r2, r3) := H
    have kO := Aside0.mk ju
    clear ju
    by_cases ee : dB = true
    ·subst ee
     have H1 : (some (([] : List (S48)), aM, 2)) = some (r1, r2, r3) := by rw [if_pos rfl] at H; exact H
     clear H
     have H := H1
     clear H1
     simp only [Option.some.injEq, Prod.mk.injEq] at H
     obtain ⟨rfl, rfl, rfl⟩ := H
     have jU := cells_4 cN.out
     go_wp2_with (first | ((with_reducible refine gate_callee (f := 76) rfl ?_); refine goesL_ (some 13) rfl rfl Try.func76 Z14 rfl #[.agg #[.string ck, .int .i64 aM, .int .i64 aW, .bool aY]] rfl Z4 ?_; (with_reducible refine (cursor_Left.calls ck aM aW aY aT _ A6.out).mono ?_); rintro e ja ⟨rfl, hb⟩; refine ⟨_, rfl, ?_⟩; replace HO_5 := Aside0.mk (Kd.R_below Z50 hb); replace cN := Aside0.mk (blk_below (g := cM) (o := .cells #[.string ck, .int .i64 aM, .int .i64 aW, .bool aY] 60 (0, 0)) Z28 hb); replace HB := Aside0.mk (below_step Z26 hb); clear hb; have iH := cells_4 cN.out) | ((with_reducible refine gate_dst (N := 8) rfl ?_); refine Sq.box 8 #[.int .i64 0, .string ⟨#[]⟩] 48 ?_; intro bn hg rR hbox hb; have bf := Aside0.mk (hbox); have jQ := Aside0.mk (Sq.ge hg Z26); have gd := Aside0.mk (Sq.ge hg Z26); have fY := Aside0.mk (Sq.nl hg (blk_lt (g := cM) (o := .cells #[.string ck, .int .i64 aM, .int .i64 aW, .bool aY] 60 (0, 0)) Z28)); have cR := Aside0.mk (Sq.ng hg (blk_lt (g := cM) (o := .cells #[.string ck, .int .i64 aM, .int .i64 aW, .bool aY] 60 (0, 0)) Z28)); replace HO_5 := Aside0.mk (Kd.R_below (Kd.R_elderB Z50 bn (Nat.le_of_eq hg.symm)) hb); replace cN := Aside0.mk (blk_below (g := cM) (o := .cells #[.string ck, .int .i64 aM, .int .i64 aW, .bool aY] 60 (0, 0)) Z28 hb); replace HB := Aside0.mk (below_step Z26 hb); clear hb hbox hg; have hnb16 := fY.out; have hnc16 := cR.out; have nh := cells_4 cN.out) | ((with_reducible refine gate_callee (f := 62) rfl ?_); refine goesL_ (some 19) rfl rfl Try.func62 Z14 rfl #[.agg #[.string ck, .int .i64 aM, .int .i64 aW, .bool aY], .int .i64 1] rfl Z4 ?_; (with_reducible refine (cursor_Num.calls ck aM aW aY 1 aV bi bl cK el _ A8.out).mono ?_); rintro e li ⟨rfl, hb⟩; refine ⟨_, rfl, ?_⟩; replace HO_5 := Aside0.mk (Kd.R_below Z50 hb); replace cN := Aside0.mk (blk_below (g := cM) (o := .cells #[.string ck, .int .i64 aM, .int .i64 aW, .bool aY] 60 (0, 0)) Z28 hb); replace bf := Aside0.mk (blk_below (g := bn) (o := .cells #[.int .i64 0, .string ⟨#[]⟩] 48 (0, 0)) Z25 hb); replace HB := Aside0.mk (below_step Z21 hb); clear hb; have mg : li.cell? ⟨bn, 0, none⟩ = some (.int .i64 0) := (blk_cell bf.out 0).trans rfl; have mh : li.cell? ⟨bn, 1, none⟩ = some (.string ⟨#[]⟩) := (blk_cell bf.out 1).trans rfl; have hfz19_0 := blk_frozen bf.out 0; have hfz19_1 := blk_frozen bf.out 1; have kb := cells_4 cN.out) | ((with_reducible refine gate_callee (f := 62) rfl ?_); refine goesL_ (some 25) rfl rfl Try.func62 Z14 rfl #[.agg #[.string bi, .int .i64 bl, .int .i64 cK, .bool el], .int .i64 1] rfl Z4 ?_; (with_reducible refine (cursor_Num.calls bi bl cK el 1 dy cT cn cY dZ _ A9.out).mono ?_); rintro e oN ⟨rfl, hb⟩; refine ⟨_, rfl, ?_⟩; replace HO_5 := Aside0.mk (Kd.R_below Z57 hb); replace cN := Aside0.mk (blk_below (g := cM) (o := .cells #[.string bi, .int .i64 bl, .int .i64 cK, .bool el] 60 (0, 0)) Z48 hb); replace bf := Aside0.mk (blk_below (g := bn) (o := .cells #[.int .i64 aV, .string ⟨#[]⟩] 48 (0, 0)) Z42 hb); replace HB := Aside0.mk (below_step Z21 hb); clear hb; (try clear hk); have jV := cells_4 cN.out) | ((with_reducible refine gate_callee (f := 60) rfl ?_); refine goesL_ (some 31) rfl rfl Try.func60 Z14 rfl #[.agg #[.string cT, .int .i64 cn, .int .i64 cY, .bool dZ], .int .i64 dy] rfl Z4 ?_; (with_reducible refine (cursor_Text.calls cT cn cY dZ dy cv cm co dc true _ kO.out).mono ?_); rintro e jS ⟨rfl, hb⟩; refine ⟨_, rfl, ?_⟩; replace HO_5 := Aside0.mk (Kd.R_below Z66 hb); replace cN := Aside0.mk (blk_below (g := cM) (o := .cells #[.string cT, .int .i64 cn, .int .i64 cY, .bool dZ] 60 (0, 0)) Z65 hb); replace bf := Aside0.mk (blk_below (g := bn) (o := .cells #[.int .i64 aV, .string ⟨#[]⟩] 48 (0, 0)) Z53 hb); replace HB := Aside0.mk (below_step Z21 hb); clear hb; (try clear hk); have hcz24_0 : jS.cell? ⟨bn, 0, none⟩ = some (.int .i64 aV) := (blk_cell bf.out 0).trans rfl; have hcz24_1 : jS.cell? ⟨bn, 1, none⟩ = some (.string ⟨#[]⟩) := (blk_cell bf.out 1).trans rfl; have hfz24_0 := blk_frozen bf.out 0; have hfz24_1 := blk_frozen bf.out 1; have kd := cells_4 cN.out))
     go_ret3
     exact ⟨_, Z5, Z13, Z21⟩
    ·replace ee := Bool.eq_false_iff.mpr ee
     subst ee
     have H1 : (if aj.length < 5864062014805 then (ext_Get.l0 k1 (aj ++ [(⟨aV, cv⟩ : S48)]) cm co dc false) else (none)) = some (r1, r2, r3) := by rw [if_neg (show ¬ (false = true) by decide)] at H; exact H
     clear H
     have H := H1
     clear H1
     by_cases mx : aj.length < 5864062014805
     ·rw [if_pos mx] at H
      have LMc26 := Aside0.mk mx
      clear mx
      obtain ⟨rL, hy123⟩ : ∃ y_ : List (S48), y_ = (aj ++ [(⟨aV, cv⟩ : S48)]) := ⟨_, rfl⟩
      replace H : (ext_Get.l0 k1 rL cm co dc false) = some (r1, r2, r3) := by first | (rw [hy123]; with_reducible exact H) | (have H2_ := (Option.bind_some _ _).symm.trans H; rw [hy123]; with_reducible exact H2_) | (have H2_ := (Option.bind_some _ _).symm.trans H; with_reducible exact H2_) | with_reducible exact H | (rw [hy123]; exact H) | exact H
      have Ny123 := Aside0.mk hy123
      clear hy123
      have H' := Aside0.mk H
      clear H
      have na := cells_4 cN.out
      go_wp2_with (first | ((with_reducible refine gate_callee (f := 76) rfl ?_); refine goesL_ (some 13) rfl rfl Try.func76 Z14 rfl #[.agg #[.string ck, .int .i64 aM, .int .i64 aW, .bool aY]] rfl Z4 ?_; (with_reducible refine (cursor_Left.calls ck aM aW aY aT _ A6.out).mono ?_); rintro e nr ⟨rfl, hb⟩; refine ⟨_, rfl, ?_⟩; replace HO_5 := Aside0.mk (Kd.R_below Z50 hb); replace cN := Aside0.mk (blk_below (g := cM) (o := .cells #[.string ck, .int .i64 aM, .int .i64 aW, .bool aY] 60 (0, 0)) Z28 hb); replace HB := Aside0.mk (below_step Z26 hb); clear hb; have nC := cells_4 cN.out) | ((with_reducible refine gate_dst (N := 8) rfl ?_); refine Sq.box 8 #[.int .i64 0, .string ⟨#[]⟩] 48 ?_; intro bn hg sc hbox hb; have bf := Aside0.mk (hbox); have jQ := Aside0.mk (Sq.ge hg Z26); have gd := Aside0.mk (Sq.ge hg Z26); have fY := Aside0.mk (Sq.nl hg (blk_lt (g := cM) (o := .cells #[.string ck, .int .i64 aM, .int .i64 aW, .bool aY] 60 (0, 0)) Z28)); have cR := Aside0.mk (Sq.ng hg (blk_lt (g := cM) (o := .cells #[.string ck, .int .i64 aM, .int .i64 aW, .bool aY] 60 (0, 0)) Z28)); replace HO_5 := Aside0.mk (Kd.R_below (Kd.R_elderB Z50 bn (Nat.le_of_eq hg.symm)) hb); replace cN := Aside0.mk (blk_below (g := cM) (o := .cells #[.string ck, .int .i64 aM, .int .i64 aW, .bool aY] 60 (0, 0)) Z28 hb); replace HB := Aside0.mk (below_step Z26 hb); clear hb hbox hg; have ri := fY.out; have rj := cR.out; have qT := cells_4 cN.out) | ((with_reducible refine gate_callee (f := 62) rfl ?_); refine goesL_ (some 19) rfl rfl Try.func62 Z14 rfl #[.agg #[.string ck, .int .i64 aM, .int .i64 aW, .bool aY], .int .i64 1] rfl Z4 ?_; (with_reducible refine (cursor_Num.calls ck aM aW aY 1 aV bi bl cK el _ A8.out).mono ?_); rintro e oA ⟨rfl, hb⟩; refine ⟨_, rfl, ?_⟩; replace HO_5 := Aside0.mk (Kd.R_below Z50 hb); replace cN := Aside0.mk (blk_below (g := cM) (o := .cells #[.string ck, .int .i64 aM, .int .i64 aW, .bool aY] 60 (0, 0)) Z28 hb); replace bf := Aside0.mk (blk_below (g := bn) (o := .cells #[.int .i64 0, .string ⟨#[]⟩] 48 (0, 0)) Z25 hb); replace HB := Aside0.mk (below_step Z21 hb); clear hb; have hcz34_0 : oA.cell? ⟨bn, 0, none⟩ = some (.int .i64 0) := (blk_cell bf.out 0).trans rfl; have hcz34_1 : oA.cell? ⟨bn, 1, none⟩ = some (.string ⟨#[]⟩) := (blk_cell bf.out 1).trans rfl; have hfz34_0 := blk_frozen bf.out 0; have hfz34_1 := blk_frozen bf.out 1; have nD := cells_4 cN.out) | ((with_reducible refine gate_callee (f := 62) rfl ?_); refine goesL_ (some 25) rfl rfl Try.func62 Z14 rfl #[.agg #[.string bi, .int .i64 bl, .int .i64 cK, .bool el], .int .i64 1] rfl Z4 ?_; (with_reducible refine (cursor_Num.calls bi bl cK el 1 dy cT cn cY dZ _ A9.out).mono ?_); rintro e sK ⟨rfl, hb⟩; refine ⟨_, rfl, ?_⟩; replace HO_5 := Aside0.mk (Kd.R_below Z57 hb); replace cN := Aside0.mk (blk_below (g := cM) (o := .cells #[.string bi, .int .i64 bl, .int .i64 cK, .bool el] 60 (0, 0)) Z48 hb); replace bf := Aside0.mk (blk_below (g := bn) (o := .cells #[.int .i64 aV, .string ⟨#[]⟩] 48 (0, 0)) Z42 hb); replace HB := Aside0.mk (below_step Z21 hb); clear hb; (try clear hk); have qU := cells_4 cN.out) | ((with_reducible refine gate_callee (f := 60) rfl ?_); refine goesL_ (some 31) rfl rfl Try.func60 Z14 rfl #[.agg #[.string cT, .int .i64 cn, .int .i64 cY, .bool dZ], .int .i64 dy] rfl Z4 ?_; (with_reducible refine (cursor_Text.calls cT cn cY dZ dy cv cm co dc false _ kO.out).mono ?_); rintro e sL ⟨rfl, hb⟩; refine ⟨_, rfl, ?_⟩; replace HO_5 := Aside0.mk (Kd.R_below Z66 hb); replace cN := Aside0.mk (blk_below (g := cM) (o := .cells #[.string cT, .int .i64 cn, .int .i64 cY, .bool dZ] 60 (0, 0)) Z65 hb); replace bf := Aside0.mk (blk_below (g := bn) (o := .cells #[.int .i64 aV, .string ⟨#[]⟩] 48 (0, 0)) Z53 hb); replace HB := Aside0.mk (below_step Z21 hb); clear hb; (try clear hk); have mq : sL.cell? ⟨bn, 0, none⟩ = some (.int .i64 aV) := (blk_cell bf.out 0).trans rfl; have mr : sL.cell? ⟨bn, 1, none⟩ = some (.string ⟨#[]⟩) := (blk_cell bf.out 1).trans rfl; have hfz39_0 := blk_frozen bf.out 0; have hfz39_1 := blk_frozen bf.out 1; have pY := cells_4 cN.out) | ((with_reducible refine gate_builtin (b := .append) (xs := #[.tmp 38, .tmp 40]) rfl ?_); at_builtin; refine Kd.R_append k48 (w0 := w) w.heap.size rfl (.tmp 38) (.tmp 40) 23 48 (.agg #[(.int .i64 0), (.string ⟨#[]⟩)]) 24 rfl Try.underlying23 info48 rfl Z29 Z40 u5 aj (⟨aV, cv⟩ : S48) [.int .i64 aV, .string cv] (fun k_ => k_ ≠ bn) (fun _ => False) rfl (by first | (go_simp; done) | (go_simp; rfl)) ?aP (fun _ hk => hk.elim) ?aF ?aO ?aB ?aS ?aL ?_; (case aP => exact k48_mkM _ _ _ (⟨aV, cv⟩ : S48)); (case aB => exact Z21); (case aF => exact (fun k_ hk => Kd.freshB (g := bn) (o := .cells #[.int .i64 aV, .string cv] 48 (0, 0)) Z41 k_ hk)); (case aO => exact (by (with_reducible repeat (first | apply Kd.R_alloc | apply Kd.R_drewN | apply Kd.R_drew)); exact Kd.R_mono (Kd.R_far (p := ⟨cM, 3, none⟩) (Kd.R_far (p := ⟨cM, 2, none⟩) (Kd.R_far (p := ⟨cM, 1, none⟩) (Kd.R_far (p := ⟨cM, 0, none⟩) (Kd.R_far (p := ⟨bn, 1, none⟩) (Kd.R_types (Kd.R_mono HO_5.out (fun k_ hk => (⟨hk, hk.2⟩ : _ ∧ k_ ≠ bn))) cN.out Z29) (fun _ hk => hk.1.2) (.string cv)) (fun _ hk => hk.2) (.string cm)) (fun _ hk => hk.2) (.int .i64 co)) (fun _ hk => hk.2) (.int .i64 dc)) (fun _ hk => hk.2) (.bool false)) (fun _ hk => hk.1.1.2))); (case aS => exact (below_size Z21)); (case aL => have := LMc26.out; omega); intro qs w41 ho hb hg hat; rw [← Ny123.out] at ho; have fU := Aside0.mk (ho); replace cN := Aside0.mk (blk_grown (g := cM) (o := .cells #[.string cm, .int .i64 co, .int .i64 dc, .bool false] 60 (0, 0)) Z48 hg (Kd.R_ne HO_5.out cN.out Z29)); replace bf := Aside0.mk (blk_grown (g := bn) (o := .cells #[.int .i64 aV, .string cv] 48 (0, 0)) Z41 hg (Kd.R_away HO_5.out (fun _ hk => hk.2))); replace HB := Aside0.mk (hb); clear HO_5; clear ho hb hg hat; have rm := cells_4 cN.out) | ((with_reducible refine gate_dst (N := 6) rfl ?_); refine Sq.box 6 #[.string ⟨#[]⟩, .int .i64 0, .int .i64 0, .bool false] 60 ?_; intro jC hg oO hbox hb; have lY := Aside0.mk (hbox); have GW126 := Aside0.mk (Sq.ge hg Z21); have nI := Aside0.mk (Sq.ge hg Z21); have kD := Aside0.mk (Sq.nl hg (blk_lt (g := cM) (o := .cells #[.string cm, .int .i64 co, .int .i64 dc, .bool false] 60 (0, 0)) Z28)); have kE := Aside0.mk (Sq.ng hg (blk_lt (g := cM) (o := .cells #[.string cm, .int .i64 co, .int .i64 dc, .bool false] 60 (0, 0)) Z28)); have kF := Aside0.mk (Sq.nl hg (blk_lt (g := bn) (o := .cells #[.int .i64 aV, .string cv] 48 (0, 0)) Z25)); have kG := Aside0.mk (Sq.ng hg (blk_lt (g := bn) (o := .cells #[.int .i64 aV, .string cv] 48 (0, 0)) Z25)); replace fU := Aside0.mk (Kd.R_below Z87 hb); replace cN := Aside0.mk (blk_below (g := cM) (o := .cells #[.string cm, .int .i64 co, .int .i64 dc, .bool false] 60 (0, 0)) Z28 hb); replace bf := Aside0.mk (blk_below (g := bn) (o := .cells #[.int .i64 aV, .string cv] 48 (0, 0)) Z25 hb); replace HB := Aside0.mk (below_step Z21 hb); clear hb hbox hg; have nk := kE.out; have nm := kD.out; have rn := kG.out; have ro := kF.out; have hcz46 := cells_4 lY.out))
      go_roundg k1
      case measure => have := HK1.out; omega
      case rel => exact ⟨rL, cm, co, dc, false, jC, rfl, H', ⟨Z86⟩, ⟨by (with_reducible repeat (first | apply Kd.R_alloc | apply Kd.R_drewN | apply Kd.R_drew)); exact Kd.R_mono (Kd.R_far (p := ⟨jC, 3, none⟩) (Kd.R_far (p := ⟨jC, 2, none⟩) (Kd.R_far (p := ⟨jC, 1, none⟩) (Kd.R_far (p := ⟨jC, 0, none⟩) (Kd.R_types fU.out lY.out Z29) (fun _ hk => hk.2) (.string cm)) (fun _ hk => hk.2) (.int .i64 co)) (fun _ hk => hk.2) (.int .i64 dc)) (fun _ hk => hk.2) (.bool false)) (fun _ hk => trivial)⟩, ⟨by (with_reducible repeat (first | refine blk_drewN ?_ _ | refine blk_drew ?_ | refine blk_alloc ?_ _)); apply blk_puts4; (with_reducible repeat (first | refine blk_drewN ?_ _ | refine blk_drew ?_ | refine blk_alloc ?_ _)); exact lY.out⟩, nI, ⟨by repeat (first | (with_reducible first | exact HB.out | apply below_alloc | apply pw_below_drewN | apply below_drew1 | refine below_set ?_ hZ.out | refine below_set ?_ gd.out | refine below_set ?_ nI.out) | exact HB.out)⟩⟩
     ·rw [if_neg mx] at H
      exact absurd H Z71
   ·rw [if_neg c7] at H
    have fp : decide (0 < aT) = false := decide_eq_false c7
    clear c7
    simp only [Option.some.injEq, Prod.mk.injEq] at H
    obtain ⟨rfl, rfl, rfl⟩ := H
    have nn := cells_4 cN.out
    go_wp2_with (first | ((with_reducible refine gate_callee (f := 76) rfl ?_); refine goesL_ (some 13) rfl rfl Try.func76 Z14 rfl #[.agg #[.string ck, .int .i64 aM, .int .i64 aW, .bool aY]] rfl Z4 ?_; (with_reducible refine (cursor_Left.calls ck aM aW aY aT _ A6.out).mono ?_); rintro e pj ⟨rfl, hb⟩; refine ⟨_, rfl, ?_⟩; replace HO_5 := Aside0.mk (Kd.R_below Z50 hb); replace cN := Aside0.mk (blk_below (g := cM) (o := .cells #[.string ck, .int .i64 aM, .int .i64 aW, .bool aY] 60 (0, 0)) Z28 hb); replace HB := Aside0.mk (below_step Z26 hb); clear hb))
    go_ret3
    exact ⟨_, Z5, Z50, Z26⟩

/-! ### ext_Right: function 55 -/
def ext_Right.f (k : Nat) (l0 : List (S48)) : Option (Bool) := (msg_Subs.f k l0 0 255).bind fun ck => (some ck)
theorem ext_Right.mono : ∀ a0 k, LeO (ext_Right.f k a0) (ext_Right.f (k + 1) a0) := by
 intro a0 k
 unfold ext_Right.f
 have m0 := msg_Subs.mono
 exact Sq.mo
set_option maxHeartbeats 8000000 in
set_option maxRecDepth 100000 in
theorem ext_Right.calls (k : Nat) (A0 : Option Addr) (c0 : Nat) (l0 : List (S48)) (r : Bool) (w : World) (hS : Kd.C k48 w A0 l0.length l0) (gN : l0.length ≤ c0) (h : ext_Right.f k l0 = some r) :
  Calls Try.prog 55 #[.slice A0 l0.length c0] w fun e w' => e = .returned (.bool r) ∧ Below w.heap.size w w' := by
 have gY := Aside0.mk hS
 have lh := Aside0.mk gN
 clear hS gN
 have HB := Aside0.mk (Below.refl w.heap.size w)
 have H : ((msg_Subs.f k l0 0 255).bind fun ck => (some ck)) = some r := h
 clear h
 replace H := Option.bind_eq_some_iff.mp H
 obtain ⟨ck, gb, H⟩ := H
 replace H : (some ck) = some r := H
 have A2 := Aside0.mk gb
 clear gb
 obtain rfl := Option.some.inj H
 go_enter Try.func55, Try.ntmps55
 go_wp2_with (first | ((with_reducible refine gate_callee (f := 74) rfl ?_); refine goesL_ (some 4) rfl rfl Try.func74 Z14 rfl #[.slice A0 l0.length c0, .int .i64 0, .int .i64 255] rfl Z4 ?_; (with_reducible refine (msg_Subs.calls k _ _ l0 0 255 ck _ ?side1 ?side2 A2.out).mono ?_); (case side1 => exact Z80); (case side2 => exact lh.out); rintro e w3 ⟨rfl, hb⟩; refine ⟨_, rfl, ?_⟩; replace HB := Aside0.mk (below_step Z1 hb); clear hb))
 go_ret
 exact ⟨Z5, Z1⟩

/-! ### ext_Put: function 49 -/
def ext_Put.l0 : Nat → List Int → List (S48) → Int → Int → Option (ByteArray × Bool)
 | 0, _, _, _, _ => none
 | k + 1, x4, oQ, tM, nJ => if nJ < tM then (if 0 ≤ nJ then (if nJ < (oQ.length : Int) then ((some (([((rd_T48 oQ nJ).f0) % 256, ((((rd_T48 oQ nJ).f1).size : Int)) % 256] : List Int) : List Int)).bind fun iZ => (if x4.length + iZ.length < 140737488355328 then ((some (x4 ++ iZ : List Int)).bind fun ia => (if ia.length + ((rd_T48 oQ nJ).f1).size < 140737488355328 then (ext_Put.l0 k (ia ++ bytesOf ((rd_T48 oQ nJ).f1)) oQ tM (wrap64 (nJ + 1))) else (none))) else (none))) else (none)) else (none)) else (some (strOfNums x4, true))
def ext_Put.f (k : Nat) (l0 : List (S48)) : Option (ByteArray × Bool) := (ext_Right.f k l0).bind fun ck => (if ck = true then ((msg_Bytes.f k l0).bind fun aM => (if 0 ≤ aM then (if (aM : Int).toNat ≤ 281474976710656 then (ext_Put.l0 k (List.nil) l0 (l0.length : Int) 0) else (none)) else (none))) else (some ((⟨#[]⟩ : ByteArray), false)))
theorem ext_Put.mono_l : ∀ k, (∀ y0 y1 y2 y3, LeO (ext_Put.l0 k y0 y1 y2 y3) (ext_Put.l0 (k + 1) y0 y1 y2 y3))
 | 0 => Sq.mz
 | k + 1 => by
  have ih0 := ext_Put.mono_l k
  ·intros
   unfold ext_Put.l0
   have m0 := ext_Right.mono
   have m1 := msg_Bytes.mono
   exact Sq.mo
theorem ext_Put.mono : ∀ a0 k, LeO (ext_Put.f k a0) (ext_Put.f (k + 1) a0) := by
 intro a0 k
 have ih0 := ext_Put.mono_l k
 unfold ext_Put.f
 have m0 := ext_Right.mono
 have m1 := msg_Bytes.mono
 exact Sq.mo
set_option maxHeartbeats 8000000 in
set_option maxRecDepth 100000 in
theorem ext_Put.calls (k : Nat) (A0 : Option Addr) (c0 : Nat) (l0 : List (S48)) (r1 : ByteArray) (r2 : Bool) (w : World) (hS : Kd.C k48 w A0 l0.length l0) (gN : l0.length ≤ c0) (h : ext_Put.f k l0 = some (r1, r2)) :
  Calls Try.prog 49 #[.slice A0 l0.length c0] w fun e w' => e = .returned (.tuple #[.string r1, .bool r2]) ∧ Below w.heap.size w w' := by
 have mn := Try.underlying48
 have gY := Aside0.mk hS
 have lh := Aside0.mk gN
 clear hS gN
 have HB := Aside0.mk (Below.refl w.heap.size w)
 have H : ((ext_Right.f k l0).bind fun ck => (if ck = true then ((msg_Bytes.f k l0).bind fun aM => (if 0 ≤ aM then (if (aM : Int).toNat ≤ 281474976710656 then (ext_Put.l0 k (List.nil) l0 (l0.length : Int) 0) else (none)) else (none))) else (some ((⟨#[]⟩ : ByteArray), false)))) = some (r1, r2) := h
 clear h
 replace H := Option.bind_eq_some_iff.mp H
 obtain ⟨ck, gb, H⟩ := H
 replace H : (if ck = true then ((msg_Bytes.f k l0).bind fun aM => (if 0 ≤ aM then (if (aM : Int).toNat ≤ 281474976710656 then (ext_Put.l0 k (List.nil) l0 (l0.length : Int) 0) else (none)) else (none))) else (some ((⟨#[]⟩ : ByteArray), false))) = some (r1, r2) := H
 have A2 := Aside0.mk gb
 clear gb
 by_cases c3 : ck = true
 ·subst c3
  have H1 : ((msg_Bytes.f k l0).bind fun aM => (if 0 ≤ aM then (if (aM : Int).toNat ≤ 281474976710656 then (ext_Put.l0 k (List.nil) l0 (l0.length : Int) 0) else (none)) else (none))) = some (r1, r2) := by rw [if_pos rfl] at H; exact H
  clear H
  have H := H1
  clear H1
  replace H := Option.bind_eq_some_iff.mp H
  obtain ⟨aM, ku, H⟩ := H
  replace H : (if 0 ≤ aM then (if (aM : Int).toNat ≤ 281474976710656 then (ext_Put.l0 k (List.nil) l0 (l0.length : Int) 0) else (none)) else (none)) = some (r1, r2) := H
  have A4 := Aside0.mk ku
  clear ku
  by_cases c5 : 0 ≤ aM
  ·rw [if_pos c5] at H
   have fM := eq_true c5
   have ib : decide (0 ≤ aM) = true := decide_eq_true c5
   clear c5
   by_cases c6 : (aM : Int).toNat ≤ 281474976710656
   ·rw [if_pos c6] at H
    have fg := eq_true c6
    have fQ : decide ((aM : Int).toNat ≤ 281474976710656) = true := decide_eq_true c6
    clear c6
    obtain ⟨eC, hy103⟩ : ∃ y_ : List Int, y_ = (List.nil) := ⟨_, rfl⟩
    replace H : (ext_Put.l0 k eC l0 (l0.length : Int) 0) = some (r1, r2) := by first | (rw [hy103]; with_reducible exact H) | (have H2_ := (Option.bind_some _ _).symm.trans H; rw [hy103]; with_reducible exact H2_) | (have H2_ := (Option.bind_some _ _).symm.trans H; with_reducible exact H2_) | with_reducible exact H | (rw [hy103]; exact H) | exact H
    have Ny103 := Aside0.mk hy103
    clear hy103
    have H' := Aside0.mk H
    clear H
    go_enter Try.func49, Try.ntmps49
    go_wp2_with (first | ((with_reducible refine gate_callee (f := 55) rfl ?_); refine goesL_ (some 8) rfl rfl Try.func55 Z14 rfl #[.slice A0 l0.length c0] rfl Z4 ?_; (with_reducible refine (ext_Right.calls k _ _ l0 true _ ?side1 ?side2 A2.out).mono ?_); (case side1 => exact Z80); (case side2 => exact lh.out); rintro e w7 ⟨rfl, hb⟩; refine ⟨_, rfl, ?_⟩; replace HB := Aside0.mk (below_step Z1 hb); clear hb) | ((with_reducible refine gate_callee (f := 71) rfl ?_); refine goesL_ (some 11) rfl rfl Try.func71 Z14 rfl #[.slice A0 l0.length c0] rfl Z4 ?_; (with_reducible refine (msg_Bytes.calls k _ _ l0 aM _ ?side1 ?side2 A4.out).mono ?_); (case side1 => exact (by repeat (first | exact (Kd.C_below gY.out HB.out) | (with_reducible refine Kd.C_alloc ?_ _) | (with_reducible refine Kd.C_drewN ?_ _) | (with_reducible refine Kd.C_drew ?_)))); (case side2 => exact lh.out); rintro e w8 ⟨rfl, hb⟩; refine ⟨_, rfl, ?_⟩; replace HB := Aside0.mk (below_step Z1 hb); clear hb) | ((with_reducible refine gate_dst (N := 12) rfl ?_); refine Pre.R_make0 (Kd.int .u8) _ 5 rfl (N := 12) rfl 51 _ _ rfl aM rfl rfl Try.underlying51 (.int .u8 0) 1 info5 rfl Z29 Z40 0 (ok := fun _ => True) (okp := fun _ => True) rfl (fun _ hk => hk) trivial (of_decide_eq_true Z6) (Nat.le_trans (Nat.mul_le_mul_right _ (of_decide_eq_true Z6 : aM.toNat ≤ 281474976710656)) Z40) (Below.refl _ _) (Nat.le_refl _) ?_; intro pp w9 ho10 hb hg_ hnew_; clear hg_ hnew_; (first | rw [← Ny103.out] at ho10 | (simp only [Int.reduceToNat] at ho10; rw [← Ny103.out] at ho10)); have jP := Aside0.mk (Kd.R_lower ho10 (below_size Z1)); replace HB := Aside0.mk (below_step Z1 hb); clear hb ho10))
    go_loopg [4, 15] k (fun kq v4 iT w' => ∃ (fa : List Int) (cl : Int), iT = .int .i64 cl ∧ Aside0 (ext_Put.l0 kq fa l0 (l0.length : Int) cl = some (r1, r2)) ∧ Aside0 (kq ≤ k) ∧ Aside0 (Kd.R (Kd.int .u8) 5 w' w.heap.size (fun _ => True) v4 fa) ∧ Aside0 (Below w.heap.size w w'))
    case atStart => exact ⟨(eC), (0), Z16, H', ⟨Nat.le_refl _⟩, ⟨Z89⟩, ⟨Z1⟩⟩
    case round =>
     clear H'
     try clear p2
     try clear c3
     try clear c4
     try clear c5
     try clear fM
     try clear ib
     try clear c6
     try clear fg
     try clear fQ
     try clear c7
     obtain ⟨fa, cl, rfl, HA, HK1, HO_4, HB⟩ := hrel
     cases gk with
     | zero => exact absurd HA.out (by simp [ext_Put.l0])
     | succ k1 =>
      have H := HA.out
      clear HA
      simp only [ext_Put.l0] at H
      by_cases ee : cl < (l0.length : Int)
      ·rw [if_pos ee] at H
       have eX : decide (cl < (l0.length : Int)) = true := decide_eq_true ee
       clear ee
       by_cases fR : 0 ≤ cl
       ·rw [if_pos fR] at H
        have hG : decide (0 ≤ cl) = true := decide_eq_true fR
        clear fR
        by_cases eU : cl < (l0.length : Int)
        ·rw [if_pos eU] at H
         have gL : decide (cl < (l0.length : Int)) = true := decide_eq_true eU
         clear eU
         obtain ⟨iZ, hy108⟩ : ∃ y_ : List Int, y_ = (([((rd_T48 l0 cl).f0) % 256, ((((rd_T48 l0 cl).f1).size : Int)) % 256] : List Int)) := ⟨_, rfl⟩
         replace H : (if fa.length + iZ.length < 140737488355328 then ((some (fa ++ iZ : List Int)).bind fun ia => (if ia.length + ((rd_T48 l0 cl).f1).size < 140737488355328 then (ext_Put.l0 k1 (ia ++ bytesOf ((rd_T48 l0 cl).f1)) l0 (l0.length : Int) (wrap64 (cl + 1))) else (none))) else (none)) = some (r1, r2) := by first | (rw [hy108]; with_reducible exact H) | (have H2_ := (Option.bind_some _ _).symm.trans H; rw [hy108]; with_reducible exact H2_) | (have H2_ := (Option.bind_some _ _).symm.trans H; with_reducible exact H2_) | with_reducible exact H | (rw [hy108]; exact H) | exact H
         have Ny108 := Aside0.mk hy108
         clear hy108
         by_cases hH : fa.length + iZ.length < 140737488355328
         ·rw [if_pos hH] at H
          have LMc14 := Aside0.mk hH
          clear hH
          obtain ⟨ia, hy111⟩ : ∃ y_ : List Int, y_ = (fa ++ iZ) := ⟨_, rfl⟩
          replace H : (if ia.length + ((rd_T48 l0 cl).f1).size < 140737488355328 then (ext_Put.l0 k1 (ia ++ bytesOf ((rd_T48 l0 cl).f1)) l0 (l0.length : Int) (wrap64 (cl + 1))) else (none)) = some (r1, r2) := by first | (rw [hy111]; with_reducible exact H) | (have H2_ := (Option.bind_some _ _).symm.trans H; rw [hy111]; with_reducible exact H2_) | (have H2_ := (Option.bind_some _ _).symm.trans H; with_reducible exact H2_) | with_reducible exact H | (rw [hy111]; exact H) | exact H
          have Ny111 := Aside0.mk hy111
          clear hy111
          by_cases eB : ia.length + ((rd_T48 l0 cl).f1).size < 140737488355328
          ·rw [if_pos eB] at H
           have LMc15 := Aside0.mk eB
           clear eB
           obtain ⟨oH, hy114⟩ : ∃ y_ : List Int, y_ = (ia ++ bytesOf ((rd_T48 l0 cl).f1)) := ⟨_, rfl⟩
           replace H : (ext_Put.l0 k1 oH l0 (l0.length : Int) (wrap64 (cl + 1))) = some (r1, r2) := by first | (rw [hy114]; with_reducible exact H) | (have H2_ := (Option.bind_some _ _).symm.trans H; rw [hy114]; with_reducible exact H2_) | (have H2_ := (Option.bind_some _ _).symm.trans H; with_reducible exact H2_) | with_reducible exact H | (rw [hy114]; exact H) | exact H
           have Ny114 := Aside0.mk hy114
           clear hy114
           have H' := Aside0.mk H
           clear H
           have p106 : 0 ≤ (cl : Int) := of_decide_eq_true Z6
           have q106 : cl < (l0.length : Int) := of_decide_eq_true Z6
           obtain ⟨ad106, e106, hx106_0, hx106_1⟩ := at_T48 gY.out cl p106 q106
           cases e106
           replace hx106_0 := Sq.up HB.out hx106_0
           replace hx106_1 := Sq.up HB.out hx106_1
           replace p106 := eq_true p106
           replace q106 := eq_true q106
           go_wp2_with (first | ((with_reducible refine gate_dst (N := 6) rfl ?_); refine Sq.box 6 #[.int .i64 0, .string ⟨#[]⟩] 48 ?_; intro bn hg jG hbox hb; have bf := Aside0.mk (hbox); have jQ := Aside0.mk (Sq.ge hg Z1); have gd := Aside0.mk (Sq.ge hg Z1); replace HO_4 := Aside0.mk (Kd.R_below Z79 hb); replace HB := Aside0.mk (below_step Z1 hb); clear hb hbox hg; have mt : jG.cell? ⟨bn, 0, none⟩ = some (.int .i64 0) := (blk_cell bf.out 0).trans rfl; have mu : jG.cell? ⟨bn, 1, none⟩ = some (.string ⟨#[]⟩) := (blk_cell bf.out 1).trans rfl; have hfz17_0 := blk_frozen bf.out 0; have hfz17_1 := blk_frozen bf.out 1) | ((with_reducible refine gate_dst (N := 27) rfl ?_); refine Kd.R_lit (Kd.int .u8) _ 5 ?hg (N := 27) ?hd (xs := ([((rd_T48 l0 cl).f0) % 256, ((((rd_T48 l0 cl).f1).size : Int)) % 256] : List Int)) (inner := [.int .u8 (((rd_T48 l0 cl).f0) % 256), .int .u8 (((((rd_T48 l0 cl).f1).size : Int)) % 256)]) (ok := fun _ => True) (okp := fun _ => True) ?hr ?hp (fun _ hk => hk) trivial (Below.refl _ _) (Nat.le_refl _) Z71 ?_; (case hd => rfl); (case hg => rfl); (case hr => first | (go_simp; done) | (go_simp; rfl)); (case hp => exact (Reps.one (show Kd.M (Kd.int .u8) _ _ _ (((rd_T48 l0 cl).f0) % 256) [.int .u8 (((rd_T48 l0 cl).f0) % 256)] from rfl) (Reps.one (show Kd.M (Kd.int .u8) _ _ _ (((((rd_T48 l0 cl).f1).size : Int)) % 256) [.int .u8 (((((rd_T48 l0 cl).f1).size : Int)) % 256)] from rfl) (Reps.none _ _)))); intro v109 li ho19 hb hg_ hnew_; clear hg_ hnew_; (first | rw [← Ny108.out] at ho19 | (simp only [Int.reduceToNat] at ho19; rw [← Ny108.out] at ho19)); have jD := Aside0.mk (Kd.R_lower (Kd.R_new' ho19 (Kd.R_lt Z77)) (below_size Z37)); replace HO_4 := Aside0.mk (Kd.R_elder' Z77 (Kd.R_base ho19) hb); replace bf := Aside0.mk (blk_below (g := bn) (o := .cells #[.int .i64 ((rd_T48 l0 cl).f0), .string ((rd_T48 l0 cl).f1)] 48 (0, 0)) (by (with_reducible repeat (first | refine blk_drewN ?_ _ | refine blk_drew ?_ | refine blk_alloc ?_ _)); refine blk_put (cs := #[.int .i64 ((rd_T48 l0 cl).f0), .string ⟨#[]⟩]) ?_ 1 _ rfl; (with_reducible repeat (first | refine blk_drewN ?_ _ | refine blk_drew ?_ | refine blk_alloc ?_ _)); refine blk_put (cs := #[.int .i64 0, .string ⟨#[]⟩]) ?_ 0 _ rfl; (with_reducible repeat (first | refine blk_drewN ?_ _ | refine blk_drew ?_ | refine blk_alloc ?_ _)); exact bf.out) hb); replace HB := Aside0.mk (below_step Z37 hb); clear hb ho19; obtain ⟨sO, sP, eo21⟩ := Kd.R_slice jD.out; subst eo21) | ((with_reducible refine gate_builtin (b := .append) (xs := #[.tmp 19, .tmp 27]) rfl ?_); at_builtin; refine Kd.R_append_rows (Kd.int .u8) (w0 := w) w.heap.size rfl (.tmp 19) (.tmp 27) 51 5 (.int .u8 0) 1 rfl Try.underlying51 info5 rfl Z29 Z40 u4 fa iZ _ _ _ (fun k_ => some k_ ≠ (.slice sO iZ.length sP : Value).ownBlock) (fun _ => False) rfl rfl ?aO ?aR (fun _ _ h => h) (fun _ h => h.elim) ?aF ?aB ?aS ?aL ?_; (case aR => repeat (first | exact (Kd.R_reads' jD.out).2.2 | (with_reducible refine Kd.C_alloc ?_ _) | (with_reducible refine Kd.C_drewN ?_ _) | (with_reducible refine Kd.C_drew ?_))); (case aB => exact Z37); (case aF => exact (fun k_ hk => Kd.fresh' (Kd.R_lt (by (with_reducible repeat (first | apply Kd.R_alloc | apply Kd.R_drewN | apply Kd.R_drew)); exact jD.out)) k_ hk)); (case aO => exact (by (with_reducible repeat (first | apply Kd.R_alloc | apply Kd.R_drewN | apply Kd.R_drew)); exact Kd.R_mono HO_4.out (fun _ hk => hk.2))); (case aS => exact (below_size Z37)); (case aL => have := LMc14.out; omega); intro oT jL ho hb hg hat; rw [← Ny111.out] at ho; have fP := Aside0.mk (ho); replace bf := Aside0.mk (blk_grown (g := bn) (o := .cells #[.int .i64 ((rd_T48 l0 cl).f0), .string ((rd_T48 l0 cl).f1)] 48 (0, 0)) Z25 hg (Kd.R_ne HO_4.out bf.out Z29)); replace jD := Aside0.mk (Kd.R_after (ok := (fun _ => True)) (by (with_reducible repeat (first | apply Kd.R_alloc | apply Kd.R_drewN | apply Kd.R_drew)); exact jD.out) hg hat); replace HB := Aside0.mk (hb); clear HO_4; clear ho hb hg hat; have hcz22_0 : jL.cell? ⟨bn, 0, none⟩ = some (.int .i64 ((rd_T48 l0 cl).f0)) := (blk_cell bf.out 0).trans rfl; have hcz22_1 : jL.cell? ⟨bn, 1, none⟩ = some (.string ((rd_T48 l0 cl).f1)) := (blk_cell bf.out 1).trans rfl; have hfz22_0 := blk_frozen bf.out 0; have hfz22_1 := blk_frozen bf.out 1) | (at_builtin; refine print_append_str (w0 := w) w.heap.size rfl (.tmp 29) _ 51 9 5 rfl Try.underlying51 Try.underlying9 info5 oT ia ((rd_T48 l0 cl).f1) rfl rfl ?aO ?aB ?aS ?aL ?_; (case aB => exact Z37); (case aO => exact (Kd.own_of_R (by (with_reducible repeat (first | apply Kd.R_alloc | apply Kd.R_drewN | apply Kd.R_drew)); exact Kd.R_mono fP.out (fun _ hk => trivial)))); (case aS => exact (below_size Z37)); (case aL => have := LMc15.out; omega); intro sQ jS ho0 hb hg; have ho := Kd.R_of_own (h1 := fun _ => rfl) (ok := fun _ => True) ho0 (fun _ _ => trivial); clear ho0; have hat := True.intro; rw [← Ny114.out] at ho; change Kd.R (Kd.int .u8) 5 jS w.heap.size (fun _ => True) sQ oH at ho; have rM := Aside0.mk (ho); replace bf := Aside0.mk (blk_grown (g := bn) (o := .cells #[.int .i64 ((rd_T48 l0 cl).f0), .string ((rd_T48 l0 cl).f1)] 48 (0, 0)) Z25 hg (Kd.R_ne fP.out bf.out Z29)); replace HB := Aside0.mk (hb); clear fP; clear ho hb hg hat))
           go_roundg k1
           case measure => have := HK1.out; omega
           case rel => exact ⟨(oH), (wrap64 (cl + 1)), Z16, H', ⟨Z86⟩, ⟨by (with_reducible repeat (first | apply Kd.R_alloc | apply Kd.R_drewN | apply Kd.R_drew)); exact rM.out⟩, ⟨Z37⟩⟩
          ·rw [if_neg eB] at H
           exact absurd H Z71
         ·rw [if_neg hH] at H
          exact absurd H Z71
        ·rw [if_neg eU] at H
         exact absurd H Z71
       ·rw [if_neg fR] at H
        exact absurd H Z71
      ·rw [if_neg ee] at H
       have eX : decide (cl < (l0.length : Int)) = false := decide_eq_false ee
       clear ee
       simp only [Option.some.injEq, Prod.mk.injEq] at H
       obtain ⟨rfl, rfl⟩ := H
       have hcv24 := own_string (P := Try.prog) Try.underlying51 Try.underlying5 Try.underlying9 (Kd.own_of_R HO_4.out)
       go_wp2
       go_ret2
       exact ⟨Z5, Z1⟩
   ·rw [if_neg c6] at H
    exact absurd H Z71
  ·rw [if_neg c5] at H
   exact absurd H Z71
 ·replace c3 := Bool.eq_false_iff.mpr c3
  subst c3
  have H1 : (some ((⟨#[]⟩ : ByteArray), false)) = some (r1, r2) := by rw [if_neg (show ¬ (false = true) by decide)] at H; exact H
  clear H
  have H := H1
  clear H1
  simp only [Option.some.injEq, Prod.mk.injEq] at H
  obtain ⟨rfl, rfl⟩ := H
  go_enter Try.func49, Try.ntmps49
  go_wp2_with (first | ((with_reducible refine gate_callee (f := 55) rfl ?_); refine goesL_ (some 8) rfl rfl Try.func55 Z14 rfl #[.slice A0 l0.length c0] rfl Z4 ?_; (with_reducible refine (ext_Right.calls k _ _ l0 false _ ?side1 ?side2 A2.out).mono ?_); (case side1 => exact Z80); (case side2 => exact lh.out); rintro e tw ⟨rfl, hb⟩; refine ⟨_, rfl, ?_⟩; replace HB := Aside0.mk (below_step Z1 hb); clear hb))
  go_ret2
  exact ⟨Z5, Z1⟩

end Go.Proofs.Ytccjakjjaemmkaa.PAB
