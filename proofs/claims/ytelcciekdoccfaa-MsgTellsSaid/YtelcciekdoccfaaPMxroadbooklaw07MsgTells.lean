-- Written by mp.py, a program of this work (wip/tools), out of the translation; Lean checks it.
import Derived.Test.YtelcciekdoccfaaPMxZ
import Derived.Test.YtelcciekdoccfaaPMxmsgBare
import Derived.Test.YtelcciekdoccfaaPMxmsgBytes
import Derived.Test.YtelcciekdoccfaaPMxmsgSame
import Derived.Test.YtelcciekdoccfaaPMxmsgSubs
import Derived.Test.YtelcciekdoccfaaPMxroadbooklaw07
import Derived.Test.YtelcciekdoccfaaPMxroadbookref07
import Derived.Test.YtelcciekdoccfaaPMxroadbookref07Bare
import Derived.Test.YtelcciekdoccfaaPMxroadbookref07Same
import Derived.Test.YtelcciekdoccfaaLoad
namespace Go.Proofs.Ytelcciekdoccfaa.PM
open Go.RowKit Go.Proofs.YtelcciekdoccfaaW.PrintWords Go.Proofs.YtelcciekdoccfaaW.PrintLast Go.Proofs.YtelcciekdoccfaaW.PrintMore
attribute [local go_sem] max2_int min2_int max_two min_two max_three min_three max_four min_four   -- for this text's walks alone
set_option linter.unusedVariables false
set_option linter.unusedSimpArgs false

/-! ### roadbooklaw07_MsgTells: function 12 -/
def roadbooklaw07_MsgTells.j0 : Nat → Bool → Int → Int → Int → ByteArray → Int → Int → ByteArray → Int → Int → ByteArray → Int → ByteArray → Int → Int → Int → Int → Int → Int → Int → ByteArray → ByteArray → List (S61) → Int → ByteArray → List (S63) → Int → Int → Int → ByteArray → Int → Int → ByteArray → Int → Int → ByteArray → Int → ByteArray → Int → Int → Int → Int → Int → Int → Int → ByteArray → ByteArray → List (S61) → Int → ByteArray → List (S63) → Int → Int → Option (Bool)
 | 0, _, _, _, _, _, _, _, _, _, _, _, _, _, _, _, _, _, _, _, _, _, _, _, _, _, _, _, _, _, _, _, _, _, _, _, _, _, _, _, _, _, _, _, _, _, _, _, _, _, _, _, _, _ => none
 | k + 1, iC, bI, bJ, bK, bL, bM, bN, bO, bP, bQ, bR, bS, bu, bv, bw, bx, bA, bB, bC, bD, bE, bF, bs, bG, bH, bt, cp, cq, cr, ct, cu, cv, cw, cx, cy, cz, cA, bX, bY, bZ, ca, cb, cc, cd, ce, cf, cg, ch, ci, cj, ck, x104000, x104001 => if iC = true then ((roadbooklaw07_awake.f k).bind fun dJ => (some dJ)) else ((roadbooklaw07_awake.f k).bind fun cK => (if cK = true then ((msg_Same.f k bI bJ bK bL bM bN bO bP bQ bR bS bu bv bw bx bA bB bC bD bE bF bs bG bH bt cp cq cr ct cu cv cw cx cy cz cA bX bY bZ ca cb cc cd ce cf cg ch ci cj ck).bind fun dK => ((roadbookref07_Same.f k bI bJ bK bL bM bN bO bP bQ bR bS bu bv bw bx bA bB bC bD bE bF bs bG bH bt cp cq cr ct cu cv cw cx cy cz cA bX bY bZ ca cb cc cd ce cf cg ch ci cj ck).bind fun dL => (if (dK == dL) = true then ((msg_Bare.f bI bJ bK bL bM bN bO bP bQ bR bS bu bv bw bx bA bB bC bD bE bF bs bG bH bt).bind fun dM => ((roadbookref07_Bare.f k bI bJ bK bL bM bN bO bP bQ bR bS bu bv bw bx bA bB bC bD bE bF bs bG bH bt).bind fun dN => (if (dM == dN) = true then ((msg_Bytes.f k bt).bind fun dO => ((roadbookref07_Bytes.f k bt).bind fun dP => (if dO = dP then ((msg_Subs.f k bt x104000 x104001).bind fun dQ => ((roadbookref07_Subs.f k bt x104000 x104001).bind fun dR => (some (dQ == dR)))) else (some false)))) else (some false)))) else (some false)))) else (some false)))
def roadbooklaw07_MsgTells.f (k : Nat) (aG : Int) (aA : Int) (aB : Int) (az : ByteArray) (aC : Int) (av : Int) (ax : ByteArray) (aw : Int) (aD : Int) (ay : ByteArray) (ap : Int) (an : ByteArray) (ag : Int) (aq : Int) (ai : Int) (ah : Int) (ak : Int) (al : Int) (ao : Int) (aj : ByteArray) (am : ByteArray) (af : List (S61)) (ar : Int) (au : ByteArray) (ab : List (S63)) (bi : Int) (bj : Int) (bk : Int) (bl : ByteArray) (bm : Int) (bn : Int) (bo : ByteArray) (bp : Int) (bq : Int) (br : ByteArray) (bb : Int) (aQ : ByteArray) (aR : Int) (aS : Int) (aT : Int) (aU : Int) (aV : Int) (aW : Int) (aX : Int) (aY : ByteArray) (aZ : ByteArray) (aO : List (S61)) (ba : Int) (bc : ByteArray) (aP : List (S63)) (a2_0 : Int) (a2_1 : Int) : Option (Bool) := (roadbookref07_Few.f k aG aA aB az aC av ax aw aD ay ap an ag aq ai ah ak al ao aj am af ar au ab).bind fun de => (if de = true then ((roadbookref07_Few.f k bi bj bk bl bm bn bo bp bq br bb aQ aR aS aT aU aV aW aX aY aZ aO ba bc aP).bind fun dI => (roadbooklaw07_MsgTells.j0 k (!dI) aG aA aB az aC av ax aw aD ay ap an ag aq ai ah ak al ao aj am af ar au ab bi bj bk bl bm bn bo bp bq br bb aQ aR aS aT aU aV aW aX aY aZ aO ba bc aP a2_0 a2_1)) else (roadbooklaw07_MsgTells.j0 k true aG aA aB az aC av ax aw aD ay ap an ag aq ai ah ak al ao aj am af ar au ab bi bj bk bl bm bn bo bp bq br bb aQ aR aS aT aU aV aW aX aY aZ aO ba bc aP a2_0 a2_1))
theorem roadbooklaw07_MsgTells.mono_l : ∀ k, (∀ y0 y1 y2 y3 y4 y5 y6 y7 y8 y9 eg eh ei ek el em en eo ep er es et eu eW eX eY gO gP gQ gR gS gT gU gV gW gX gY gZ ha he hf hh hj hl hm hn ho hs ht hu hv y51 y52, LeO (roadbooklaw07_MsgTells.j0 k y0 y1 y2 y3 y4 y5 y6 y7 y8 y9 eg eh ei ek el em en eo ep er es et eu eW eX eY gO gP gQ gR gS gT gU gV gW gX gY gZ ha he hf hh hj hl hm hn ho hs ht hu hv y51 y52) (roadbooklaw07_MsgTells.j0 (k + 1) y0 y1 y2 y3 y4 y5 y6 y7 y8 y9 eg eh ei ek el em en eo ep er es et eu eW eX eY gO gP gQ gR gS gT gU gV gW gX gY gZ ha he hf hh hj hl hm hn ho hs ht hu hv y51 y52))
 | 0 => fun _ _ _ _ _ _ _ _ _ _ _ _ _ _ _ _ _ _ _ _ _ _ _ _ _ _ _ _ _ _ _ _ _ _ _ _ _ _ _ _ _ _ _ _ _ _ _ _ _ _ _ _ _ r h => by simp [roadbooklaw07_MsgTells.j0] at h
 | k + 1 => by
  have ih0 := roadbooklaw07_MsgTells.mono_l k
  ·intro y0 y1 y2 y3 y4 y5 y6 y7 y8 y9 eg eh ei ek el em en eo ep er es et eu eW eX eY gO gP gQ gR gS gT gU gV gW gX gY gZ ha he hf hh hj hl hm hn ho hs ht hu hv y51 y52
   unfold roadbooklaw07_MsgTells.j0
   repeat' first
   | (with_reducible exact ih0 ..)
   | (with_reducible exact msg_Bytes.mono _ _)
   | (with_reducible exact msg_Same.mono _ _ _ _ _ _ _ _ _ _ _ _ _ _ _ _ _ _ _ _ _ _ _ _ _ _ _ _ _ _ _ _ _ _ _ _ _ _ _ _ _ _ _ _ _ _ _ _ _ _ _)
   | (with_reducible exact msg_Subs.mono _ _ _ _)
   | (with_reducible exact roadbooklaw07_awake.mono _)
   | (with_reducible exact roadbookref07_Bare.mono _ _ _ _ _ _ _ _ _ _ _ _ _ _ _ _ _ _ _ _ _ _ _ _ _ _)
   | (with_reducible exact roadbookref07_Bytes.mono _ _)
   | (with_reducible exact roadbookref07_Few.mono _ _ _ _ _ _ _ _ _ _ _ _ _ _ _ _ _ _ _ _ _ _ _ _ _ _)
   | (with_reducible exact roadbookref07_Same.mono _ _ _ _ _ _ _ _ _ _ _ _ _ _ _ _ _ _ _ _ _ _ _ _ _ _ _ _ _ _ _ _ _ _ _ _ _ _ _ _ _ _ _ _ _ _ _ _ _ _ _)
   | (with_reducible exact roadbookref07_Subs.mono _ _ _ _)
   | (with_reducible exact LeO.refl _)
   | (with_reducible exact LeO.none _)
   | (with_reducible refine LeO.ite ?_ ?_)
   | (with_reducible refine LeO.bind ?_ (fun _ => ?_))
   | exact ih0 ..
   | exact msg_Bytes.mono _ _
   | exact msg_Same.mono _ _ _ _ _ _ _ _ _ _ _ _ _ _ _ _ _ _ _ _ _ _ _ _ _ _ _ _ _ _ _ _ _ _ _ _ _ _ _ _ _ _ _ _ _ _ _ _ _ _ _
   | exact msg_Subs.mono _ _ _ _
   | exact roadbooklaw07_awake.mono _
   | exact roadbookref07_Bare.mono _ _ _ _ _ _ _ _ _ _ _ _ _ _ _ _ _ _ _ _ _ _ _ _ _ _
   | exact roadbookref07_Bytes.mono _ _
   | exact roadbookref07_Few.mono _ _ _ _ _ _ _ _ _ _ _ _ _ _ _ _ _ _ _ _ _ _ _ _ _ _
   | exact roadbookref07_Same.mono _ _ _ _ _ _ _ _ _ _ _ _ _ _ _ _ _ _ _ _ _ _ _ _ _ _ _ _ _ _ _ _ _ _ _ _ _ _ _ _ _ _ _ _ _ _ _ _ _ _ _
   | exact roadbookref07_Subs.mono _ _ _ _
   | exact LeO.none _
   | refine LeO.ite ?_ ?_
   | refine LeO.bind ?_ (fun _ => ?_)
theorem roadbooklaw07_MsgTells.mono : ∀ a0 a1 a2 a3 a4 a5 a6 a7 a8 a9 fv fw fx fy fz fA fB fC fD fE fF fG fH fI fJ gg gh gi gj gl gn gp gq gr gs gu gv gw gy gz gA gB gC gD gE gF gG gH gI gJ a50 a51 k, LeO (roadbooklaw07_MsgTells.f k a0 a1 a2 a3 a4 a5 a6 a7 a8 a9 fv fw fx fy fz fA fB fC fD fE fF fG fH fI fJ gg gh gi gj gl gn gp gq gr gs gu gv gw gy gz gA gB gC gD gE gF gG gH gI gJ a50 a51) (roadbooklaw07_MsgTells.f (k + 1) a0 a1 a2 a3 a4 a5 a6 a7 a8 a9 fv fw fx fy fz fA fB fC fD fE fF fG fH fI fJ gg gh gi gj gl gn gp gq gr gs gu gv gw gy gz gA gB gC gD gE gF gG gH gI gJ a50 a51) := by
 intro a0 a1 a2 a3 a4 a5 a6 a7 a8 a9 fv fw fx fy fz fA fB fC fD fE fF fG fH fI fJ gg gh gi gj gl gn gp gq gr gs gu gv gw gy gz gA gB gC gD gE gF gG gH gI gJ a50 a51 k
 have ih0 := roadbooklaw07_MsgTells.mono_l k
 unfold roadbooklaw07_MsgTells.f
 repeat' first
   | (with_reducible exact ih0 ..)
   | (with_reducible exact msg_Bytes.mono _ _)
   | (with_reducible exact msg_Same.mono _ _ _ _ _ _ _ _ _ _ _ _ _ _ _ _ _ _ _ _ _ _ _ _ _ _ _ _ _ _ _ _ _ _ _ _ _ _ _ _ _ _ _ _ _ _ _ _ _ _ _)
   | (with_reducible exact msg_Subs.mono _ _ _ _)
   | (with_reducible exact roadbooklaw07_awake.mono _)
   | (with_reducible exact roadbookref07_Bare.mono _ _ _ _ _ _ _ _ _ _ _ _ _ _ _ _ _ _ _ _ _ _ _ _ _ _)
   | (with_reducible exact roadbookref07_Bytes.mono _ _)
   | (with_reducible exact roadbookref07_Few.mono _ _ _ _ _ _ _ _ _ _ _ _ _ _ _ _ _ _ _ _ _ _ _ _ _ _)
   | (with_reducible exact roadbookref07_Same.mono _ _ _ _ _ _ _ _ _ _ _ _ _ _ _ _ _ _ _ _ _ _ _ _ _ _ _ _ _ _ _ _ _ _ _ _ _ _ _ _ _ _ _ _ _ _ _ _ _ _ _)
   | (with_reducible exact roadbookref07_Subs.mono _ _ _ _)
   | (with_reducible exact LeO.refl _)
   | (with_reducible exact LeO.none _)
   | (with_reducible refine LeO.ite ?_ ?_)
   | (with_reducible refine LeO.bind ?_ (fun _ => ?_))
   | exact ih0 ..
   | exact msg_Bytes.mono _ _
   | exact msg_Same.mono _ _ _ _ _ _ _ _ _ _ _ _ _ _ _ _ _ _ _ _ _ _ _ _ _ _ _ _ _ _ _ _ _ _ _ _ _ _ _ _ _ _ _ _ _ _ _ _ _ _ _
   | exact msg_Subs.mono _ _ _ _
   | exact roadbooklaw07_awake.mono _
   | exact roadbookref07_Bare.mono _ _ _ _ _ _ _ _ _ _ _ _ _ _ _ _ _ _ _ _ _ _ _ _ _ _
   | exact roadbookref07_Bytes.mono _ _
   | exact roadbookref07_Few.mono _ _ _ _ _ _ _ _ _ _ _ _ _ _ _ _ _ _ _ _ _ _ _ _ _ _
   | exact roadbookref07_Same.mono _ _ _ _ _ _ _ _ _ _ _ _ _ _ _ _ _ _ _ _ _ _ _ _ _ _ _ _ _ _ _ _ _ _ _ _ _ _ _ _ _ _ _ _ _ _ _ _ _ _ _
   | exact roadbookref07_Subs.mono _ _ _ _
   | exact LeO.none _
   | refine LeO.ite ?_ ?_
   | refine LeO.bind ?_ (fun _ => ?_)
def roadbooklaw07_MsgTells.T3 : Bool × List (List Nat × List Nat) := (true, [([], []), ([0, 0], [0]), ([1], [1]), ([1], [1]), ([2, 3, 1, 1], [1, 2, 3]), ([1], [1]), ([1], [1]), ([5, 6, 4, 1], [1, 5, 6]), ([4, 7, 1], [1, 4, 7]), ([1, 8], [1, 8]), ([9, 7], [9]), ([10], [10]), ([11, 10, 10], [10, 11]), ([10], [10]), ([13, 12, 10], [10, 13]), ([12, 14, 10], [10, 12, 14]), ([10, 15], [10, 15]), ([16, 14], [16]), ([17], [17]), ([18, 17], [17, 18]), ([19, 17, 17], [17, 19]), ([17], [17]), ([21, 17], [17, 21]), ([22, 20, 17], [17, 22]), ([20, 23, 17], [17, 20, 23]), ([17, 24], [17, 24]), ([25, 23], [25]), ([26], [26]), ([27, 26], [26, 27]), ([26], [26]), ([29, 26], [26, 29]), ([26], [26]), ([31, 26], [26, 31]), ([28, 30, 32, 26, 26], [26, 28, 30, 32]), ([26], [26]), ([34, 26], [26, 34]), ([26], [26]), ([36, 26], [26, 36]), ([26], [26]), ([38, 26], [26, 38]), ([35, 37, 39, 33, 26], [26, 35, 37, 39]), ([33, 40, 26], [26, 33, 40]), ([26, 41], [26, 41]), ([42, 40, 0, 1, 2, 3, 4, 5, 6, 7, 8, 9, 10, 11, 12, 13, 14, 15, 16, 17, 18, 19, 20, 21, 22, 23, 24, 25, 26, 27, 28, 29, 30, 31, 32, 33, 34, 35, 36, 37, 38, 39, 40, 41, 42], [42])])
def roadbooklaw07_MsgTells.B3 : List Nat := [0, 1, 3, 3, 15, 3, 3, 127, 255, 511, 1023, 2047, 4095, 2047, 16383, 32767, 65535, 131071, 262143, 524287, 1048575, 262143, 2359295, 8388607, 16777215, 33554431, 67108863, 134217727, 268435455, 134217727, 671088639, 134217727, 2281701375, 8589934591, 134217727, 17314086911, 134217727, 68853694463, 134217727, 275012124671, 1099511627775, 2199023255551, 4398046511103, 8796093022207]
theorem roadbooklaw07_MsgTells.tab3 : rtab .any (opsOf Try.f12 3) = roadbooklaw07_MsgTells.T3 := by kernel_rfl
theorem roadbooklaw07_MsgTells.bits3 : waitsOk roadbooklaw07_MsgTells.T3.2 roadbooklaw07_MsgTells.B3 = true := by kernel_rfl

set_option maxHeartbeats 8000000 in
set_option maxRecDepth 100000 in
theorem roadbooklaw07_MsgTells.calls (k : Nat) (aG : Int) (aA : Int) (aB : Int) (az : ByteArray) (aC : Int) (av : Int) (ax : ByteArray) (aw : Int) (aD : Int) (ay : ByteArray) (ap : Int) (an : ByteArray) (ag : Int) (aq : Int) (ai : Int) (ah : Int) (ak : Int) (al : Int) (ao : Int) (aj : ByteArray) (am : ByteArray) (bf : Option Addr) (bg : Nat) (af : List (S61)) (ar : Int) (au : ByteArray) (aI : Option Addr) (aJ : Nat) (ab : List (S63)) (bi : Int) (bj : Int) (bk : Int) (bl : ByteArray) (bm : Int) (bn : Int) (bo : ByteArray) (bp : Int) (bq : Int) (br : ByteArray) (bb : Int) (aQ : ByteArray) (aR : Int) (aS : Int) (aT : Int) (aU : Int) (aV : Int) (aW : Int) (aX : Int) (aY : ByteArray) (aZ : ByteArray) (cD : Option Addr) (cE : Nat) (aO : List (S61)) (ba : Int) (bc : ByteArray) (cH : Option Addr) (cI : Nat) (aP : List (S63)) (a2_0 : Int) (a2_1 : Int) (r : Bool) (w : World) (cl : Kd.C k61 w bf af.length af) (cm : af.length ≤ bg) (cn : Kd.C k63 w aI ab.length ab) (co : ab.length ≤ aJ) (dE : Kd.C k61 w cD aO.length aO) (dF : aO.length ≤ cE) (dG : Kd.C k63 w cH aP.length aP) (dH : aP.length ≤ cI) (hr_ : Aside0 (r = true)) (h : roadbooklaw07_MsgTells.f k aG aA aB az aC av ax aw aD ay ap an ag aq ai ah ak al ao aj am af ar au ab bi bj bk bl bm bn bo bp bq br bb aQ aR aS aT aU aV aW aX aY aZ aO ba bc aP a2_0 a2_1 = some r) :
  Calls Try.prog 12 #[.agg #[.int .i64 aG, .int .i64 aA, .int .i64 aB, .string az, .int .i64 aC, .int .i64 av, .string ax, .int .i64 aw, .int .i64 aD, .string ay, .int .i64 ap, .string an, .int .i64 ag, .int .i64 aq, .int .i64 ai, .int .i64 ah, .int .i64 ak, .int .i64 al, .int .i64 ao, .string aj, .string am, .slice bf af.length bg, .int .i64 ar, .string au, .slice aI ab.length aJ], .agg #[.int .i64 bi, .int .i64 bj, .int .i64 bk, .string bl, .int .i64 bm, .int .i64 bn, .string bo, .int .i64 bp, .int .i64 bq, .string br, .int .i64 bb, .string aQ, .int .i64 aR, .int .i64 aS, .int .i64 aT, .int .i64 aU, .int .i64 aV, .int .i64 aW, .int .i64 aX, .string aY, .string aZ, .slice cD aO.length cE, .int .i64 ba, .string bc, .slice cH aP.length cI], .agg #[.int .i64 a2_0, .int .i64 a2_1]] w fun e w' => e = .returned (.bool r) ∧ Below w.heap.size w w' := by
 have fp := Try.underlying58
 have hu65 := Try.underlying65
 have da := Aside0.mk cl
 have cF := Aside0.mk cm
 clear cl cm
 have bW := Aside0.mk cn
 have bU := Aside0.mk co
 clear cn co
 have fK := Aside0.mk dE
 have dg := Aside0.mk dF
 clear dE dF
 have fd := Aside0.mk dG
 have dz := Aside0.mk dH
 clear dG dH
 have HB := Aside0.mk (Below.refl w.heap.size w)
 have H : ((roadbookref07_Few.f k aG aA aB az aC av ax aw aD ay ap an ag aq ai ah ak al ao aj am af ar au ab).bind fun de => (if de = true then ((roadbookref07_Few.f k bi bj bk bl bm bn bo bp bq br bb aQ aR aS aT aU aV aW aX aY aZ aO ba bc aP).bind fun dI => (roadbooklaw07_MsgTells.j0 k (!dI) aG aA aB az aC av ax aw aD ay ap an ag aq ai ah ak al ao aj am af ar au ab bi bj bk bl bm bn bo bp bq br bb aQ aR aS aT aU aV aW aX aY aZ aO ba bc aP a2_0 a2_1)) else (roadbooklaw07_MsgTells.j0 k true aG aA aB az aC av ax aw aD ay ap an ag aq ai ah ak al ao aj am af ar au ab bi bj bk bl bm bn bo bp bq br bb aQ aR aS aT aU aV aW aX aY aZ aO ba bc aP a2_0 a2_1))) = some r := h
 clear h
 have HC4 := Aside0.mk H
 clear H
 go_enter Try.func12, Try.ntmps12
 go_upto_region 1 with (first | ((with_reducible refine Pre.gate_load 58 rfl ?_); (try (refine gate_guard Z13 ?_; dsimp only)); refine Pre.load_event rfl rfl rfl Z13 (by first | ((with_reducible repeat (first | refine blk_drewN ?_ _ | refine blk_drew ?_ | refine blk_alloc ?_ _)); (with_reducible first | exact ae.out | exact ac.out | exact BK103.out)) | (apply Pre.heap_norm; ((with_reducible repeat (first | refine blk_drewN ?_ _ | refine blk_drew ?_ | refine blk_alloc ?_ _ | apply Pre.blk_set_)); (with_reducible first | exact ae.out | exact ac.out | exact BK103.out)); (first | (simp only [List.setIfInBounds_toArray, List.set_cons_zero, List.set_cons_succ]; done) | (simp only [List.setIfInBounds_toArray, List.set_cons_zero, List.set_cons_succ]; rfl) | rfl))) Try.underlying58 rfl Z5 ?_) | ((with_reducible refine gate_dst (N := 3) rfl ?_); refine box_event ?hg (N := 3) ?hd (cs := #[.int .i64 aG, .int .i64 aA, .int .i64 aB, .string az, .int .i64 aC, .int .i64 av, .string ax, .int .i64 aw, .int .i64 aD, .string ay, .int .i64 ap, .string an, .int .i64 ag, .int .i64 aq, .int .i64 ai, .int .i64 ah, .int .i64 ak, .int .i64 al, .int .i64 ao, .string aj, .string am, .slice bf af.length bg, .int .i64 ar, .string au, .slice aI ab.length aJ]) (t := 58) ?hr ?_; (case hd => rfl); (case hg => rfl); (case hr => first | (go_simp; done) | (go_simp; rfl)); intro aF hg w5 hbox hb; have aH := Aside0.mk (below_step Z0 hb); have aK := Aside0.mk (hbox); have aL := Aside0.mk ((by rw [hg]; exact (below_size Z0) : w.heap.size ≤ aF)); have cQ := Aside0.mk ((by rw [hg]; exact (below_size Z0) : w.heap.size ≤ aF)); replace HB := aH; have ae := aK; have fb := aL; have ed := cQ; clear aH aK aL cQ; clear hb hbox hg) | ((with_reducible refine gate_dst (N := 4) rfl ?_); refine box_event ?hg (N := 4) ?hd (cs := #[.int .i64 bi, .int .i64 bj, .int .i64 bk, .string bl, .int .i64 bm, .int .i64 bn, .string bo, .int .i64 bp, .int .i64 bq, .string br, .int .i64 bb, .string aQ, .int .i64 aR, .int .i64 aS, .int .i64 aT, .int .i64 aU, .int .i64 aV, .int .i64 aW, .int .i64 aX, .string aY, .string aZ, .slice cD aO.length cE, .int .i64 ba, .string bc, .slice cH aP.length cI]) (t := 58) ?hr ?_; (case hd => rfl); (case hg => rfl); (case hr => first | (go_simp; done) | (go_simp; rfl)); intro aE hg w6 hbox hb; have aH := Aside0.mk (blk_below (g := aF) Z3 hb); have aK := Aside0.mk (below_step Z1 hb); have aL := Aside0.mk (hbox); have cQ := Aside0.mk ((by rw [hg]; exact (below_size Z1) : w.heap.size ≤ aE)); have fe := Aside0.mk ((by rw [hg]; exact (below_size Z1) : w.heap.size ≤ aE)); have ff := Aside0.mk ((by rw [hg]; exact Nat.ne_of_lt (blk_lt (g := aF) Z3) : aF ≠ aE)); have fg := Aside0.mk ((by rw [hg]; exact Nat.ne_of_gt (blk_lt (g := aF) Z3) : aE ≠ aF)); replace ae := aH; replace HB := aK; have ac := aL; have dl := cQ; have dd := fe; have cG := ff; have cJ := fg; clear aH aK aL cQ fe ff fg; clear hb hbox hg) | ((with_reducible refine gate_dst (N := 5) rfl ?_); refine box_event ?hg (N := 5) ?hd (cs := #[.int .i64 a2_0, .int .i64 a2_1]) (t := 65) ?hr ?_; (case hd => rfl); (case hg => rfl); (case hr => first | (go_simp; done) | (go_simp; rfl)); intro gb103 hg w7 hbox hb; have aH := Aside0.mk (blk_below (g := aF) Z3 hb); have aK := Aside0.mk (blk_below (g := aE) Z19 hb); have aL := Aside0.mk (below_step Z4 hb); have cQ := Aside0.mk (hbox); have fe := Aside0.mk ((by rw [hg]; exact (below_size Z4) : w.heap.size ≤ gb103)); have ff := Aside0.mk ((by rw [hg]; exact (below_size Z4) : w.heap.size ≤ gb103)); have fg := Aside0.mk ((by rw [hg]; exact Nat.ne_of_lt (blk_lt (g := aF) Z3) : aF ≠ gb103)); have n7_ := Aside0.mk ((by rw [hg]; exact Nat.ne_of_gt (blk_lt (g := aF) Z3) : gb103 ≠ aF)); have n8_ := Aside0.mk ((by rw [hg]; exact Nat.ne_of_lt (blk_lt (g := aE) Z19) : aE ≠ gb103)); have n9_ := Aside0.mk ((by rw [hg]; exact Nat.ne_of_gt (blk_lt (g := aE) Z19) : gb103 ≠ aE)); replace ae := aH; replace ac := aK; replace HB := aL; have BK103 := cQ; have GW103 := fe; have GE103 := ff; have NB101_103 := fg; have NB103_101 := n7_; have NB102_103 := n8_; have NB103_102 := n9_; clear aH aK aL cQ fe ff fg n7_ n8_ n9_; clear hb hbox hg))
 (try simp only [Act.put, List.setIfInBounds_toArray, List.set_cons_zero, List.set_cons_succ])
 go_cut [14] (fun fY wc => ∃ (kq : Nat) (x14_3 : Bool), fY = .bool x14_3 ∧ Aside0 (roadbooklaw07_MsgTells.j0 kq x14_3 aG aA aB az aC av ax aw aD ay ap an ag aq ai ah ak al ao aj am af ar au ab bi bj bk bl bm bn bo bp bq br bb aQ aR aS aT aU aV aW aX aY aZ aO ba bc aP a2_0 a2_1 = some r) ∧ Aside0 (kq ≤ k) ∧ Aside0 (wc.heap[aF]? = some (.cells #[.int .i64 aG, .int .i64 aA, .int .i64 aB, .string az, .int .i64 aC, .int .i64 av, .string ax, .int .i64 aw, .int .i64 aD, .string ay, .int .i64 ap, .string an, .int .i64 ag, .int .i64 aq, .int .i64 ai, .int .i64 ah, .int .i64 ak, .int .i64 al, .int .i64 ao, .string aj, .string am, (.slice bf af.length bg), .int .i64 ar, .string au, (.slice aI ab.length aJ)] 58 (0, 0))) ∧ Aside0 (wc.heap[aE]? = some (.cells #[.int .i64 bi, .int .i64 bj, .int .i64 bk, .string bl, .int .i64 bm, .int .i64 bn, .string bo, .int .i64 bp, .int .i64 bq, .string br, .int .i64 bb, .string aQ, .int .i64 aR, .int .i64 aS, .int .i64 aT, .int .i64 aU, .int .i64 aV, .int .i64 aW, .int .i64 aX, .string aY, .string aZ, (.slice cD aO.length cE), .int .i64 ba, .string bc, (.slice cH aP.length cI)] 58 (0, 0))) ∧ Aside0 (wc.heap[gb103]? = some (.cells #[.int .i64 a2_0, .int .i64 a2_1] 65 (0, 0))) ∧ Aside0 (Below w.heap.size w wc))
 case first =>
  have H := HC4.out
  clear HC4
  replace H := Option.bind_eq_some_iff.mp H
  obtain ⟨de, iM, H⟩ := H
  replace H : (if de = true then ((roadbookref07_Few.f k bi bj bk bl bm bn bo bp bq br bb aQ aR aS aT aU aV aW aX aY aZ aO ba bc aP).bind fun dI => (roadbooklaw07_MsgTells.j0 k (!dI) aG aA aB az aC av ax aw aD ay ap an ag aq ai ah ak al ao aj am af ar au ab bi bj bk bl bm bn bo bp bq br bb aQ aR aS aT aU aV aW aX aY aZ aO ba bc aP a2_0 a2_1)) else (roadbooklaw07_MsgTells.j0 k true aG aA aB az aC av ax aw aD ay ap an ag aq ai ah ak al ao aj am af ar au ab bi bj bk bl bm bn bo bp bq br bb aQ aR aS aT aU aV aW aX aY aZ aO ba bc aP a2_0 a2_1)) = some r := H
  have A8 := Aside0.mk iM
  clear iM
  by_cases c9 : de = true
  ·subst c9
   replace H := Sq.itT H
   replace H := Option.bind_eq_some_iff.mp H
   obtain ⟨dI, A100, H⟩ := H
   replace H : (roadbooklaw07_MsgTells.j0 k (!dI) aG aA aB az aC av ax aw aD ay ap an ag aq ai ah ak al ao aj am af ar au ab bi bj bk bl bm bn bo bp bq br bb aQ aR aS aT aU aV aW aX aY aZ aO ba bc aP a2_0 a2_1) = some r := H
   have iA := Aside0.mk A100
   clear A100
   have H' := Aside0.mk H
   clear H
   have hnb11 := cG.out
   have hnc11 := cJ.out
   have hnb12 := NB101_103.out
   have hnc12 := NB103_101.out
   have hM := cells_25 ae.out
   go_wp2_with (first | ((with_reducible refine Pre.gate_load 58 rfl ?_); (try (refine gate_guard Z13 ?_; dsimp only)); refine Pre.load_event rfl rfl rfl Z13 (by first | ((with_reducible repeat (first | refine blk_drewN ?_ _ | refine blk_drew ?_ | refine blk_alloc ?_ _)); (with_reducible first | exact ae.out | exact ac.out | exact BK103.out)) | (apply Pre.heap_norm; ((with_reducible repeat (first | refine blk_drewN ?_ _ | refine blk_drew ?_ | refine blk_alloc ?_ _ | apply Pre.blk_set_)); (with_reducible first | exact ae.out | exact ac.out | exact BK103.out)); (first | (simp only [List.setIfInBounds_toArray, List.set_cons_zero, List.set_cons_succ]; done) | (simp only [List.setIfInBounds_toArray, List.set_cons_zero, List.set_cons_succ]; rfl) | rfl))) Try.underlying58 rfl Z5 ?_) | ((with_reducible refine gate_callee (f := 48) rfl ?_); refine goesL_ (some 8) rfl rfl Try.func48 Z5 rfl #[.agg #[.int .i64 aG, .int .i64 aA, .int .i64 aB, .string az, .int .i64 aC, .int .i64 av, .string ax, .int .i64 aw, .int .i64 aD, .string ay, .int .i64 ap, .string an, .int .i64 ag, .int .i64 aq, .int .i64 ai, .int .i64 ah, .int .i64 ak, .int .i64 al, .int .i64 ao, .string aj, .string am, .slice bf af.length bg, .int .i64 ar, .string au, .slice aI ab.length aJ]] rfl Z9 ?_; (with_reducible refine (roadbookref07_Few.calls k aG aA aB az aC av ax aw aD ay ap an ag aq ai ah ak al ao aj am _ _ af ar au _ _ ab true _ ?side1 ?side2 ?side3 ?side4 A8.out).mono ?_); (case side1 => exact Z12); (case side2 => exact cF.out); (case side3 => exact Z21); (case side4 => exact bU.out); rintro e ie ⟨rfl, hb⟩; refine ⟨_, rfl, ?_⟩; have aH := Aside0.mk (blk_below (g := aF) Z3 hb); have aK := Aside0.mk (blk_below (g := aE) Z19 hb); have aL := Aside0.mk (blk_below (g := gb103) (o := .cells #[.int .i64 a2_0, .int .i64 a2_1] 65 (0, 0)) (by (with_reducible repeat (first | refine blk_drewN ?_ _ | refine blk_drew ?_ | refine blk_alloc ?_ _)); exact BK103.out) hb); have cQ := Aside0.mk (below_step (by repeat (first | (with_reducible first | exact HB.out | apply below_alloc | apply pw_below_drewN | apply below_drew1 | refine below_set ?_ ed.out | refine below_set ?_ dd.out | refine below_set ?_ GE103.out) | exact HB.out)) hb); replace ae := aH; replace ac := aK; replace BK103 := aL; replace HB := cQ; clear aH aK aL cQ; (try clear hb); (try clear hb2); (try clear hk); (try clear hi); have hnb15 := NB102_103.out; have hnc15 := NB103_102.out; have hcz16 := cells_25 ac.out) | (go_at_call 48; (with_reducible refine (roadbookref07_Few.calls k bi bj bk bl bm bn bo bp bq br bb aQ aR aS aT aU aV aW aX aY aZ _ _ aO ba bc _ _ aP dI _ ?side1 ?side2 ?side3 ?side4 iA.out).mono ?_); (case side1 => exact Z16); (case side2 => exact dg.out); (case side3 => exact Z29); (case side4 => exact dz.out); rintro e w17 ⟨rfl, hb⟩; have aH := Aside0.mk (blk_below (g := aF) Z3 hb); have aK := Aside0.mk (blk_below (g := aE) Z19 hb); have aL := Aside0.mk (blk_below (g := gb103) (o := .cells #[.int .i64 a2_0, .int .i64 a2_1] 65 (0, 0)) (by (with_reducible repeat (first | refine blk_drewN ?_ _ | refine blk_drew ?_ | refine blk_alloc ?_ _)); exact BK103.out) hb); have cQ := Aside0.mk (below_step (by repeat (first | (with_reducible first | exact HB.out | apply below_alloc | apply pw_below_drewN | apply below_drew1 | refine below_set ?_ ed.out | refine below_set ?_ dd.out | refine below_set ?_ GE103.out) | exact HB.out)) hb); replace ae := aH; replace ac := aK; replace BK103 := aL; replace HB := cQ; clear aH aK aL cQ; (try clear hb); (try clear hb2); (try clear hk); (try clear hi)))
   go_meet
   case rel => exact ⟨_, (!dI), Z7, H', ⟨Z31⟩, ⟨Z3⟩, ⟨Z19⟩, ⟨by (with_reducible repeat (first | refine blk_drewN ?_ _ | refine blk_drew ?_ | refine blk_alloc ?_ _)); exact BK103.out⟩, ⟨by repeat (first | (with_reducible first | exact HB.out | apply below_alloc | apply pw_below_drewN | apply below_drew1 | refine below_set ?_ ed.out | refine below_set ?_ dd.out | refine below_set ?_ GE103.out) | exact HB.out)⟩⟩
  ·replace c9 := Bool.eq_false_iff.mpr c9
   subst c9
   replace H := Sq.itF H
   have H' := Aside0.mk H
   clear H
   have hnb18 := cG.out
   have hnc18 := cJ.out
   have hnb19 := NB101_103.out
   have hnc19 := NB103_101.out
   have hcz20 := cells_25 ae.out
   go_wp2_with (first | ((with_reducible refine Pre.gate_load 58 rfl ?_); (try (refine gate_guard Z13 ?_; dsimp only)); refine Pre.load_event rfl rfl rfl Z13 (by first | ((with_reducible repeat (first | refine blk_drewN ?_ _ | refine blk_drew ?_ | refine blk_alloc ?_ _)); (with_reducible first | exact ae.out | exact ac.out | exact BK103.out)) | (apply Pre.heap_norm; ((with_reducible repeat (first | refine blk_drewN ?_ _ | refine blk_drew ?_ | refine blk_alloc ?_ _ | apply Pre.blk_set_)); (with_reducible first | exact ae.out | exact ac.out | exact BK103.out)); (first | (simp only [List.setIfInBounds_toArray, List.set_cons_zero, List.set_cons_succ]; done) | (simp only [List.setIfInBounds_toArray, List.set_cons_zero, List.set_cons_succ]; rfl) | rfl))) Try.underlying58 rfl Z5 ?_) | ((with_reducible refine gate_callee (f := 48) rfl ?_); refine goesL_ (some 8) rfl rfl Try.func48 Z5 rfl #[.agg #[.int .i64 aG, .int .i64 aA, .int .i64 aB, .string az, .int .i64 aC, .int .i64 av, .string ax, .int .i64 aw, .int .i64 aD, .string ay, .int .i64 ap, .string an, .int .i64 ag, .int .i64 aq, .int .i64 ai, .int .i64 ah, .int .i64 ak, .int .i64 al, .int .i64 ao, .string aj, .string am, .slice bf af.length bg, .int .i64 ar, .string au, .slice aI ab.length aJ]] rfl Z9 ?_; (with_reducible refine (roadbookref07_Few.calls k aG aA aB az aC av ax aw aD ay ap an ag aq ai ah ak al ao aj am _ _ af ar au _ _ ab false _ ?side1 ?side2 ?side3 ?side4 A8.out).mono ?_); (case side1 => exact Z12); (case side2 => exact cF.out); (case side3 => exact Z21); (case side4 => exact bU.out); rintro e w21 ⟨rfl, hb⟩; refine ⟨_, rfl, ?_⟩; have aH := Aside0.mk (blk_below (g := aF) Z3 hb); have aK := Aside0.mk (blk_below (g := aE) Z19 hb); have aL := Aside0.mk (blk_below (g := gb103) (o := .cells #[.int .i64 a2_0, .int .i64 a2_1] 65 (0, 0)) (by (with_reducible repeat (first | refine blk_drewN ?_ _ | refine blk_drew ?_ | refine blk_alloc ?_ _)); exact BK103.out) hb); have cQ := Aside0.mk (below_step (by repeat (first | (with_reducible first | exact HB.out | apply below_alloc | apply pw_below_drewN | apply below_drew1 | refine below_set ?_ ed.out | refine below_set ?_ dd.out | refine below_set ?_ GE103.out) | exact HB.out)) hb); replace ae := aH; replace ac := aK; replace BK103 := aL; replace HB := cQ; clear aH aK aL cQ; (try clear hb); (try clear hb2); (try clear hk); (try clear hi)))
   go_meet
   case rel => exact ⟨_, (true), Z7, H', ⟨Z31⟩, ⟨Z3⟩, ⟨Z19⟩, ⟨by (with_reducible repeat (first | refine blk_drewN ?_ _ | refine blk_drew ?_ | refine blk_alloc ?_ _)); exact BK103.out⟩, ⟨by repeat (first | (with_reducible first | exact HB.out | apply below_alloc | apply pw_below_drewN | apply below_drew1 | refine below_set ?_ ed.out | refine below_set ?_ dd.out | refine below_set ?_ GE103.out) | exact HB.out)⟩⟩
 case rest =>
  clear HC4
  try clear c1
  try clear eU
  obtain ⟨kq, x14_3, rfl, HA, HJ3, ae, ac, BK103, HB⟩ := hcut
  cases kq with
  | zero => exact absurd HA.out (by simp [roadbooklaw07_MsgTells.j0])
  | succ kj3 =>
   have H := HA.out
   clear HA
   simp only [roadbooklaw07_MsgTells.j0] at H
   by_cases hA : x14_3 = true
   ·subst hA
    replace H := Sq.itT H
    replace H := Option.bind_eq_some_iff.mp H
    obtain ⟨dJ, A230, H⟩ := H
    replace H : (some dJ) = some r := H
    have A23 := Aside0.mk A230
    clear A230
    obtain rfl := Option.some.inj H
    go_wp2_with (first | ((with_reducible refine Pre.gate_load 58 rfl ?_); (try (refine gate_guard Z13 ?_; dsimp only)); refine Pre.load_event rfl rfl rfl Z13 (by first | ((with_reducible repeat (first | refine blk_drewN ?_ _ | refine blk_drew ?_ | refine blk_alloc ?_ _)); (with_reducible first | exact ae.out | exact ac.out | exact BK103.out)) | (apply Pre.heap_norm; ((with_reducible repeat (first | refine blk_drewN ?_ _ | refine blk_drew ?_ | refine blk_alloc ?_ _ | apply Pre.blk_set_)); (with_reducible first | exact ae.out | exact ac.out | exact BK103.out)); (first | (simp only [List.setIfInBounds_toArray, List.set_cons_zero, List.set_cons_succ]; done) | (simp only [List.setIfInBounds_toArray, List.set_cons_zero, List.set_cons_succ]; rfl) | rfl))) Try.underlying58 rfl Z5 ?_) | ((with_reducible refine gate_callee (f := 49) rfl ?_); refine goesL_ (some 15) rfl rfl Try.func49 Z5 rfl #[] rfl Z9 ?_; (with_reducible refine (roadbooklaw07_awake.calls kj3  dJ _ (Aside0.mk (by first | rfl | exact hr_.out)) A23.out).mono ?_); rintro e w24 ⟨rfl, hb⟩; refine ⟨_, rfl, ?_⟩; have aH := Aside0.mk (blk_below (g := aF) Z3 hb); have aK := Aside0.mk (blk_below (g := aE) Z19 hb); have aL := Aside0.mk (blk_below (g := gb103) (o := .cells #[.int .i64 a2_0, .int .i64 a2_1] 65 (0, 0)) (by (with_reducible repeat (first | refine blk_drewN ?_ _ | refine blk_drew ?_ | refine blk_alloc ?_ _)); exact BK103.out) hb); have cQ := Aside0.mk (below_step (by repeat (first | (with_reducible first | exact HB.out | apply below_alloc | apply pw_below_drewN | apply below_drew1 | refine below_set ?_ ed.out | refine below_set ?_ dd.out | refine below_set ?_ GE103.out) | exact HB.out)) hb); replace ae := aH; replace ac := aK; replace BK103 := aL; replace HB := cQ; clear aH aK aL cQ; (try clear hb); (try clear hb2); (try clear hk); (try clear hi)))
    go_ret
    exact ⟨Z8, by repeat (first | (with_reducible first | exact HB.out | apply below_alloc | apply pw_below_drewN | apply below_drew1 | refine below_set ?_ ed.out | refine below_set ?_ dd.out | refine below_set ?_ GE103.out) | exact HB.out)⟩
   ·replace hA := Bool.eq_false_iff.mpr hA
    subst hA
    replace H := Sq.itF H
    replace H := Option.bind_eq_some_iff.mp H
    obtain ⟨cK, A250, H⟩ := H
    replace H : (if cK = true then ((msg_Same.f kj3 aG aA aB az aC av ax aw aD ay ap an ag aq ai ah ak al ao aj am af ar au ab bi bj bk bl bm bn bo bp bq br bb aQ aR aS aT aU aV aW aX aY aZ aO ba bc aP).bind fun dK => ((roadbookref07_Same.f kj3 aG aA aB az aC av ax aw aD ay ap an ag aq ai ah ak al ao aj am af ar au ab bi bj bk bl bm bn bo bp bq br bb aQ aR aS aT aU aV aW aX aY aZ aO ba bc aP).bind fun dL => (if (dK == dL) = true then ((msg_Bare.f aG aA aB az aC av ax aw aD ay ap an ag aq ai ah ak al ao aj am af ar au ab).bind fun dM => ((roadbookref07_Bare.f kj3 aG aA aB az aC av ax aw aD ay ap an ag aq ai ah ak al ao aj am af ar au ab).bind fun dN => (if (dM == dN) = true then ((msg_Bytes.f kj3 ab).bind fun dO => ((roadbookref07_Bytes.f kj3 ab).bind fun dP => (if dO = dP then ((msg_Subs.f kj3 ab a2_0 a2_1).bind fun dQ => ((roadbookref07_Subs.f kj3 ab a2_0 a2_1).bind fun dR => (some (dQ == dR)))) else (some false)))) else (some false)))) else (some false)))) else (some false)) = some r := H
    have A25 := Aside0.mk A250
    clear A250
    by_cases c26 : cK = true
    ·subst c26
     replace H := Sq.itT H
     replace H := Option.bind_eq_some_iff.mp H
     obtain ⟨dK, A270, H⟩ := H
     replace H : ((roadbookref07_Same.f kj3 aG aA aB az aC av ax aw aD ay ap an ag aq ai ah ak al ao aj am af ar au ab bi bj bk bl bm bn bo bp bq br bb aQ aR aS aT aU aV aW aX aY aZ aO ba bc aP).bind fun dL => (if (dK == dL) = true then ((msg_Bare.f aG aA aB az aC av ax aw aD ay ap an ag aq ai ah ak al ao aj am af ar au ab).bind fun dM => ((roadbookref07_Bare.f kj3 aG aA aB az aC av ax aw aD ay ap an ag aq ai ah ak al ao aj am af ar au ab).bind fun dN => (if (dM == dN) = true then ((msg_Bytes.f kj3 ab).bind fun dO => ((roadbookref07_Bytes.f kj3 ab).bind fun dP => (if dO = dP then ((msg_Subs.f kj3 ab a2_0 a2_1).bind fun dQ => ((roadbookref07_Subs.f kj3 ab a2_0 a2_1).bind fun dR => (some (dQ == dR)))) else (some false)))) else (some false)))) else (some false))) = some r := H
     have A27 := Aside0.mk A270
     clear A270
     replace H := Option.bind_eq_some_iff.mp H
     obtain ⟨dL, A280, H⟩ := H
     replace H : (if (dK == dL) = true then ((msg_Bare.f aG aA aB az aC av ax aw aD ay ap an ag aq ai ah ak al ao aj am af ar au ab).bind fun dM => ((roadbookref07_Bare.f kj3 aG aA aB az aC av ax aw aD ay ap an ag aq ai ah ak al ao aj am af ar au ab).bind fun dN => (if (dM == dN) = true then ((msg_Bytes.f kj3 ab).bind fun dO => ((roadbookref07_Bytes.f kj3 ab).bind fun dP => (if dO = dP then ((msg_Subs.f kj3 ab a2_0 a2_1).bind fun dQ => ((roadbookref07_Subs.f kj3 ab a2_0 a2_1).bind fun dR => (some (dQ == dR)))) else (some false)))) else (some false)))) else (some false)) = some r := H
     have A28 := Aside0.mk A280
     clear A280
     by_cases c29 : (dK == dL) = true
     ·rw [if_pos c29] at H
      have c29b0 : (dK == dL) = true := c29
      (try (have c29b1 : decide (dK = dL) = true := by simpa using c29))
      (try (have c29b2 : (dK == dL) = true := by simpa using c29))
      clear c29
      replace H := Option.bind_eq_some_iff.mp H
      obtain ⟨dM, A300, H⟩ := H
      replace H : ((roadbookref07_Bare.f kj3 aG aA aB az aC av ax aw aD ay ap an ag aq ai ah ak al ao aj am af ar au ab).bind fun dN => (if (dM == dN) = true then ((msg_Bytes.f kj3 ab).bind fun dO => ((roadbookref07_Bytes.f kj3 ab).bind fun dP => (if dO = dP then ((msg_Subs.f kj3 ab a2_0 a2_1).bind fun dQ => ((roadbookref07_Subs.f kj3 ab a2_0 a2_1).bind fun dR => (some (dQ == dR)))) else (some false)))) else (some false))) = some r := H
      have hC := Aside0.mk A300
      clear A300
      replace H := Option.bind_eq_some_iff.mp H
      obtain ⟨dN, A310, H⟩ := H
      replace H : (if (dM == dN) = true then ((msg_Bytes.f kj3 ab).bind fun dO => ((roadbookref07_Bytes.f kj3 ab).bind fun dP => (if dO = dP then ((msg_Subs.f kj3 ab a2_0 a2_1).bind fun dQ => ((roadbookref07_Subs.f kj3 ab a2_0 a2_1).bind fun dR => (some (dQ == dR)))) else (some false)))) else (some false)) = some r := H
      have A31 := Aside0.mk A310
      clear A310
      by_cases c32 : (dM == dN) = true
      ·rw [if_pos c32] at H
       have c32b0 : (dM == dN) = true := c32
       (try (have c32b1 : decide (dM = dN) = true := by simpa using c32))
       (try (have c32b2 : (dM == dN) = true := by simpa using c32))
       clear c32
       replace H := Option.bind_eq_some_iff.mp H
       obtain ⟨dO, A330, H⟩ := H
       replace H : ((roadbookref07_Bytes.f kj3 ab).bind fun dP => (if dO = dP then ((msg_Subs.f kj3 ab a2_0 a2_1).bind fun dQ => ((roadbookref07_Subs.f kj3 ab a2_0 a2_1).bind fun dR => (some (dQ == dR)))) else (some false))) = some r := H
       have A33 := Aside0.mk A330
       clear A330
       replace H := Option.bind_eq_some_iff.mp H
       obtain ⟨dP, A340, H⟩ := H
       replace H : (if dO = dP then ((msg_Subs.f kj3 ab a2_0 a2_1).bind fun dQ => ((roadbookref07_Subs.f kj3 ab a2_0 a2_1).bind fun dR => (some (dQ == dR)))) else (some false)) = some r := H
       have A34 := Aside0.mk A340
       clear A340
       by_cases c35 : dO = dP
       ·rw [if_pos c35] at H
        have c35b0 : (dO == dP) = true := beq_iff_eq.mpr c35
        have c35b1 : (dO != dP) = false := bne_eq_false_iff_eq.mpr c35
        clear c35
        replace H := Option.bind_eq_some_iff.mp H
        obtain ⟨dQ, A360, H⟩ := H
        replace H : ((roadbookref07_Subs.f kj3 ab a2_0 a2_1).bind fun dR => (some (dQ == dR))) = some r := H
        have A36 := Aside0.mk A360
        clear A360
        replace H := Option.bind_eq_some_iff.mp H
        obtain ⟨dR, A370, H⟩ := H
        replace H : (some (dQ == dR)) = some r := H
        have A37 := Aside0.mk A370
        clear A370
        obtain rfl := Option.some.inj H
        try go_wp2_with (first | ((with_reducible refine Pre.gate_load 58 rfl ?_); (try (refine gate_guard Z13 ?_; dsimp only)); refine Pre.load_event rfl rfl rfl Z13 (by first | ((with_reducible repeat (first | refine blk_drewN ?_ _ | refine blk_drew ?_ | refine blk_alloc ?_ _)); (with_reducible first | exact ae.out | exact ac.out | exact BK103.out)) | (apply Pre.heap_norm; ((with_reducible repeat (first | refine blk_drewN ?_ _ | refine blk_drew ?_ | refine blk_alloc ?_ _ | apply Pre.blk_set_)); (with_reducible first | exact ae.out | exact ac.out | exact BK103.out)); (first | (simp only [List.setIfInBounds_toArray, List.set_cons_zero, List.set_cons_succ]; done) | (simp only [List.setIfInBounds_toArray, List.set_cons_zero, List.set_cons_succ]; rfl) | rfl))) Try.underlying58 rfl Z5 ?_))
        have aH := Aside0.mk (blk_drew ae.out)
        have aK := Aside0.mk (blk_drew ac.out)
        have aL := Aside0.mk (blk_drew BK103.out)
        have cQ := Aside0.mk (below_drew1 HB.out)
        clear ae
        clear ac
        clear BK103
        clear HB
        have ae := aH
        have ac := aK
        have BK103 := aL
        have HB := cQ
        clear aH aK aL cQ
        refine start_ (n := 44) (S := fun w' => w'.heap[aF]? = some (.cells #[.int .i64 aG, .int .i64 aA, .int .i64 aB, .string az, .int .i64 aC, .int .i64 av, .string ax, .int .i64 aw, .int .i64 aD, .string ay, .int .i64 ap, .string an, .int .i64 ag, .int .i64 aq, .int .i64 ai, .int .i64 ah, .int .i64 ak, .int .i64 al, .int .i64 ao, .string aj, .string am, .slice bf af.length bg, .int .i64 ar, .string au, .slice aI ab.length aJ] 58 (0, 0)) ∧ w'.cell? ⟨aF, 24, none⟩ = some (.slice aI ab.length aJ) ∧ w'.heap[aE]? = some (.cells #[.int .i64 bi, .int .i64 bj, .int .i64 bk, .string bl, .int .i64 bm, .int .i64 bn, .string bo, .int .i64 bp, .int .i64 bq, .string br, .int .i64 bb, .string aQ, .int .i64 aR, .int .i64 aS, .int .i64 aT, .int .i64 aU, .int .i64 aV, .int .i64 aW, .int .i64 aX, .string aY, .string aZ, .slice cD aO.length cE, .int .i64 ba, .string bc, .slice cH aP.length cI] 58 (0, 0)) ∧ w'.cell? ⟨aE, 24, none⟩ = some (.slice cH aP.length cI) ∧ w'.cell? ⟨gb103, 0, none⟩ = some (.int .i64 a2_0) ∧ w'.cell? ⟨gb103, 1, none⟩ = some (.int .i64 a2_1)) (ds := []) #[false, false, false, false, false, false, false, false, false, false, false, false, false, false, false, false, false, false, false, false, false, false, false, false, false, false, false, false, false, false, false, false, false, false, false, false, false, false, false, false, false, false, false, false] Z5 rfl rfl ⟨ae.out, (blk_cell ae.out 24).trans rfl, ac.out, (blk_cell ac.out 24).trans rfl, (blk_cell BK103.out 0).trans rfl, (blk_cell BK103.out 1).trans rfl⟩ (fun hHeld => ?_); refine with_tabW roadbooklaw07_MsgTells.tab3 roadbooklaw07_MsgTells.bits3 (fun HT_ HW_ => ?_)
        generalize wc.drew = w38 at ae ac BK103 HB hHeld ⊢
        refine one_ (i := 0) (N := some 16) #[true, false, false, false, false, false, false, false, false, false, false, false, false, false, false, false, false, false, false, false, false, false, false, false, false, false, false, false, false, false, false, false, false, false, false, false, false, false, false, false, false, false, false, false] rfl rfl (one_of HT_.out Z5) Z15 (fun K hK => ?_)
        refine goes_ Try.func49 Z5 rfl #[] Z13 rfl rfl Z9 ?_
        with_reducible refine (roadbooklaw07_awake.calls kj3  true _ (Aside0.mk (by first | rfl | exact hr_.out)) A25.out).mono ?_
        rintro e fV ⟨rfl, hb⟩
        refine ⟨_, rfl, ?_⟩
        have aH := Aside0.mk (blk_below (g := aF) Z3 hb)
        have aK := Aside0.mk (blk_below (g := aE) Z19 hb)
        have aL := Aside0.mk (blk_below (g := gb103) (o := .cells #[.int .i64 a2_0, .int .i64 a2_1] 65 (0, 0)) (by (with_reducible repeat (first | refine blk_drewN ?_ _ | refine blk_drew ?_ | refine blk_alloc ?_ _)); exact BK103.out) hb)
        have cQ := Aside0.mk (below_step (by repeat (first | (with_reducible first | exact HB.out | apply below_alloc | apply pw_below_drewN | apply below_drew1 | refine below_set ?_ ed.out | refine below_set ?_ dd.out | refine below_set ?_ GE103.out) | exact HB.out)) hb)
        clear ae
        clear ac
        clear BK103
        clear HB
        have ae := aH
        have ac := aK
        have BK103 := aL
        have HB := cQ
        clear aH aK aL cQ
        (try clear hb)
        (try clear hb2)
        (try clear hk)
        (try clear hi)
        refine hK.out _ _ ⟨ae.out, (blk_cell ae.out 24).trans rfl, ac.out, (blk_cell ac.out 24).trans rfl, (blk_cell BK103.out 0).trans rfl, (blk_cell BK103.out 1).trans rfl⟩ (fun hHeld => ?_)
        clear hK K
        refine norm_ (a' := ?_) ?_ ?_
        rotate_left
        ·show Act.put _ (some 16) _ = _
         simp only [Act.put, List.setIfInBounds_toArray, List.set_cons_zero, List.set_cons_succ, i64_w, i32_w]
         rfl
        refine pure_ (i := 1) (N := some 17) (v := ?_) (a' := ?_) #[true, true, false, false, false, false, false, false, false, false, false, false, false, false, false, false, false, false, false, false, false, false, false, false, false, false, false, false, false, false, false, false, false, false, false, false, false, false, false, false, false, false, false, false] rfl rfl (any_of HT_.out Z5) (fun _ _ _ h => h) (Or.inl ⟨Z13, ?_⟩) ?_ ?_
        rotate_left
        ·intro w'
         go_simp
         with_reducible rfl
        rotate_left
        ·simp only [Act.put, List.setIfInBounds_toArray, List.set_cons_zero, List.set_cons_succ, i64_w, i32_w]
         rfl
        refine take_ (i := 2) (N := some 18) (v := ?_) (a' := ?_) #[true, true, true, false, false, false, false, false, false, false, false, false, false, false, false, false, false, false, false, false, false, false, false, false, false, false, false, false, false, false, false, false, false, false, false, false, false, false, false, false, false, false, false, false] rfl rfl (take_ofW HT_.out HW_.out Z5) (fun _ _ _ h => h) (Or.inl ⟨Z13, ?_⟩) hHeld ?_ ?_
        rotate_left
        ·rintro w' ⟨s0, s1, s2, s3, s4, s5⟩
         first | (refine Eq.trans (Pre.load_run (ty := 58) rfl Z13 (by with_reducible assumption) Try.underlying58 rfl Z5) ?_; with_reducible rfl) | (go_simp; with_reducible rfl)
        rotate_left
        ·simp only [Act.put, List.setIfInBounds_toArray, List.set_cons_zero, List.set_cons_succ, i64_w, i32_w]
         rfl
        refine take_ (i := 3) (N := some 19) (v := ?_) (a' := ?_) #[true, true, true, true, false, false, false, false, false, false, false, false, false, false, false, false, false, false, false, false, false, false, false, false, false, false, false, false, false, false, false, false, false, false, false, false, false, false, false, false, false, false, false, false] rfl rfl (take_ofW HT_.out HW_.out Z5) (fun _ _ _ h => h) (Or.inl ⟨Z13, ?_⟩) hHeld ?_ ?_
        rotate_left
        ·rintro w' ⟨s0, s1, s2, s3, s4, s5⟩
         first | (refine Eq.trans (Pre.load_run (ty := 58) rfl Z13 (by with_reducible assumption) Try.underlying58 rfl Z5) ?_; with_reducible rfl) | (go_simp; with_reducible rfl)
        rotate_left
        ·simp only [Act.put, List.setIfInBounds_toArray, List.set_cons_zero, List.set_cons_succ, i64_w, i32_w]
         rfl
        refine take_ (i := 5) (N := some 21) (v := ?_) (a' := ?_) #[true, true, true, true, false, true, false, false, false, false, false, false, false, false, false, false, false, false, false, false, false, false, false, false, false, false, false, false, false, false, false, false, false, false, false, false, false, false, false, false, false, false, false, false] rfl rfl (take_ofW HT_.out HW_.out Z5) (fun _ _ _ h => h) (Or.inl ⟨Z13, ?_⟩) hHeld ?_ ?_
        rotate_left
        ·rintro w' ⟨s0, s1, s2, s3, s4, s5⟩
         first | (refine Eq.trans (Pre.load_run (ty := 58) rfl Z13 (by with_reducible assumption) Try.underlying58 rfl Z5) ?_; with_reducible rfl) | (go_simp; with_reducible rfl)
        rotate_left
        ·simp only [Act.put, List.setIfInBounds_toArray, List.set_cons_zero, List.set_cons_succ, i64_w, i32_w]
         rfl
        refine take_ (i := 6) (N := some 22) (v := ?_) (a' := ?_) #[true, true, true, true, false, true, true, false, false, false, false, false, false, false, false, false, false, false, false, false, false, false, false, false, false, false, false, false, false, false, false, false, false, false, false, false, false, false, false, false, false, false, false, false] rfl rfl (take_ofW HT_.out HW_.out Z5) (fun _ _ _ h => h) (Or.inl ⟨Z13, ?_⟩) hHeld ?_ ?_
        rotate_left
        ·rintro w' ⟨s0, s1, s2, s3, s4, s5⟩
         first | (refine Eq.trans (Pre.load_run (ty := 58) rfl Z13 (by with_reducible assumption) Try.underlying58 rfl Z5) ?_; with_reducible rfl) | (go_simp; with_reducible rfl)
        rotate_left
        ·simp only [Act.put, List.setIfInBounds_toArray, List.set_cons_zero, List.set_cons_succ, i64_w, i32_w]
         rfl
        refine one_ (i := 4) (N := some 20) #[true, true, true, true, true, true, true, false, false, false, false, false, false, false, false, false, false, false, false, false, false, false, false, false, false, false, false, false, false, false, false, false, false, false, false, false, false, false, false, false, false, false, false, false] rfl rfl (one_of HT_.out Z5) Z15 (fun K hK => ?_)
        refine goes_ Try.func50 Z5 rfl #[.agg #[.int .i64 aG, .int .i64 aA, .int .i64 aB, .string az, .int .i64 aC, .int .i64 av, .string ax, .int .i64 aw, .int .i64 aD, .string ay, .int .i64 ap, .string an, .int .i64 ag, .int .i64 aq, .int .i64 ai, .int .i64 ah, .int .i64 ak, .int .i64 al, .int .i64 ao, .string aj, .string am, .slice bf af.length bg, .int .i64 ar, .string au, .slice aI ab.length aJ], .agg #[.int .i64 bi, .int .i64 bj, .int .i64 bk, .string bl, .int .i64 bm, .int .i64 bn, .string bo, .int .i64 bp, .int .i64 bq, .string br, .int .i64 bb, .string aQ, .int .i64 aR, .int .i64 aS, .int .i64 aT, .int .i64 aU, .int .i64 aV, .int .i64 aW, .int .i64 aX, .string aY, .string aZ, .slice cD aO.length cE, .int .i64 ba, .string bc, .slice cH aP.length cI]] Z13 rfl rfl Z9 ?_
        with_reducible refine (msg_Same.calls kj3 aG aA aB az aC av ax aw aD ay ap an ag aq ai ah ak al ao aj am _ _ af ar au _ _ ab bi bj bk bl bm bn bo bp bq br bb aQ aR aS aT aU aV aW aX aY aZ _ _ aO ba bc _ _ aP dK _ ?side1 ?side2 ?side3 ?side4 ?side5 ?side6 ?side7 ?side8 A27.out).mono ?_
        (case side1 => exact Z12)
        (case side2 => exact cF.out)
        (case side3 => exact Z21)
        (case side4 => exact bU.out)
        (case side5 => exact Z16)
        (case side6 => exact dg.out)
        (case side7 => exact Z29)
        (case side8 => exact dz.out)
        rintro e fW ⟨rfl, hb⟩
        refine ⟨_, rfl, ?_⟩
        have aH := Aside0.mk (blk_below (g := aF) Z3 hb)
        have aK := Aside0.mk (blk_below (g := aE) Z19 hb)
        have aL := Aside0.mk (blk_below (g := gb103) (o := .cells #[.int .i64 a2_0, .int .i64 a2_1] 65 (0, 0)) (by (with_reducible repeat (first | refine blk_drewN ?_ _ | refine blk_drew ?_ | refine blk_alloc ?_ _)); exact BK103.out) hb)
        have cQ := Aside0.mk (below_step (by repeat (first | (with_reducible first | exact HB.out | apply below_alloc | apply pw_below_drewN | apply below_drew1 | refine below_set ?_ ed.out | refine below_set ?_ dd.out | refine below_set ?_ GE103.out) | exact HB.out)) hb)
        clear ae
        clear ac
        clear BK103
        clear HB
        have ae := aH
        have ac := aK
        have BK103 := aL
        have HB := cQ
        clear aH aK aL cQ
        (try clear hb)
        (try clear hb2)
        (try clear hk)
        (try clear hi)
        refine hK.out _ _ ⟨ae.out, (blk_cell ae.out 24).trans rfl, ac.out, (blk_cell ac.out 24).trans rfl, (blk_cell BK103.out 0).trans rfl, (blk_cell BK103.out 1).trans rfl⟩ (fun hHeld => ?_)
        clear hK K
        refine norm_ (a' := ?_) ?_ ?_
        rotate_left
        ·show Act.put _ (some 20) _ = _
         simp only [Act.put, List.setIfInBounds_toArray, List.set_cons_zero, List.set_cons_succ, i64_w, i32_w]
         rfl
        refine one_ (i := 7) (N := some 23) #[true, true, true, true, true, true, true, true, false, false, false, false, false, false, false, false, false, false, false, false, false, false, false, false, false, false, false, false, false, false, false, false, false, false, false, false, false, false, false, false, false, false, false, false] rfl rfl (one_of HT_.out Z5) Z15 (fun K hK => ?_)
        refine goes_ Try.func47 Z5 rfl #[.agg #[.int .i64 aG, .int .i64 aA, .int .i64 aB, .string az, .int .i64 aC, .int .i64 av, .string ax, .int .i64 aw, .int .i64 aD, .string ay, .int .i64 ap, .string an, .int .i64 ag, .int .i64 aq, .int .i64 ai, .int .i64 ah, .int .i64 ak, .int .i64 al, .int .i64 ao, .string aj, .string am, .slice bf af.length bg, .int .i64 ar, .string au, .slice aI ab.length aJ], .agg #[.int .i64 bi, .int .i64 bj, .int .i64 bk, .string bl, .int .i64 bm, .int .i64 bn, .string bo, .int .i64 bp, .int .i64 bq, .string br, .int .i64 bb, .string aQ, .int .i64 aR, .int .i64 aS, .int .i64 aT, .int .i64 aU, .int .i64 aV, .int .i64 aW, .int .i64 aX, .string aY, .string aZ, .slice cD aO.length cE, .int .i64 ba, .string bc, .slice cH aP.length cI]] Z13 rfl rfl Z9 ?_
        with_reducible refine (roadbookref07_Same.calls kj3 aG aA aB az aC av ax aw aD ay ap an ag aq ai ah ak al ao aj am _ _ af ar au _ _ ab bi bj bk bl bm bn bo bp bq br bb aQ aR aS aT aU aV aW aX aY aZ _ _ aO ba bc _ _ aP dL _ ?side1 ?side2 ?side3 ?side4 ?side5 ?side6 ?side7 ?side8 A28.out).mono ?_
        (case side1 => exact Z12)
        (case side2 => exact cF.out)
        (case side3 => exact Z21)
        (case side4 => exact bU.out)
        (case side5 => exact Z16)
        (case side6 => exact dg.out)
        (case side7 => exact Z29)
        (case side8 => exact dz.out)
        rintro e fX ⟨rfl, hb⟩
        refine ⟨_, rfl, ?_⟩
        have aH := Aside0.mk (blk_below (g := aF) Z3 hb)
        have aK := Aside0.mk (blk_below (g := aE) Z19 hb)
        have aL := Aside0.mk (blk_below (g := gb103) (o := .cells #[.int .i64 a2_0, .int .i64 a2_1] 65 (0, 0)) (by (with_reducible repeat (first | refine blk_drewN ?_ _ | refine blk_drew ?_ | refine blk_alloc ?_ _)); exact BK103.out) hb)
        have cQ := Aside0.mk (below_step (by repeat (first | (with_reducible first | exact HB.out | apply below_alloc | apply pw_below_drewN | apply below_drew1 | refine below_set ?_ ed.out | refine below_set ?_ dd.out | refine below_set ?_ GE103.out) | exact HB.out)) hb)
        clear ae
        clear ac
        clear BK103
        clear HB
        have ae := aH
        have ac := aK
        have BK103 := aL
        have HB := cQ
        clear aH aK aL cQ
        (try clear hb)
        (try clear hb2)
        (try clear hk)
        (try clear hi)
        refine hK.out _ _ ⟨ae.out, (blk_cell ae.out 24).trans rfl, ac.out, (blk_cell ac.out 24).trans rfl, (blk_cell BK103.out 0).trans rfl, (blk_cell BK103.out 1).trans rfl⟩ (fun hHeld => ?_)
        clear hK K
        refine norm_ (a' := ?_) ?_ ?_
        rotate_left
        ·show Act.put _ (some 23) _ = _
         simp only [Act.put, List.setIfInBounds_toArray, List.set_cons_zero, List.set_cons_succ, i64_w, i32_w]
         rfl
        refine pure_ (i := 8) (N := some 24) (v := ?_) (a' := ?_) #[true, true, true, true, true, true, true, true, true, false, false, false, false, false, false, false, false, false, false, false, false, false, false, false, false, false, false, false, false, false, false, false, false, false, false, false, false, false, false, false, false, false, false, false] rfl rfl (any_of HT_.out Z5) (fun _ _ _ h => h) (Or.inl ⟨Z13, ?_⟩) ?_ ?_
        rotate_left
        ·intro w'
         go_simp
         with_reducible rfl
        rotate_left
        ·simp only [Act.put, List.setIfInBounds_toArray, List.set_cons_zero, List.set_cons_succ, i64_w, i32_w]
         rfl
        refine pure_ (i := 9) (N := some 25) (v := ?_) (a' := ?_) #[true, true, true, true, true, true, true, true, true, true, false, false, false, false, false, false, false, false, false, false, false, false, false, false, false, false, false, false, false, false, false, false, false, false, false, false, false, false, false, false, false, false, false, false] rfl rfl (any_of HT_.out Z5) (fun _ _ _ h => h) (Or.inl ⟨Z13, ?_⟩) ?_ ?_
        rotate_left
        ·intro w'
         go_simp
         with_reducible rfl
        rotate_left
        ·simp only [Act.put, List.setIfInBounds_toArray, List.set_cons_zero, List.set_cons_succ, i64_w, i32_w]
         rfl
        refine pure_ (i := 10) (N := some 26) (v := ?_) (a' := ?_) #[true, true, true, true, true, true, true, true, true, true, true, false, false, false, false, false, false, false, false, false, false, false, false, false, false, false, false, false, false, false, false, false, false, false, false, false, false, false, false, false, false, false, false, false] rfl rfl (any_of HT_.out Z5) (fun _ _ _ h => h) (Or.inl ⟨Z13, ?_⟩) ?_ ?_
        rotate_left
        ·intro w'
         go_simp
         with_reducible rfl
        rotate_left
        ·simp only [Act.put, List.setIfInBounds_toArray, List.set_cons_zero, List.set_cons_succ, i64_w, i32_w]
         rfl
        refine take_ (i := 11) (N := some 27) (v := ?_) (a' := ?_) #[true, true, true, true, true, true, true, true, true, true, true, true, false, false, false, false, false, false, false, false, false, false, false, false, false, false, false, false, false, false, false, false, false, false, false, false, false, false, false, false, false, false, false, false] rfl rfl (take_ofW HT_.out HW_.out Z5) (fun _ _ _ h => h) (Or.inl ⟨Z13, ?_⟩) hHeld ?_ ?_
        rotate_left
        ·rintro w' ⟨s0, s1, s2, s3, s4, s5⟩
         first | (refine Eq.trans (Pre.load_run (ty := 58) rfl Z13 (by with_reducible assumption) Try.underlying58 rfl Z5) ?_; with_reducible rfl) | (go_simp; with_reducible rfl)
        rotate_left
        ·simp only [Act.put, List.setIfInBounds_toArray, List.set_cons_zero, List.set_cons_succ, i64_w, i32_w]
         rfl
        refine take_ (i := 13) (N := some 29) (v := ?_) (a' := ?_) #[true, true, true, true, true, true, true, true, true, true, true, true, false, true, false, false, false, false, false, false, false, false, false, false, false, false, false, false, false, false, false, false, false, false, false, false, false, false, false, false, false, false, false, false] rfl rfl (take_ofW HT_.out HW_.out Z5) (fun _ _ _ h => h) (Or.inl ⟨Z13, ?_⟩) hHeld ?_ ?_
        rotate_left
        ·rintro w' ⟨s0, s1, s2, s3, s4, s5⟩
         first | (refine Eq.trans (Pre.load_run (ty := 58) rfl Z13 (by with_reducible assumption) Try.underlying58 rfl Z5) ?_; with_reducible rfl) | (go_simp; with_reducible rfl)
        rotate_left
        ·simp only [Act.put, List.setIfInBounds_toArray, List.set_cons_zero, List.set_cons_succ, i64_w, i32_w]
         rfl
        refine one_ (i := 12) (N := some 28) #[true, true, true, true, true, true, true, true, true, true, true, true, true, true, false, false, false, false, false, false, false, false, false, false, false, false, false, false, false, false, false, false, false, false, false, false, false, false, false, false, false, false, false, false] rfl rfl (one_of HT_.out Z5) Z15 (fun K hK => ?_)
        refine goes_ Try.func51 Z5 rfl #[.agg #[.int .i64 aG, .int .i64 aA, .int .i64 aB, .string az, .int .i64 aC, .int .i64 av, .string ax, .int .i64 aw, .int .i64 aD, .string ay, .int .i64 ap, .string an, .int .i64 ag, .int .i64 aq, .int .i64 ai, .int .i64 ah, .int .i64 ak, .int .i64 al, .int .i64 ao, .string aj, .string am, .slice bf af.length bg, .int .i64 ar, .string au, .slice aI ab.length aJ]] Z13 rfl rfl Z9 ?_
        with_reducible refine (msg_Bare.calls aG aA aB az aC av ax aw aD ay ap an ag aq ai ah ak al ao aj am _ _ af ar au _ _ ab dM _ ?side1 ?side2 ?side3 ?side4 hC.out).mono ?_
        (case side1 => exact Z12)
        (case side2 => exact cF.out)
        (case side3 => exact Z21)
        (case side4 => exact bU.out)
        rintro e hB ⟨rfl, hb⟩
        refine ⟨_, rfl, ?_⟩
        have aH := Aside0.mk (blk_below (g := aF) Z3 hb)
        have aK := Aside0.mk (blk_below (g := aE) Z19 hb)
        have aL := Aside0.mk (blk_below (g := gb103) (o := .cells #[.int .i64 a2_0, .int .i64 a2_1] 65 (0, 0)) (by (with_reducible repeat (first | refine blk_drewN ?_ _ | refine blk_drew ?_ | refine blk_alloc ?_ _)); exact BK103.out) hb)
        have cQ := Aside0.mk (below_step (by repeat (first | (with_reducible first | exact HB.out | apply below_alloc | apply pw_below_drewN | apply below_drew1 | refine below_set ?_ ed.out | refine below_set ?_ dd.out | refine below_set ?_ GE103.out) | exact HB.out)) hb)
        clear ae
        clear ac
        clear BK103
        clear HB
        have ae := aH
        have ac := aK
        have BK103 := aL
        have HB := cQ
        clear aH aK aL cQ
        (try clear hb)
        (try clear hb2)
        (try clear hk)
        (try clear hi)
        refine hK.out _ _ ⟨ae.out, (blk_cell ae.out 24).trans rfl, ac.out, (blk_cell ac.out 24).trans rfl, (blk_cell BK103.out 0).trans rfl, (blk_cell BK103.out 1).trans rfl⟩ (fun hHeld => ?_)
        clear hK K
        refine norm_ (a' := ?_) ?_ ?_
        rotate_left
        ·show Act.put _ (some 28) _ = _
         simp only [Act.put, List.setIfInBounds_toArray, List.set_cons_zero, List.set_cons_succ, i64_w, i32_w]
         rfl
        refine one_ (i := 14) (N := some 30) #[true, true, true, true, true, true, true, true, true, true, true, true, true, true, true, false, false, false, false, false, false, false, false, false, false, false, false, false, false, false, false, false, false, false, false, false, false, false, false, false, false, false, false, false] rfl rfl (one_of HT_.out Z5) Z15 (fun K hK => ?_)
        refine goes_ Try.func52 Z5 rfl #[.agg #[.int .i64 aG, .int .i64 aA, .int .i64 aB, .string az, .int .i64 aC, .int .i64 av, .string ax, .int .i64 aw, .int .i64 aD, .string ay, .int .i64 ap, .string an, .int .i64 ag, .int .i64 aq, .int .i64 ai, .int .i64 ah, .int .i64 ak, .int .i64 al, .int .i64 ao, .string aj, .string am, .slice bf af.length bg, .int .i64 ar, .string au, .slice aI ab.length aJ]] Z13 rfl rfl Z9 ?_
        with_reducible refine (roadbookref07_Bare.calls kj3 aG aA aB az aC av ax aw aD ay ap an ag aq ai ah ak al ao aj am _ _ af ar au _ _ ab dN _ ?side1 ?side2 ?side3 ?side4 A31.out).mono ?_
        (case side1 => exact Z12)
        (case side2 => exact cF.out)
        (case side3 => exact Z21)
        (case side4 => exact bU.out)
        rintro e ij ⟨rfl, hb⟩
        refine ⟨_, rfl, ?_⟩
        have aH := Aside0.mk (blk_below (g := aF) Z3 hb)
        have aK := Aside0.mk (blk_below (g := aE) Z19 hb)
        have aL := Aside0.mk (blk_below (g := gb103) (o := .cells #[.int .i64 a2_0, .int .i64 a2_1] 65 (0, 0)) (by (with_reducible repeat (first | refine blk_drewN ?_ _ | refine blk_drew ?_ | refine blk_alloc ?_ _)); exact BK103.out) hb)
        have cQ := Aside0.mk (below_step (by repeat (first | (with_reducible first | exact HB.out | apply below_alloc | apply pw_below_drewN | apply below_drew1 | refine below_set ?_ ed.out | refine below_set ?_ dd.out | refine below_set ?_ GE103.out) | exact HB.out)) hb)
        clear ae
        clear ac
        clear BK103
        clear HB
        have ae := aH
        have ac := aK
        have BK103 := aL
        have HB := cQ
        clear aH aK aL cQ
        (try clear hb)
        (try clear hb2)
        (try clear hk)
        (try clear hi)
        refine hK.out _ _ ⟨ae.out, (blk_cell ae.out 24).trans rfl, ac.out, (blk_cell ac.out 24).trans rfl, (blk_cell BK103.out 0).trans rfl, (blk_cell BK103.out 1).trans rfl⟩ (fun hHeld => ?_)
        clear hK K
        refine norm_ (a' := ?_) ?_ ?_
        rotate_left
        ·show Act.put _ (some 30) _ = _
         simp only [Act.put, List.setIfInBounds_toArray, List.set_cons_zero, List.set_cons_succ, i64_w, i32_w]
         rfl
        refine pure_ (i := 15) (N := some 31) (v := ?_) (a' := ?_) #[true, true, true, true, true, true, true, true, true, true, true, true, true, true, true, true, false, false, false, false, false, false, false, false, false, false, false, false, false, false, false, false, false, false, false, false, false, false, false, false, false, false, false, false] rfl rfl (any_of HT_.out Z5) (fun _ _ _ h => h) (Or.inl ⟨Z13, ?_⟩) ?_ ?_
        rotate_left
        ·intro w'
         go_simp
         with_reducible rfl
        rotate_left
        ·simp only [Act.put, List.setIfInBounds_toArray, List.set_cons_zero, List.set_cons_succ, i64_w, i32_w]
         rfl
        refine pure_ (i := 16) (N := some 32) (v := ?_) (a' := ?_) #[true, true, true, true, true, true, true, true, true, true, true, true, true, true, true, true, true, false, false, false, false, false, false, false, false, false, false, false, false, false, false, false, false, false, false, false, false, false, false, false, false, false, false, false] rfl rfl (any_of HT_.out Z5) (fun _ _ _ h => h) (Or.inl ⟨Z13, ?_⟩) ?_ ?_
        rotate_left
        ·intro w'
         go_simp
         with_reducible rfl
        rotate_left
        ·simp only [Act.put, List.setIfInBounds_toArray, List.set_cons_zero, List.set_cons_succ, i64_w, i32_w]
         rfl
        refine pure_ (i := 17) (N := some 33) (v := ?_) (a' := ?_) #[true, true, true, true, true, true, true, true, true, true, true, true, true, true, true, true, true, true, false, false, false, false, false, false, false, false, false, false, false, false, false, false, false, false, false, false, false, false, false, false, false, false, false, false] rfl rfl (any_of HT_.out Z5) (fun _ _ _ h => h) (Or.inl ⟨Z13, ?_⟩) ?_ ?_
        rotate_left
        ·intro w'
         go_simp
         with_reducible rfl
        rotate_left
        ·simp only [Act.put, List.setIfInBounds_toArray, List.set_cons_zero, List.set_cons_succ, i64_w, i32_w]
         rfl
        refine pure_ (i := 18) (N := some 34) (v := ?_) (a' := ?_) #[true, true, true, true, true, true, true, true, true, true, true, true, true, true, true, true, true, true, true, false, false, false, false, false, false, false, false, false, false, false, false, false, false, false, false, false, false, false, false, false, false, false, false, false] rfl rfl (any_of HT_.out Z5) (fun _ _ _ h => h) (Or.inl ⟨Z13, ?_⟩) ?_ ?_
        rotate_left
        ·intro w'
         go_simp
         with_reducible rfl
        rotate_left
        ·simp only [Act.put, List.setIfInBounds_toArray, List.set_cons_zero, List.set_cons_succ, i64_w, i32_w]
         rfl
        refine pure_ (i := 21) (N := some 37) (v := ?_) (a' := ?_) #[true, true, true, true, true, true, true, true, true, true, true, true, true, true, true, true, true, true, true, false, false, true, false, false, false, false, false, false, false, false, false, false, false, false, false, false, false, false, false, false, false, false, false, false] rfl rfl (any_of HT_.out Z5) (fun _ _ _ h => h) (Or.inl ⟨Z13, ?_⟩) ?_ ?_
        rotate_left
        ·intro w'
         go_simp
         with_reducible rfl
        rotate_left
        ·simp only [Act.put, List.setIfInBounds_toArray, List.set_cons_zero, List.set_cons_succ, i64_w, i32_w]
         rfl
        refine take_ (i := 19) (N := some 35) (v := ?_) (a' := ?_) #[true, true, true, true, true, true, true, true, true, true, true, true, true, true, true, true, true, true, true, true, false, true, false, false, false, false, false, false, false, false, false, false, false, false, false, false, false, false, false, false, false, false, false, false] rfl rfl (take_ofW HT_.out HW_.out Z5) (fun _ _ _ h => h) (Or.inl ⟨Z13, ?_⟩) hHeld ?_ ?_
        rotate_left
        ·rintro w' ⟨s0, s1, s2, s3, s4, s5⟩
         first | (refine Eq.trans (Pre.load_run (ty := 58) rfl Z13 (by with_reducible assumption) Try.underlying58 rfl Z5) ?_; with_reducible rfl) | (go_simp; with_reducible rfl)
        rotate_left
        ·simp only [Act.put, List.setIfInBounds_toArray, List.set_cons_zero, List.set_cons_succ, i64_w, i32_w]
         rfl
        refine take_ (i := 22) (N := some 38) (v := ?_) (a' := ?_) #[true, true, true, true, true, true, true, true, true, true, true, true, true, true, true, true, true, true, true, true, false, true, true, false, false, false, false, false, false, false, false, false, false, false, false, false, false, false, false, false, false, false, false, false] rfl rfl (take_ofW HT_.out HW_.out Z5) (fun _ _ _ h => h) (Or.inl ⟨Z13, ?_⟩) hHeld ?_ ?_
        rotate_left
        ·rintro w' ⟨s0, s1, s2, s3, s4, s5⟩
         first | (refine Eq.trans (Pre.load_run (ty := 58) rfl Z13 (by with_reducible assumption) Try.underlying58 rfl Z5) ?_; with_reducible rfl) | (go_simp; with_reducible rfl)
        rotate_left
        ·simp only [Act.put, List.setIfInBounds_toArray, List.set_cons_zero, List.set_cons_succ, i64_w, i32_w]
         rfl
        refine one_ (i := 20) (N := some 36) #[true, true, true, true, true, true, true, true, true, true, true, true, true, true, true, true, true, true, true, true, true, true, true, false, false, false, false, false, false, false, false, false, false, false, false, false, false, false, false, false, false, false, false, false] rfl rfl (one_of HT_.out Z5) Z15 (fun K hK => ?_)
        refine goes_ Try.func53 Z5 rfl #[.slice aI ab.length aJ] Z13 rfl rfl Z9 ?_
        with_reducible refine (msg_Bytes.calls kj3 _ _ ab dO _ ?side1 ?side2 A33.out).mono ?_
        (case side1 => exact Z21)
        (case side2 => exact bU.out)
        rintro e iv ⟨rfl, hb⟩
        refine ⟨_, rfl, ?_⟩
        have aH := Aside0.mk (blk_below (g := aF) Z3 hb)
        have aK := Aside0.mk (blk_below (g := aE) Z19 hb)
        have aL := Aside0.mk (blk_below (g := gb103) (o := .cells #[.int .i64 a2_0, .int .i64 a2_1] 65 (0, 0)) (by (with_reducible repeat (first | refine blk_drewN ?_ _ | refine blk_drew ?_ | refine blk_alloc ?_ _)); exact BK103.out) hb)
        have cQ := Aside0.mk (below_step (by repeat (first | (with_reducible first | exact HB.out | apply below_alloc | apply pw_below_drewN | apply below_drew1 | refine below_set ?_ ed.out | refine below_set ?_ dd.out | refine below_set ?_ GE103.out) | exact HB.out)) hb)
        clear ae
        clear ac
        clear BK103
        clear HB
        have ae := aH
        have ac := aK
        have BK103 := aL
        have HB := cQ
        clear aH aK aL cQ
        (try clear hb)
        (try clear hb2)
        (try clear hk)
        (try clear hi)
        refine hK.out _ _ ⟨ae.out, (blk_cell ae.out 24).trans rfl, ac.out, (blk_cell ac.out 24).trans rfl, (blk_cell BK103.out 0).trans rfl, (blk_cell BK103.out 1).trans rfl⟩ (fun hHeld => ?_)
        clear hK K
        refine norm_ (a' := ?_) ?_ ?_
        rotate_left
        ·show Act.put _ (some 36) _ = _
         simp only [Act.put, List.setIfInBounds_toArray, List.set_cons_zero, List.set_cons_succ, i64_w, i32_w]
         rfl
        refine one_ (i := 23) (N := some 39) #[true, true, true, true, true, true, true, true, true, true, true, true, true, true, true, true, true, true, true, true, true, true, true, true, false, false, false, false, false, false, false, false, false, false, false, false, false, false, false, false, false, false, false, false] rfl rfl (one_of HT_.out Z5) Z15 (fun K hK => ?_)
        refine goes_ Try.func54 Z5 rfl #[.slice aI ab.length aJ] Z13 rfl rfl Z9 ?_
        with_reducible refine (roadbookref07_Bytes.calls kj3 _ _ ab dP _ ?side1 ?side2 A34.out).mono ?_
        (case side1 => exact Z21)
        (case side2 => exact bU.out)
        rintro e w' ⟨rfl, ⟨nd, rfl⟩⟩
        refine ⟨_, rfl, ?_⟩
        refine hK.out _ _ ⟨ae.out, (blk_cell ae.out 24).trans rfl, ac.out, (blk_cell ac.out 24).trans rfl, (blk_cell BK103.out 0).trans rfl, (blk_cell BK103.out 1).trans rfl⟩ (fun hHeld => ?_)
        clear hK K
        refine norm_ (a' := ?_) ?_ ?_
        rotate_left
        ·show Act.put _ (some 39) _ = _
         simp only [Act.put, List.setIfInBounds_toArray, List.set_cons_zero, List.set_cons_succ, i64_w, i32_w]
         rfl
        refine pure_ (i := 24) (N := some 40) (v := ?_) (a' := ?_) #[true, true, true, true, true, true, true, true, true, true, true, true, true, true, true, true, true, true, true, true, true, true, true, true, true, false, false, false, false, false, false, false, false, false, false, false, false, false, false, false, false, false, false, false] rfl rfl (any_of HT_.out Z5) (fun _ _ _ h => h) (Or.inl ⟨Z13, ?_⟩) ?_ ?_
        rotate_left
        ·intro w'
         go_simp
         with_reducible rfl
        rotate_left
        ·simp only [Act.put, List.setIfInBounds_toArray, List.set_cons_zero, List.set_cons_succ, i64_w, i32_w]
         rfl
        refine pure_ (i := 25) (N := some 41) (v := ?_) (a' := ?_) #[true, true, true, true, true, true, true, true, true, true, true, true, true, true, true, true, true, true, true, true, true, true, true, true, true, true, false, false, false, false, false, false, false, false, false, false, false, false, false, false, false, false, false, false] rfl rfl (any_of HT_.out Z5) (fun _ _ _ h => h) (Or.inl ⟨Z13, ?_⟩) ?_ ?_
        rotate_left
        ·intro w'
         go_simp
         with_reducible rfl
        rotate_left
        ·simp only [Act.put, List.setIfInBounds_toArray, List.set_cons_zero, List.set_cons_succ, i64_w, i32_w]
         rfl
        refine pure_ (i := 26) (N := some 42) (v := ?_) (a' := ?_) #[true, true, true, true, true, true, true, true, true, true, true, true, true, true, true, true, true, true, true, true, true, true, true, true, true, true, true, false, false, false, false, false, false, false, false, false, false, false, false, false, false, false, false, false] rfl rfl (any_of HT_.out Z5) (fun _ _ _ h => h) (Or.inl ⟨Z13, ?_⟩) ?_ ?_
        rotate_left
        ·intro w'
         go_simp
         with_reducible rfl
        rotate_left
        ·simp only [Act.put, List.setIfInBounds_toArray, List.set_cons_zero, List.set_cons_succ, i64_w, i32_w]
         rfl
        refine pure_ (i := 27) (N := some 43) (v := ?_) (a' := ?_) #[true, true, true, true, true, true, true, true, true, true, true, true, true, true, true, true, true, true, true, true, true, true, true, true, true, true, true, true, false, false, false, false, false, false, false, false, false, false, false, false, false, false, false, false] rfl rfl (any_of HT_.out Z5) (fun _ _ _ h => h) (Or.inl ⟨Z13, ?_⟩) ?_ ?_
        rotate_left
        ·intro w'
         go_simp
         with_reducible rfl
        rotate_left
        ·simp only [Act.put, List.setIfInBounds_toArray, List.set_cons_zero, List.set_cons_succ, i64_w, i32_w]
         rfl
        refine pure_ (i := 29) (N := some 45) (v := ?_) (a' := ?_) #[true, true, true, true, true, true, true, true, true, true, true, true, true, true, true, true, true, true, true, true, true, true, true, true, true, true, true, true, false, true, false, false, false, false, false, false, false, false, false, false, false, false, false, false] rfl rfl (any_of HT_.out Z5) (fun _ _ _ h => h) (Or.inl ⟨Z13, ?_⟩) ?_ ?_
        rotate_left
        ·intro w'
         go_simp
         with_reducible rfl
        rotate_left
        ·simp only [Act.put, List.setIfInBounds_toArray, List.set_cons_zero, List.set_cons_succ, i64_w, i32_w]
         rfl
        refine pure_ (i := 31) (N := some 47) (v := ?_) (a' := ?_) #[true, true, true, true, true, true, true, true, true, true, true, true, true, true, true, true, true, true, true, true, true, true, true, true, true, true, true, true, false, true, false, true, false, false, false, false, false, false, false, false, false, false, false, false] rfl rfl (any_of HT_.out Z5) (fun _ _ _ h => h) (Or.inl ⟨Z13, ?_⟩) ?_ ?_
        rotate_left
        ·intro w'
         go_simp
         with_reducible rfl
        rotate_left
        ·simp only [Act.put, List.setIfInBounds_toArray, List.set_cons_zero, List.set_cons_succ, i64_w, i32_w]
         rfl
        refine pure_ (i := 34) (N := some 50) (v := ?_) (a' := ?_) #[true, true, true, true, true, true, true, true, true, true, true, true, true, true, true, true, true, true, true, true, true, true, true, true, true, true, true, true, false, true, false, true, false, false, true, false, false, false, false, false, false, false, false, false] rfl rfl (any_of HT_.out Z5) (fun _ _ _ h => h) (Or.inl ⟨Z13, ?_⟩) ?_ ?_
        rotate_left
        ·intro w'
         go_simp
         with_reducible rfl
        rotate_left
        ·simp only [Act.put, List.setIfInBounds_toArray, List.set_cons_zero, List.set_cons_succ, i64_w, i32_w]
         rfl
        refine pure_ (i := 36) (N := some 52) (v := ?_) (a' := ?_) #[true, true, true, true, true, true, true, true, true, true, true, true, true, true, true, true, true, true, true, true, true, true, true, true, true, true, true, true, false, true, false, true, false, false, true, false, true, false, false, false, false, false, false, false] rfl rfl (any_of HT_.out Z5) (fun _ _ _ h => h) (Or.inl ⟨Z13, ?_⟩) ?_ ?_
        rotate_left
        ·intro w'
         go_simp
         with_reducible rfl
        rotate_left
        ·simp only [Act.put, List.setIfInBounds_toArray, List.set_cons_zero, List.set_cons_succ, i64_w, i32_w]
         rfl
        refine pure_ (i := 38) (N := some 54) (v := ?_) (a' := ?_) #[true, true, true, true, true, true, true, true, true, true, true, true, true, true, true, true, true, true, true, true, true, true, true, true, true, true, true, true, false, true, false, true, false, false, true, false, true, false, true, false, false, false, false, false] rfl rfl (any_of HT_.out Z5) (fun _ _ _ h => h) (Or.inl ⟨Z13, ?_⟩) ?_ ?_
        rotate_left
        ·intro w'
         go_simp
         with_reducible rfl
        rotate_left
        ·simp only [Act.put, List.setIfInBounds_toArray, List.set_cons_zero, List.set_cons_succ, i64_w, i32_w]
         rfl
        refine take_ (i := 28) (N := some 44) (v := ?_) (a' := ?_) #[true, true, true, true, true, true, true, true, true, true, true, true, true, true, true, true, true, true, true, true, true, true, true, true, true, true, true, true, true, true, false, true, false, false, true, false, true, false, true, false, false, false, false, false] rfl rfl (take_ofW HT_.out HW_.out Z5) (fun _ _ _ h => h) (Or.inl ⟨Z13, ?_⟩) hHeld ?_ ?_
        rotate_left
        ·rintro w' ⟨s0, s1, s2, s3, s4, s5⟩
         first | (refine Eq.trans (Pre.load_run (ty := 58) rfl Z13 (by with_reducible assumption) Try.underlying58 rfl Z5) ?_; with_reducible rfl) | (go_simp; with_reducible rfl)
        rotate_left
        ·simp only [Act.put, List.setIfInBounds_toArray, List.set_cons_zero, List.set_cons_succ, i64_w, i32_w]
         rfl
        refine take_ (i := 30) (N := some 46) (v := ?_) (a' := ?_) #[true, true, true, true, true, true, true, true, true, true, true, true, true, true, true, true, true, true, true, true, true, true, true, true, true, true, true, true, true, true, true, true, false, false, true, false, true, false, true, false, false, false, false, false] rfl rfl (take_ofW HT_.out HW_.out Z5) (fun _ _ _ h => h) (Or.inl ⟨Z13, ?_⟩) hHeld ?_ ?_
        rotate_left
        ·rintro w' ⟨s0, s1, s2, s3, s4, s5⟩
         first | (refine Eq.trans (Pre.load_run (ty := 58) rfl Z13 (by with_reducible assumption) Try.underlying58 rfl Z5) ?_; with_reducible rfl) | (go_simp; with_reducible rfl)
        rotate_left
        ·simp only [Act.put, List.setIfInBounds_toArray, List.set_cons_zero, List.set_cons_succ, i64_w, i32_w]
         rfl
        refine take_ (i := 32) (N := some 48) (v := ?_) (a' := ?_) #[true, true, true, true, true, true, true, true, true, true, true, true, true, true, true, true, true, true, true, true, true, true, true, true, true, true, true, true, true, true, true, true, true, false, true, false, true, false, true, false, false, false, false, false] rfl rfl (take_ofW HT_.out HW_.out Z5) (fun _ _ _ h => h) (Or.inl ⟨Z13, ?_⟩) hHeld ?_ ?_
        rotate_left
        ·rintro w' ⟨s0, s1, s2, s3, s4, s5⟩
         first | (refine Eq.trans (Pre.load_run (ty := 58) rfl Z13 (by with_reducible assumption) Try.underlying58 rfl Z5) ?_; with_reducible rfl) | (go_simp; with_reducible rfl)
        rotate_left
        ·simp only [Act.put, List.setIfInBounds_toArray, List.set_cons_zero, List.set_cons_succ, i64_w, i32_w]
         rfl
        refine take_ (i := 35) (N := some 51) (v := ?_) (a' := ?_) #[true, true, true, true, true, true, true, true, true, true, true, true, true, true, true, true, true, true, true, true, true, true, true, true, true, true, true, true, true, true, true, true, true, false, true, true, true, false, true, false, false, false, false, false] rfl rfl (take_ofW HT_.out HW_.out Z5) (fun _ _ _ h => h) (Or.inl ⟨Z13, ?_⟩) hHeld ?_ ?_
        rotate_left
        ·rintro w' ⟨s0, s1, s2, s3, s4, s5⟩
         first | (refine Eq.trans (Pre.load_run (ty := 58) rfl Z13 (by with_reducible assumption) Try.underlying58 rfl Z5) ?_; with_reducible rfl) | (go_simp; with_reducible rfl)
        rotate_left
        ·simp only [Act.put, List.setIfInBounds_toArray, List.set_cons_zero, List.set_cons_succ, i64_w, i32_w]
         rfl
        refine take_ (i := 37) (N := some 53) (v := ?_) (a' := ?_) #[true, true, true, true, true, true, true, true, true, true, true, true, true, true, true, true, true, true, true, true, true, true, true, true, true, true, true, true, true, true, true, true, true, false, true, true, true, true, true, false, false, false, false, false] rfl rfl (take_ofW HT_.out HW_.out Z5) (fun _ _ _ h => h) (Or.inl ⟨Z13, ?_⟩) hHeld ?_ ?_
        rotate_left
        ·rintro w' ⟨s0, s1, s2, s3, s4, s5⟩
         first | (refine Eq.trans (Pre.load_run (ty := 58) rfl Z13 (by with_reducible assumption) Try.underlying58 rfl Z5) ?_; with_reducible rfl) | (go_simp; with_reducible rfl)
        rotate_left
        ·simp only [Act.put, List.setIfInBounds_toArray, List.set_cons_zero, List.set_cons_succ, i64_w, i32_w]
         rfl
        refine take_ (i := 39) (N := some 55) (v := ?_) (a' := ?_) #[true, true, true, true, true, true, true, true, true, true, true, true, true, true, true, true, true, true, true, true, true, true, true, true, true, true, true, true, true, true, true, true, true, false, true, true, true, true, true, true, false, false, false, false] rfl rfl (take_ofW HT_.out HW_.out Z5) (fun _ _ _ h => h) (Or.inl ⟨Z13, ?_⟩) hHeld ?_ ?_
        rotate_left
        ·rintro w' ⟨s0, s1, s2, s3, s4, s5⟩
         first | (refine Eq.trans (Pre.load_run (ty := 58) rfl Z13 (by with_reducible assumption) Try.underlying58 rfl Z5) ?_; with_reducible rfl) | (go_simp; with_reducible rfl)
        rotate_left
        ·simp only [Act.put, List.setIfInBounds_toArray, List.set_cons_zero, List.set_cons_succ, i64_w, i32_w]
         rfl
        refine one_ (i := 33) (N := some 49) #[true, true, true, true, true, true, true, true, true, true, true, true, true, true, true, true, true, true, true, true, true, true, true, true, true, true, true, true, true, true, true, true, true, true, true, true, true, true, true, true, false, false, false, false] rfl rfl (one_of HT_.out Z5) Z15 (fun K hK => ?_)
        refine goes_ Try.func55 Z5 rfl #[.slice aI ab.length aJ, .int .i64 a2_0, .int .i64 a2_1] Z13 rfl rfl Z9 ?_
        with_reducible refine (msg_Subs.calls kj3 _ _ ab a2_0 a2_1 dQ _ ?side1 ?side2 A36.out).mono ?_
        (case side1 => exact (by repeat (first | exact (Kd.C_below bW.out (by repeat (first | (with_reducible first | exact HB.out | apply below_alloc | apply pw_below_drewN | apply below_drew1 | refine below_set ?_ ed.out | refine below_set ?_ dd.out | refine below_set ?_ GE103.out) | exact HB.out))) | (with_reducible refine Kd.C_alloc ?_ _) | (with_reducible refine Kd.C_drewN ?_ _) | (with_reducible refine Kd.C_drew ?_))))
        (case side2 => exact bU.out)
        rintro e iw ⟨rfl, hb⟩
        refine ⟨_, rfl, ?_⟩
        have aH := Aside0.mk (blk_below (g := aF) Z3 hb)
        have aK := Aside0.mk (blk_below (g := aE) Z19 hb)
        have aL := Aside0.mk (blk_below (g := gb103) (o := .cells #[.int .i64 a2_0, .int .i64 a2_1] 65 (0, 0)) (by (with_reducible repeat (first | refine blk_drewN ?_ _ | refine blk_drew ?_ | refine blk_alloc ?_ _)); exact BK103.out) hb)
        have cQ := Aside0.mk (below_step (by repeat (first | (with_reducible first | exact HB.out | apply below_alloc | apply pw_below_drewN | apply below_drew1 | refine below_set ?_ ed.out | refine below_set ?_ dd.out | refine below_set ?_ GE103.out) | exact HB.out)) hb)
        clear ae
        clear ac
        clear BK103
        clear HB
        have ae := aH
        have ac := aK
        have BK103 := aL
        have HB := cQ
        clear aH aK aL cQ
        (try clear hb)
        (try clear hb2)
        (try clear hk)
        (try clear hi)
        refine hK.out _ _ ⟨ae.out, (blk_cell ae.out 24).trans rfl, ac.out, (blk_cell ac.out 24).trans rfl, (blk_cell BK103.out 0).trans rfl, (blk_cell BK103.out 1).trans rfl⟩ (fun hHeld => ?_)
        clear hK K
        refine norm_ (a' := ?_) ?_ ?_
        rotate_left
        ·show Act.put _ (some 49) _ = _
         simp only [Act.put, List.setIfInBounds_toArray, List.set_cons_zero, List.set_cons_succ, i64_w, i32_w]
         rfl
        refine one_ (i := 40) (N := some 56) #[true, true, true, true, true, true, true, true, true, true, true, true, true, true, true, true, true, true, true, true, true, true, true, true, true, true, true, true, true, true, true, true, true, true, true, true, true, true, true, true, true, false, false, false] rfl rfl (one_of HT_.out Z5) Z15 (fun K hK => ?_)
        refine goes_ Try.func56 Z5 rfl #[.slice aI ab.length aJ, .int .i64 a2_0, .int .i64 a2_1] Z13 rfl rfl Z9 ?_
        with_reducible refine (roadbookref07_Subs.calls kj3 _ _ ab a2_0 a2_1 dR _ ?side1 ?side2 A37.out).mono ?_
        (case side1 => exact Z21)
        (case side2 => exact bU.out)
        rintro e w' ⟨rfl, ⟨nd, rfl⟩⟩
        refine ⟨_, rfl, ?_⟩
        refine hK.out _ _ ⟨ae.out, (blk_cell ae.out 24).trans rfl, ac.out, (blk_cell ac.out 24).trans rfl, (blk_cell BK103.out 0).trans rfl, (blk_cell BK103.out 1).trans rfl⟩ (fun hHeld => ?_)
        clear hK K
        refine norm_ (a' := ?_) ?_ ?_
        rotate_left
        ·show Act.put _ (some 56) _ = _
         simp only [Act.put, List.setIfInBounds_toArray, List.set_cons_zero, List.set_cons_succ, i64_w, i32_w]
         rfl
        refine pure_ (i := 41) (N := some 57) (v := ?_) (a' := ?_) #[true, true, true, true, true, true, true, true, true, true, true, true, true, true, true, true, true, true, true, true, true, true, true, true, true, true, true, true, true, true, true, true, true, true, true, true, true, true, true, true, true, true, false, false] rfl rfl (any_of HT_.out Z5) (fun _ _ _ h => h) (Or.inl ⟨Z13, ?_⟩) ?_ ?_
        rotate_left
        ·intro w'
         go_simp
         with_reducible rfl
        rotate_left
        ·simp only [Act.put, List.setIfInBounds_toArray, List.set_cons_zero, List.set_cons_succ, i64_w, i32_w]
         rfl
        refine pure_ (i := 42) (N := some 58) (v := ?_) (a' := ?_) #[true, true, true, true, true, true, true, true, true, true, true, true, true, true, true, true, true, true, true, true, true, true, true, true, true, true, true, true, true, true, true, true, true, true, true, true, true, true, true, true, true, true, true, false] rfl rfl (any_of HT_.out Z5) (fun _ _ _ h => h) (Or.inl ⟨Z13, ?_⟩) ?_ ?_
        rotate_left
        ·intro w'
         go_simp
         with_reducible rfl
        rotate_left
        ·simp only [Act.put, List.setIfInBounds_toArray, List.set_cons_zero, List.set_cons_succ, i64_w, i32_w]
         rfl
        refine pure_ (i := 43) (N := some 6) (v := ?_) (a' := ?_) #[true, true, true, true, true, true, true, true, true, true, true, true, true, true, true, true, true, true, true, true, true, true, true, true, true, true, true, true, true, true, true, true, true, true, true, true, true, true, true, true, true, true, true, true] rfl rfl (any_of HT_.out Z5) (fun _ _ _ h => h) (Or.inl ⟨Z13, ?_⟩) ?_ ?_
        rotate_left
        ·intro w'
         go_simp
         with_reducible rfl
        rotate_left
        ·simp only [Act.put, List.setIfInBounds_toArray, List.set_cons_zero, List.set_cons_succ, i64_w, i32_w]
         rfl
        refine done_ (done_of HT_.out Z5) ?_
        try go_wp2_with (first | ((with_reducible refine Pre.gate_load 58 rfl ?_); (try (refine gate_guard Z13 ?_; dsimp only)); refine Pre.load_event rfl rfl rfl Z13 (by first | ((with_reducible repeat (first | refine blk_drewN ?_ _ | refine blk_drew ?_ | refine blk_alloc ?_ _)); (with_reducible first | exact ae.out | exact ac.out | exact BK103.out)) | (apply Pre.heap_norm; ((with_reducible repeat (first | refine blk_drewN ?_ _ | refine blk_drew ?_ | refine blk_alloc ?_ _ | apply Pre.blk_set_)); (with_reducible first | exact ae.out | exact ac.out | exact BK103.out)); (first | (simp only [List.setIfInBounds_toArray, List.set_cons_zero, List.set_cons_succ]; done) | (simp only [List.setIfInBounds_toArray, List.set_cons_zero, List.set_cons_succ]; rfl) | rfl))) Try.underlying58 rfl Z5 ?_))
        go_ret
        exact ⟨Z8, by repeat (first | (with_reducible first | exact HB.out | apply below_alloc | apply pw_below_drewN | apply below_drew1 | refine below_set ?_ ed.out | refine below_set ?_ dd.out | refine below_set ?_ GE103.out) | exact HB.out)⟩
       ·rw [if_neg c35] at H
        have c35b0 : (dO == dP) = false := beq_eq_false_iff_ne.mpr c35
        have c35b1 : (dO != dP) = true := bne_iff_ne.mpr c35
        exact absurd (Option.some.inj H) (by rw [hr_.out]; exact Bool.false_ne_true)
      ·rw [if_neg c32] at H
       have c32b0 : (dM == dN) = false := by first | exact Bool.eq_false_iff.mpr c32 | simpa using c32
       (try (have c32b1 : decide (dM = dN) = false := by simpa using c32))
       (try (have c32b2 : (dM == dN) = false := by simpa using c32))
       (try (have c32b3 : ¬ (dM = dN) := by simpa using c32))
       clear c32
       exact absurd (Option.some.inj H) (by rw [hr_.out]; exact Bool.false_ne_true)
     ·rw [if_neg c29] at H
      have c29b0 : (dK == dL) = false := by first | exact Bool.eq_false_iff.mpr c29 | simpa using c29
      (try (have c29b1 : decide (dK = dL) = false := by simpa using c29))
      (try (have c29b2 : (dK == dL) = false := by simpa using c29))
      (try (have c29b3 : ¬ (dK = dL) := by simpa using c29))
      clear c29
      exact absurd (Option.some.inj H) (by rw [hr_.out]; exact Bool.false_ne_true)
    ·replace c26 := Bool.eq_false_iff.mpr c26
     subst c26
     replace H := Sq.itF H
     exact absurd (Option.some.inj H) (by rw [hr_.out]; exact Bool.false_ne_true)

end Go.Proofs.Ytelcciekdoccfaa.PM
