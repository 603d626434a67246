-- Written by mp.py, a program of this work (wip/tools), out of the translation; Lean checks it.
import Derived.Test.YtccjakjjaemmkaaPAPxZ
import Derived.Test.YtccjakjjaemmkaaPAPxcursor
import Derived.Test.YtccjakjjaemmkaaPAPxmsg
import Derived.Test.YtccjakjjaemmkaaMake0
namespace Go.Proofs.Ytccjakjjaemmkaa.PAP
open Go.RowKit Go.Proofs.YtccjakjjaemmkaaW.PrintWords Go.Proofs.YtccjakjjaemmkaaW.PrintLast Go.Proofs.YtccjakjjaemmkaaW.PrintMore
attribute [local go_sem] max2_int min2_int max_two min_two max_three min_three max_four min_four   -- for this text's walks alone
set_option linter.unusedVariables false
set_option linter.unusedSimpArgs false

/-! ### ext_Get: function 59 -/
def ext_Get.l0 : Nat → List (S48) → ByteArray → Int → Int → Bool → Option ((List (S48)) × Int × Int)
 | 0, _, _, _, _, _ => none
 | k + 1, x5, lE, km, lF, lG => (cursor_Left.f lE km lF lG).bind fun aU => (if aU > 0 then ((cursor_Num.f lE km lF lG 1).bind fun dQ => ((cursor_Num.f dQ.2.1 dQ.2.2.1 dQ.2.2.2.1 dQ.2.2.2.2 1).bind fun eZ => ((cursor_Text.f eZ.2.1 eZ.2.2.1 eZ.2.2.2.1 eZ.2.2.2.2 eZ.1).bind fun bC => (if bC.2.2.2.2 = true then (some (([] : List (S48)), km, 2)) else (if x5.length < 5864062014805 then (ext_Get.l0 k (x5 ++ [(⟨dQ.1, bC.1⟩ : S48)]) bC.2.1 bC.2.2.1 bC.2.2.2.1 bC.2.2.2.2) else (none)))))) else (some (x5, 0, 0)))
def ext_Get.f (k : Nat) (a0 : ByteArray) : Option ((List (S48)) × Int × Int) := (cursor_New.f a0).bind fun aT => (ext_Get.l0 k ([] : List (S48)) aT.1 aT.2.1 aT.2.2.1 aT.2.2.2)
theorem ext_Get.mono_l : ∀ k, (∀ y0 y1 y2 y3 y4, LeO (ext_Get.l0 k y0 y1 y2 y3 y4) (ext_Get.l0 (k + 1) y0 y1 y2 y3 y4))
 | 0 => fun _ _ _ _ _ r h => by simp [ext_Get.l0] at h
 | k + 1 => by
  have ih0 := ext_Get.mono_l k
  ·intro y0 y1 y2 y3 y4
   unfold ext_Get.l0
   repeat' first
   | (with_reducible exact ih0 ..)
   | (with_reducible exact LeO.refl _)
   | (with_reducible exact LeO.none _)
   | (with_reducible refine LeO.ite ?_ ?_)
   | (with_reducible refine LeO.bind ?_ (fun _ => ?_))
   | exact ih0 ..
   | exact LeO.none _
   | refine LeO.ite ?_ ?_
   | refine LeO.bind ?_ (fun _ => ?_)
theorem ext_Get.mono : ∀ a0 k, LeO (ext_Get.f k a0) (ext_Get.f (k + 1) a0) := by
 intro a0 k
 have ih0 := ext_Get.mono_l k
 unfold ext_Get.f
 repeat' first
   | (with_reducible exact ih0 ..)
   | (with_reducible exact LeO.refl _)
   | (with_reducible exact LeO.none _)
   | (with_reducible refine LeO.ite ?_ ?_)
   | (with_reducible refine LeO.bind ?_ (fun _ => ?_))
   | exact ih0 ..
   | exact LeO.none _
   | refine LeO.ite ?_ ?_
   | refine LeO.bind ?_ (fun _ => ?_)
set_option maxHeartbeats 8000000 in
set_option maxRecDepth 100000 in
theorem ext_Get.calls (k : Nat) (a0 : ByteArray) (r1 : List (S48)) (r2 : Int) (r3 : Int) (w : World) (h : ext_Get.f k a0 = some (r1, r2, r3)) :
  Calls Try.prog 59 #[.string a0] w fun e w' => ∃ v0_ : Value, e = .returned (.tuple #[v0_, .int .i64 r2, .int .i64 r3]) ∧ Kd.R k48 48 w' w.heap.size (fun _ => True) v0_ r1 ∧ Below w.heap.size w w' := by
 have ju := Try.underlying60
 have mN := Try.underlying48
 have HB := Aside0.mk (Below.refl w.heap.size w)
 have H : ((cursor_New.f a0).bind fun aT => (ext_Get.l0 k ([] : List (S48)) aT.1 aT.2.1 aT.2.2.1 aT.2.2.2)) = some (r1, r2, r3) := h
 clear h
 replace H := Option.bind_eq_some_iff.mp H
 obtain ⟨⟨bB, aM, aX, aV⟩, gr, H⟩ := H
 replace H : (ext_Get.l0 k ([] : List (S48)) bB aM aX aV) = some (r1, r2, r3) := H
 have A2 := Aside0.mk gr
 clear gr
 have H' := Aside0.mk H
 clear H
 go_enter Try.func59, Try.ntmps59
 go_wp2_with (first | ((with_reducible refine gate_callee (f := 61) rfl ?_); refine goesL_ (some 11) rfl rfl Try.func61 Z14 rfl #[.string a0] rfl Z4 ?_; (with_reducible refine (cursor_New.calls a0 bB aM aX aV _ A2.out).mono ?_); rintro e w3 ⟨rfl, hb⟩; refine ⟨_, rfl, ?_⟩; replace HB := Aside0.mk (below_step Z1 hb); clear hb) | ((with_reducible refine gate_dst (N := 6) rfl ?_); refine Sq.box 6 #[.string ⟨#[]⟩, .int .i64 0, .int .i64 0, .bool false] 60 ?_; intro cW hg w4 hbox hb; have cX := Aside0.mk (hbox); have oQ := Aside0.mk (Sq.ge hg Z1); have jk := Aside0.mk (Sq.ge hg Z1); replace HB := Aside0.mk (below_step Z1 hb); clear hb hbox hg; have mr := cells_4 cX.out))
 go_loopg [5, 6] k (fun kq v5 v6 w' => ∃ (ag : List (S48)) (bB : ByteArray) (aM : Int) (aX : Int) (aV : Bool) (cW : Nat), v6 = .pointer (some ⟨cW, 0, none⟩) ∧ Aside0 (ext_Get.l0 kq ag bB aM aX aV = some (r1, r2, r3)) ∧ Aside0 (kq ≤ k) ∧ Aside0 (Kd.R k48 48 w' w.heap.size (fun _ => True) v5 ag) ∧ Aside0 (w'.heap[cW]? = some (.cells #[.string bB, .int .i64 aM, .int .i64 aX, .bool aV] 60 (0, 0))) ∧ Aside0 (w.heap.size ≤ cW) ∧ Aside0 (Below w.heap.size w w'))
 case atStart => exact ⟨([] : List (S48)), bB, aM, aX, aV, cW, rfl, H', ⟨Nat.le_refl _⟩, ⟨Z7⟩, ⟨Z69⟩, jk, ⟨Z29⟩⟩
 case round =>
  clear H'
  try clear p2
  try clear c5
  try clear mr
  clear cX jk oQ HB
  obtain ⟨ag, bB, aM, aX, aV, cW, rfl, HA, HK1, HO_5, cX, jk, HB⟩ := hrel
  have oQ := jk
  cases gk with
  | zero => exact absurd HA.out (by simp [ext_Get.l0])
  | succ k1 =>
   have H := HA.out
   clear HA
   simp only [ext_Get.l0] at H
   replace H := Option.bind_eq_some_iff.mp H
   obtain ⟨aU, oR, H⟩ := H
   replace H : (if aU > 0 then ((cursor_Num.f bB aM aX aV 1).bind fun dQ => ((cursor_Num.f dQ.2.1 dQ.2.2.1 dQ.2.2.2.1 dQ.2.2.2.2 1).bind fun eZ => ((cursor_Text.f eZ.2.1 eZ.2.2.1 eZ.2.2.2.1 eZ.2.2.2.2 eZ.1).bind fun bC => (if bC.2.2.2.2 = true then (some (([] : List (S48)), aM, 2)) else (if ag.length < 5864062014805 then (ext_Get.l0 k1 (ag ++ [(⟨dQ.1, bC.1⟩ : S48)]) bC.2.1 bC.2.2.1 bC.2.2.2.1 bC.2.2.2.2) else (none)))))) else (some (ag, 0, 0))) = some (r1, r2, r3) := H
   have A6 := Aside0.mk oR
   clear oR
   by_cases c7 : aU > 0
   ·rw [if_pos c7] at H
    have fz : decide (0 < aU) = true := decide_eq_true c7
    clear c7
    replace H := Option.bind_eq_some_iff.mp H
    obtain ⟨⟨aQ, ba, bk, bK, cj⟩, oh, H⟩ := H
    replace H : ((cursor_Num.f ba bk bK cj 1).bind fun eZ => ((cursor_Text.f eZ.2.1 eZ.2.2.1 eZ.2.2.2.1 eZ.2.2.2.2 eZ.1).bind fun bC => (if bC.2.2.2.2 = true then (some (([] : List (S48)), aM, 2)) else (if ag.length < 5864062014805 then (ext_Get.l0 k1 (ag ++ [(⟨aQ, bC.1⟩ : S48)]) bC.2.1 bC.2.2.1 bC.2.2.2.1 bC.2.2.2.2) else (none))))) = some (r1, r2, r3) := H
    have A8 := Aside0.mk oh
    clear oh
    replace H := Option.bind_eq_some_iff.mp H
    obtain ⟨⟨bL, bP, bF, bO, cC⟩, rM, H⟩ := H
    replace H : ((cursor_Text.f bP bF bO cC bL).bind fun bC => (if bC.2.2.2.2 = true then (some (([] : List (S48)), aM, 2)) else (if ag.length < 5864062014805 then (ext_Get.l0 k1 (ag ++ [(⟨aQ, bC.1⟩ : S48)]) bC.2.1 bC.2.2.1 bC.2.2.2.1 bC.2.2.2.2) else (none)))) = some (r1, r2, r3) := H
    have A9 := Aside0.mk rM
    clear rM
    replace H := Option.bind_eq_some_iff.mp H
    obtain ⟨⟨bE, bS, bZ, ca, ck⟩, jf, H⟩ := H
    replace H : (if ck = true then (some (([] : List (S48)), aM, 2)) else (if ag.length < 5864062014805 then (ext_Get.l0 k1 (ag ++ [(⟨aQ, bE⟩ : S48)]) bS bZ ca ck) else (none))) = some (r1, r2, r3) := H
    have lA := Aside0.mk jf
    clear jf
    by_cases dK : ck = true
    ·subst dK
     have H1 : (some (([] : List (S48)), aM, 2)) = some (r1, r2, r3) := by rw [if_pos rfl] at H; exact H
     clear H
     have H := H1
     clear H1
     simp only [Option.some.injEq, Prod.mk.injEq] at H
     obtain ⟨rfl, rfl, rfl⟩ := H
     have lD := cells_4 cX.out
     go_wp2_with (first | ((with_reducible refine gate_callee (f := 76) rfl ?_); refine goesL_ (some 13) rfl rfl Try.func76 Z14 rfl #[.agg #[.string bB, .int .i64 aM, .int .i64 aX, .bool aV]] rfl Z4 ?_; (with_reducible refine (cursor_Left.calls bB aM aX aV aU _ A6.out).mono ?_); rintro e jP ⟨rfl, hb⟩; refine ⟨_, rfl, ?_⟩; replace HO_5 := Aside0.mk (Kd.R_below Z44 hb); replace cX := Aside0.mk (blk_below (g := cW) (o := .cells #[.string bB, .int .i64 aM, .int .i64 aX, .bool aV] 60 (0, 0)) Z31 hb); replace HB := Aside0.mk (below_step Z29 hb); clear hb; have iC := cells_4 cX.out) | ((with_reducible refine gate_dst (N := 8) rfl ?_); refine Sq.box 8 #[.int .i64 0, .string ⟨#[]⟩] 48 ?_; intro br hg mj hbox hb; have bg := Aside0.mk (hbox); have lq := Aside0.mk (Sq.ge hg Z29); have gU := Aside0.mk (Sq.ge hg Z29); have gy := Aside0.mk (Sq.nl hg (blk_lt (g := cW) (o := .cells #[.string bB, .int .i64 aM, .int .i64 aX, .bool aV] 60 (0, 0)) Z31)); have da := Aside0.mk (Sq.ng hg (blk_lt (g := cW) (o := .cells #[.string bB, .int .i64 aM, .int .i64 aX, .bool aV] 60 (0, 0)) Z31)); replace HO_5 := Aside0.mk (Kd.R_below (Kd.R_elderB Z44 br (Nat.le_of_eq hg.symm)) hb); replace cX := Aside0.mk (blk_below (g := cW) (o := .cells #[.string bB, .int .i64 aM, .int .i64 aX, .bool aV] 60 (0, 0)) Z31 hb); replace HB := Aside0.mk (below_step Z29 hb); clear hb hbox hg; have hnb16 := gy.out; have hnc16 := da.out; have oi := cells_4 cX.out) | ((with_reducible refine gate_callee (f := 62) rfl ?_); refine goesL_ (some 19) rfl rfl Try.func62 Z14 rfl #[.agg #[.string bB, .int .i64 aM, .int .i64 aX, .bool aV], .int .i64 1] rfl Z4 ?_; (with_reducible refine (cursor_Num.calls bB aM aX aV 1 aQ ba bk bK cj _ A8.out).mono ?_); rintro e mb ⟨rfl, hb⟩; refine ⟨_, rfl, ?_⟩; replace HO_5 := Aside0.mk (Kd.R_below Z44 hb); replace cX := Aside0.mk (blk_below (g := cW) (o := .cells #[.string bB, .int .i64 aM, .int .i64 aX, .bool aV] 60 (0, 0)) Z31 hb); replace bg := Aside0.mk (blk_below (g := br) (o := .cells #[.int .i64 0, .string ⟨#[]⟩] 48 (0, 0)) Z28 hb); replace HB := Aside0.mk (below_step Z24 hb); clear hb; have nF : mb.cell? ⟨br, 0, none⟩ = some (.int .i64 0) := (blk_cell bg.out 0).trans rfl; have nG : mb.cell? ⟨br, 1, none⟩ = some (.string ⟨#[]⟩) := (blk_cell bg.out 1).trans rfl; have hfz19_0 := blk_frozen bg.out 0; have hfz19_1 := blk_frozen bg.out 1; have mD := cells_4 cX.out) | ((with_reducible refine gate_callee (f := 62) rfl ?_); refine goesL_ (some 25) rfl rfl Try.func62 Z14 rfl #[.agg #[.string ba, .int .i64 bk, .int .i64 bK, .bool cj], .int .i64 1] rfl Z4 ?_; (with_reducible refine (cursor_Num.calls ba bk bK cj 1 bL bP bF bO cC _ A9.out).mono ?_); rintro e oB ⟨rfl, hb⟩; refine ⟨_, rfl, ?_⟩; replace HO_5 := Aside0.mk (Kd.R_below Z64 hb); replace cX := Aside0.mk (blk_below (g := cW) (o := .cells #[.string ba, .int .i64 bk, .int .i64 bK, .bool cj] 60 (0, 0)) Z56 hb); replace bg := Aside0.mk (blk_below (g := br) (o := .cells #[.int .i64 aQ, .string ⟨#[]⟩] 48 (0, 0)) Z48 hb); replace HB := Aside0.mk (below_step Z24 hb); clear hb; (try clear hk); have jy := cells_4 cX.out) | ((with_reducible refine gate_callee (f := 60) rfl ?_); refine goesL_ (some 31) rfl rfl Try.func60 Z14 rfl #[.agg #[.string bP, .int .i64 bF, .int .i64 bO, .bool cC], .int .i64 bL] rfl Z4 ?_; (with_reducible refine (cursor_Text.calls bP bF bO cC bL bE bS bZ ca true _ lA.out).mono ?_); rintro e ku ⟨rfl, hb⟩; refine ⟨_, rfl, ?_⟩; replace HO_5 := Aside0.mk (Kd.R_below Z70 hb); replace cX := Aside0.mk (blk_below (g := cW) (o := .cells #[.string bP, .int .i64 bF, .int .i64 bO, .bool cC] 60 (0, 0)) Z69 hb); replace bg := Aside0.mk (blk_below (g := br) (o := .cells #[.int .i64 aQ, .string ⟨#[]⟩] 48 (0, 0)) Z60 hb); replace HB := Aside0.mk (below_step Z24 hb); clear hb; (try clear hk); have hcz24_0 : ku.cell? ⟨br, 0, none⟩ = some (.int .i64 aQ) := (blk_cell bg.out 0).trans rfl; have hcz24_1 : ku.cell? ⟨br, 1, none⟩ = some (.string ⟨#[]⟩) := (blk_cell bg.out 1).trans rfl; have hfz24_0 := blk_frozen bg.out 0; have hfz24_1 := blk_frozen bg.out 1; have mE := cells_4 cX.out))
     go_ret3
     exact ⟨_, Z5, Z7, Z24⟩
    ·replace dK := Bool.eq_false_iff.mpr dK
     subst dK
     have H1 : (if ag.length < 5864062014805 then (ext_Get.l0 k1 (ag ++ [(⟨aQ, bE⟩ : S48)]) bS bZ ca false) else (none)) = some (r1, r2, r3) := by rw [if_neg (show ¬ (false = true) by decide)] at H; exact H
     clear H
     have H := H1
     clear H1
     by_cases jH : ag.length < 5864062014805
     ·rw [if_pos jH] at H
      have LMc26 := Aside0.mk jH
      clear jH
      obtain ⟨rN, hy123⟩ : ∃ y_ : List (S48), y_ = (ag ++ [(⟨aQ, bE⟩ : S48)]) := ⟨_, rfl⟩
      replace H : (ext_Get.l0 k1 rN bS bZ ca false) = some (r1, r2, r3) := by first | (rw [hy123]; with_reducible exact H) | (have H2_ := (Option.bind_some _ _).symm.trans H; rw [hy123]; with_reducible exact H2_) | (have H2_ := (Option.bind_some _ _).symm.trans H; with_reducible exact H2_) | with_reducible exact H | (rw [hy123]; exact H) | exact H
      have Ny123 := Aside0.mk hy123
      clear hy123
      have H' := Aside0.mk H
      clear H
      have rO := cells_4 cX.out
      go_wp2_with (first | ((with_reducible refine gate_callee (f := 76) rfl ?_); refine goesL_ (some 13) rfl rfl Try.func76 Z14 rfl #[.agg #[.string bB, .int .i64 aM, .int .i64 aX, .bool aV]] rfl Z4 ?_; (with_reducible refine (cursor_Left.calls bB aM aX aV aU _ A6.out).mono ?_); rintro e oF ⟨rfl, hb⟩; refine ⟨_, rfl, ?_⟩; replace HO_5 := Aside0.mk (Kd.R_below Z44 hb); replace cX := Aside0.mk (blk_below (g := cW) (o := .cells #[.string bB, .int .i64 aM, .int .i64 aX, .bool aV] 60 (0, 0)) Z31 hb); replace HB := Aside0.mk (below_step Z29 hb); clear hb; have mP := cells_4 cX.out) | ((with_reducible refine gate_dst (N := 8) rfl ?_); refine Sq.box 8 #[.int .i64 0, .string ⟨#[]⟩] 48 ?_; intro br hg rx hbox hb; have bg := Aside0.mk (hbox); have lq := Aside0.mk (Sq.ge hg Z29); have gU := Aside0.mk (Sq.ge hg Z29); have gy := Aside0.mk (Sq.nl hg (blk_lt (g := cW) (o := .cells #[.string bB, .int .i64 aM, .int .i64 aX, .bool aV] 60 (0, 0)) Z31)); have da := Aside0.mk (Sq.ng hg (blk_lt (g := cW) (o := .cells #[.string bB, .int .i64 aM, .int .i64 aX, .bool aV] 60 (0, 0)) Z31)); replace HO_5 := Aside0.mk (Kd.R_below (Kd.R_elderB Z44 br (Nat.le_of_eq hg.symm)) hb); replace cX := Aside0.mk (blk_below (g := cW) (o := .cells #[.string bB, .int .i64 aM, .int .i64 aX, .bool aV] 60 (0, 0)) Z31 hb); replace HB := Aside0.mk (below_step Z29 hb); clear hb hbox hg; have rP := gy.out; have rQ := da.out; have rR := cells_4 cX.out) | ((with_reducible refine gate_callee (f := 62) rfl ?_); refine goesL_ (some 19) rfl rfl Try.func62 Z14 rfl #[.agg #[.string bB, .int .i64 aM, .int .i64 aX, .bool aV], .int .i64 1] rfl Z4 ?_; (with_reducible refine (cursor_Num.calls bB aM aX aV 1 aQ ba bk bK cj _ A8.out).mono ?_); rintro e pp ⟨rfl, hb⟩; refine ⟨_, rfl, ?_⟩; replace HO_5 := Aside0.mk (Kd.R_below Z44 hb); replace cX := Aside0.mk (blk_below (g := cW) (o := .cells #[.string bB, .int .i64 aM, .int .i64 aX, .bool aV] 60 (0, 0)) Z31 hb); replace bg := Aside0.mk (blk_below (g := br) (o := .cells #[.int .i64 0, .string ⟨#[]⟩] 48 (0, 0)) Z28 hb); replace HB := Aside0.mk (below_step Z24 hb); clear hb; have hcz34_0 : pp.cell? ⟨br, 0, none⟩ = some (.int .i64 0) := (blk_cell bg.out 0).trans rfl; have hcz34_1 : pp.cell? ⟨br, 1, none⟩ = some (.string ⟨#[]⟩) := (blk_cell bg.out 1).trans rfl; have hfz34_0 := blk_frozen bg.out 0; have hfz34_1 := blk_frozen bg.out 1; have oS := cells_4 cX.out) | ((with_reducible refine gate_callee (f := 62) rfl ?_); refine goesL_ (some 25) rfl rfl Try.func62 Z14 rfl #[.agg #[.string ba, .int .i64 bk, .int .i64 bK, .bool cj], .int .i64 1] rfl Z4 ?_; (with_reducible refine (cursor_Num.calls ba bk bK cj 1 bL bP bF bO cC _ A9.out).mono ?_); rintro e qc ⟨rfl, hb⟩; refine ⟨_, rfl, ?_⟩; replace HO_5 := Aside0.mk (Kd.R_below Z64 hb); replace cX := Aside0.mk (blk_below (g := cW) (o := .cells #[.string ba, .int .i64 bk, .int .i64 bK, .bool cj] 60 (0, 0)) Z56 hb); replace bg := Aside0.mk (blk_below (g := br) (o := .cells #[.int .i64 aQ, .string ⟨#[]⟩] 48 (0, 0)) Z48 hb); replace HB := Aside0.mk (below_step Z24 hb); clear hb; (try clear hk); have rS := cells_4 cX.out) | ((with_reducible refine gate_callee (f := 60) rfl ?_); refine goesL_ (some 31) rfl rfl Try.func60 Z14 rfl #[.agg #[.string bP, .int .i64 bF, .int .i64 bO, .bool cC], .int .i64 bL] rfl Z4 ?_; (with_reducible refine (cursor_Text.calls bP bF bO cC bL bE bS bZ ca false _ lA.out).mono ?_); rintro e tl ⟨rfl, hb⟩; refine ⟨_, rfl, ?_⟩; replace HO_5 := Aside0.mk (Kd.R_below Z70 hb); replace cX := Aside0.mk (blk_below (g := cW) (o := .cells #[.string bP, .int .i64 bF, .int .i64 bO, .bool cC] 60 (0, 0)) Z69 hb); replace bg := Aside0.mk (blk_below (g := br) (o := .cells #[.int .i64 aQ, .string ⟨#[]⟩] 48 (0, 0)) Z60 hb); replace HB := Aside0.mk (below_step Z24 hb); clear hb; (try clear hk); have nP : tl.cell? ⟨br, 0, none⟩ = some (.int .i64 aQ) := (blk_cell bg.out 0).trans rfl; have nQ : tl.cell? ⟨br, 1, none⟩ = some (.string ⟨#[]⟩) := (blk_cell bg.out 1).trans rfl; have hfz39_0 := blk_frozen bg.out 0; have hfz39_1 := blk_frozen bg.out 1; have rT := cells_4 cX.out) | ((with_reducible refine gate_builtin (b := .append) (xs := #[.tmp 38, .tmp 40]) rfl ?_); at_builtin; refine Kd.R_append k48 (w0 := w) w.heap.size rfl (.tmp 38) (.tmp 40) 23 48 (.agg #[(.int .i64 0), (.string ⟨#[]⟩)]) 24 rfl Try.underlying23 info48 rfl Z27 Z34 u5 ag (⟨aQ, bE⟩ : S48) [.int .i64 aQ, .string bE] (fun k_ => k_ ≠ br) (fun _ => False) rfl (by first | (go_simp; done) | (go_simp; rfl)) ?aP (fun _ hk => hk.elim) ?aF ?aO ?aB ?aS ?aL ?_; (case aP => exact k48_mkM _ _ _ (⟨aQ, bE⟩ : S48)); (case aB => exact Z24); (case aF => exact (fun k_ hk => Kd.freshB (g := br) (o := .cells #[.int .i64 aQ, .string bE] 48 (0, 0)) Z46 k_ hk)); (case aO => exact (by (with_reducible repeat (first | apply Kd.R_alloc | apply Kd.R_drewN | apply Kd.R_drew)); exact Kd.R_mono (Kd.R_far (p := ⟨cW, 3, none⟩) (Kd.R_far (p := ⟨cW, 2, none⟩) (Kd.R_far (p := ⟨cW, 1, none⟩) (Kd.R_far (p := ⟨cW, 0, none⟩) (Kd.R_far (p := ⟨br, 1, none⟩) (Kd.R_types (Kd.R_mono HO_5.out (fun k_ hk => (⟨hk, hk.2⟩ : _ ∧ k_ ≠ br))) cX.out Z27) (fun _ hk => hk.1.2) (.string bE)) (fun _ hk => hk.2) (.string bS)) (fun _ hk => hk.2) (.int .i64 bZ)) (fun _ hk => hk.2) (.int .i64 ca)) (fun _ hk => hk.2) (.bool false)) (fun _ hk => hk.1.1.2))); (case aS => exact (below_size Z24)); (case aL => have := LMc26.out; omega); intro ph ur ho hb hg hat; rw [← Ny123.out] at ho; have fq := Aside0.mk (ho); replace cX := Aside0.mk (blk_grown (g := cW) (o := .cells #[.string bS, .int .i64 bZ, .int .i64 ca, .bool false] 60 (0, 0)) Z56 hg (Kd.R_ne HO_5.out cX.out Z27)); replace bg := Aside0.mk (blk_grown (g := br) (o := .cells #[.int .i64 aQ, .string bE] 48 (0, 0)) Z46 hg (Kd.R_away HO_5.out (fun _ hk => hk.2))); replace HB := Aside0.mk (hb); clear HO_5; clear ho hb hg hat; have rU := cells_4 cX.out) | ((with_reducible refine gate_dst (N := 6) rfl ?_); refine Sq.box 6 #[.string ⟨#[]⟩, .int .i64 0, .int .i64 0, .bool false] 60 ?_; intro kI hg qi hbox hb; have mS := Aside0.mk (hbox); have GW126 := Aside0.mk (Sq.ge hg Z24); have oT := Aside0.mk (Sq.ge hg Z24); have lT := Aside0.mk (Sq.nl hg (blk_lt (g := cW) (o := .cells #[.string bS, .int .i64 bZ, .int .i64 ca, .bool false] 60 (0, 0)) Z31)); have lU := Aside0.mk (Sq.ng hg (blk_lt (g := cW) (o := .cells #[.string bS, .int .i64 bZ, .int .i64 ca, .bool false] 60 (0, 0)) Z31)); have lV := Aside0.mk (Sq.nl hg (blk_lt (g := br) (o := .cells #[.int .i64 aQ, .string bE] 48 (0, 0)) Z28)); have lW := Aside0.mk (Sq.ng hg (blk_lt (g := br) (o := .cells #[.int .i64 aQ, .string bE] 48 (0, 0)) Z28)); replace fq := Aside0.mk (Kd.R_below Z80 hb); replace cX := Aside0.mk (blk_below (g := cW) (o := .cells #[.string bS, .int .i64 bZ, .int .i64 ca, .bool false] 60 (0, 0)) Z31 hb); replace bg := Aside0.mk (blk_below (g := br) (o := .cells #[.int .i64 aQ, .string bE] 48 (0, 0)) Z28 hb); replace HB := Aside0.mk (below_step Z24 hb); clear hb hbox hg; have oN := lU.out; have oO := lT.out; have rV := lW.out; have rW := lV.out; have hcz46 := cells_4 mS.out))
      go_roundg k1
      case measure => have := HK1.out; omega
      case rel => exact ⟨rN, bS, bZ, ca, false, kI, rfl, H', ⟨Z88⟩, ⟨by (with_reducible repeat (first | apply Kd.R_alloc | apply Kd.R_drewN | apply Kd.R_drew)); exact Kd.R_mono (Kd.R_far (p := ⟨kI, 3, none⟩) (Kd.R_far (p := ⟨kI, 2, none⟩) (Kd.R_far (p := ⟨kI, 1, none⟩) (Kd.R_far (p := ⟨kI, 0, none⟩) (Kd.R_types fq.out mS.out Z27) (fun _ hk => hk.2) (.string bS)) (fun _ hk => hk.2) (.int .i64 bZ)) (fun _ hk => hk.2) (.int .i64 ca)) (fun _ hk => hk.2) (.bool false)) (fun _ hk => trivial)⟩, ⟨by (with_reducible repeat (first | refine blk_drewN ?_ _ | refine blk_drew ?_ | refine blk_alloc ?_ _)); apply blk_puts4; (with_reducible repeat (first | refine blk_drewN ?_ _ | refine blk_drew ?_ | refine blk_alloc ?_ _)); exact mS.out⟩, oT, ⟨by repeat (first | (with_reducible first | exact HB.out | apply below_alloc | apply pw_below_drewN | apply below_drew1 | refine below_set ?_ jk.out | refine below_set ?_ gU.out | refine below_set ?_ oT.out) | exact HB.out)⟩⟩
     ·rw [if_neg jH] at H
      exact absurd H Z59
   ·rw [if_neg c7] at H
    have fz : decide (0 < aU) = false := decide_eq_false c7
    clear c7
    simp only [Option.some.injEq, Prod.mk.injEq] at H
    obtain ⟨rfl, rfl, rfl⟩ := H
    have oP := cells_4 cX.out
    go_wp2_with (first | ((with_reducible refine gate_callee (f := 76) rfl ?_); refine goesL_ (some 13) rfl rfl Try.func76 Z14 rfl #[.agg #[.string bB, .int .i64 aM, .int .i64 aX, .bool aV]] rfl Z4 ?_; (with_reducible refine (cursor_Left.calls bB aM aX aV aU _ A6.out).mono ?_); rintro e sK ⟨rfl, hb⟩; refine ⟨_, rfl, ?_⟩; replace HO_5 := Aside0.mk (Kd.R_below Z44 hb); replace cX := Aside0.mk (blk_below (g := cW) (o := .cells #[.string bB, .int .i64 aM, .int .i64 aX, .bool aV] 60 (0, 0)) Z31 hb); replace HB := Aside0.mk (below_step Z29 hb); clear hb))
    go_ret3
    exact ⟨_, Z5, Z44, Z29⟩

/-! ### ext_Right: function 55 -/
def ext_Right.f (k : Nat) (l0 : List (S48)) : Option (Bool) := (msg_Subs.f k l0 0 255).bind fun bB => (some bB)
theorem ext_Right.mono : ∀ a0 k, LeO (ext_Right.f k a0) (ext_Right.f (k + 1) a0) := by
 intro a0 k
 unfold ext_Right.f
 repeat' first
   | (with_reducible exact msg_Subs.mono _ _ _ _)
   | (with_reducible exact LeO.refl _)
   | (with_reducible exact LeO.none _)
   | (with_reducible refine LeO.ite ?_ ?_)
   | (with_reducible refine LeO.bind ?_ (fun _ => ?_))
   | exact msg_Subs.mono _ _ _ _
   | exact LeO.none _
   | refine LeO.ite ?_ ?_
   | refine LeO.bind ?_ (fun _ => ?_)
set_option maxHeartbeats 8000000 in
set_option maxRecDepth 100000 in
theorem ext_Right.calls (k : Nat) (A0 : Option Addr) (c0 : Nat) (l0 : List (S48)) (r : Bool) (w : World) (jg : Kd.C k48 w A0 l0.length l0) (gg : l0.length ≤ c0) (h : ext_Right.f k l0 = some r) :
  Calls Try.prog 55 #[.slice A0 l0.length c0] w fun e w' => e = .returned (.bool r) ∧ Below w.heap.size w w' := by
 have iB := Aside0.mk jg
 have mM := Aside0.mk gg
 clear jg gg
 have HB := Aside0.mk (Below.refl w.heap.size w)
 have H : ((msg_Subs.f k l0 0 255).bind fun bB => (some bB)) = some r := h
 clear h
 replace H := Option.bind_eq_some_iff.mp H
 obtain ⟨bB, gr, H⟩ := H
 replace H : (some bB) = some r := H
 have A2 := Aside0.mk gr
 clear gr
 obtain rfl := Option.some.inj H
 go_enter Try.func55, Try.ntmps55
 go_wp2_with (first | ((with_reducible refine gate_callee (f := 74) rfl ?_); refine goesL_ (some 4) rfl rfl Try.func74 Z14 rfl #[.slice A0 l0.length c0, .int .i64 0, .int .i64 255] rfl Z4 ?_; (with_reducible refine (msg_Subs.calls k _ _ l0 0 255 bB _ ?side1 ?side2 A2.out).mono ?_); (case side1 => exact Z86); (case side2 => exact mM.out); rintro e w3 ⟨rfl, hb⟩; refine ⟨_, rfl, ?_⟩; replace HB := Aside0.mk (below_step Z1 hb); clear hb))
 go_ret
 exact ⟨Z5, Z1⟩

/-! ### ext_Put: function 49 -/
def ext_Put.l0 : Nat → List Int → Int → Int → Option (ByteArray × Bool)
 | 0, _, _, _ => none
 | k + 1, x4, ui, oU => if oU < ui then (none) else (some (strOfNums x4, true))
def ext_Put.f (k : Nat) (l0 : List (S48)) : Option (ByteArray × Bool) := (ext_Right.f k l0).bind fun bB => (if bB = true then ((msg_Bytes.f k l0).bind fun aM => (if 0 ≤ aM then (if (aM : Int).toNat ≤ 281474976710656 then (ext_Put.l0 k (List.nil) (l0.length : Int) 0) else (none)) else (none))) else (none))
theorem ext_Put.mono_l : ∀ k, (∀ y0 y1 y2, LeO (ext_Put.l0 k y0 y1 y2) (ext_Put.l0 (k + 1) y0 y1 y2))
 | 0 => fun _ _ _ r h => by simp [ext_Put.l0] at h
 | k + 1 => by
  have ih0 := ext_Put.mono_l k
  ·intro y0 y1 y2
   unfold ext_Put.l0
   repeat' first
   | (with_reducible exact ih0 ..)
   | (with_reducible exact ext_Right.mono _ _)
   | (with_reducible exact msg_Bytes.mono _ _)
   | (with_reducible exact LeO.refl _)
   | (with_reducible exact LeO.none _)
   | (with_reducible refine LeO.ite ?_ ?_)
   | (with_reducible refine LeO.bind ?_ (fun _ => ?_))
   | exact ih0 ..
   | exact ext_Right.mono _ _
   | exact msg_Bytes.mono _ _
   | exact LeO.none _
   | refine LeO.ite ?_ ?_
   | refine LeO.bind ?_ (fun _ => ?_)
theorem ext_Put.mono : ∀ a0 k, LeO (ext_Put.f k a0) (ext_Put.f (k + 1) a0) := by
 intro a0 k
 have ih0 := ext_Put.mono_l k
 unfold ext_Put.f
 repeat' first
   | (with_reducible exact ih0 ..)
   | (with_reducible exact ext_Right.mono _ _)
   | (with_reducible exact msg_Bytes.mono _ _)
   | (with_reducible exact LeO.refl _)
   | (with_reducible exact LeO.none _)
   | (with_reducible refine LeO.ite ?_ ?_)
   | (with_reducible refine LeO.bind ?_ (fun _ => ?_))
   | exact ih0 ..
   | exact ext_Right.mono _ _
   | exact msg_Bytes.mono _ _
   | exact LeO.none _
   | refine LeO.ite ?_ ?_
   | refine LeO.bind ?_ (fun _ => ?_)
set_option maxHeartbeats 8000000 in
set_option maxRecDepth 100000 in
theorem ext_Put.calls (k : Nat) (A0 : Option Addr) (c0 : Nat) (l0 : List (S48)) (r1 : ByteArray) (r2 : Bool) (w : World) (jg : Kd.C k48 w A0 l0.length l0) (gg : l0.length ≤ c0) (h : ext_Put.f k l0 = some (r1, r2)) :
  Calls Try.prog 49 #[.slice A0 l0.length c0] w fun e w' => e = .returned (.tuple #[.string r1, .bool r2]) ∧ Below w.heap.size w w' := by
 have mN := Try.underlying48
 have iB := Aside0.mk jg
 have mM := Aside0.mk gg
 clear jg gg
 have HB := Aside0.mk (Below.refl w.heap.size w)
 have H : ((ext_Right.f k l0).bind fun bB => (if bB = true then ((msg_Bytes.f k l0).bind fun aM => (if 0 ≤ aM then (if (aM : Int).toNat ≤ 281474976710656 then (ext_Put.l0 k (List.nil) (l0.length : Int) 0) else (none)) else (none))) else (none))) = some (r1, r2) := h
 clear h
 replace H := Option.bind_eq_some_iff.mp H
 obtain ⟨bB, gr, H⟩ := H
 replace H : (if bB = true then ((msg_Bytes.f k l0).bind fun aM => (if 0 ≤ aM then (if (aM : Int).toNat ≤ 281474976710656 then (ext_Put.l0 k (List.nil) (l0.length : Int) 0) else (none)) else (none))) else (none)) = some (r1, r2) := H
 have A2 := Aside0.mk gr
 clear gr
 by_cases c3 : bB = true
 ·subst c3
  have H1 : ((msg_Bytes.f k l0).bind fun aM => (if 0 ≤ aM then (if (aM : Int).toNat ≤ 281474976710656 then (ext_Put.l0 k (List.nil) (l0.length : Int) 0) else (none)) else (none))) = some (r1, r2) := by rw [if_pos rfl] at H; exact H
  clear H
  have H := H1
  clear H1
  replace H := Option.bind_eq_some_iff.mp H
  obtain ⟨aM, mg, H⟩ := H
  replace H : (if 0 ≤ aM then (if (aM : Int).toNat ≤ 281474976710656 then (ext_Put.l0 k (List.nil) (l0.length : Int) 0) else (none)) else (none)) = some (r1, r2) := H
  have A4 := Aside0.mk mg
  clear mg
  by_cases c5 : 0 ≤ aM
  ·rw [if_pos c5] at H
   have fg := eq_true c5
   have im : decide (0 ≤ aM) = true := decide_eq_true c5
   clear c5
   by_cases c6 : (aM : Int).toNat ≤ 281474976710656
   ·rw [if_pos c6] at H
    have ga := eq_true c6
    have ii : decide ((aM : Int).toNat ≤ 281474976710656) = true := decide_eq_true c6
    clear c6
    obtain ⟨eO, hy103⟩ : ∃ y_ : List Int, y_ = (List.nil) := ⟨_, rfl⟩
    replace H : (ext_Put.l0 k eO (l0.length : Int) 0) = some (r1, r2) := by first | (rw [hy103]; with_reducible exact H) | (have H2_ := (Option.bind_some _ _).symm.trans H; rw [hy103]; with_reducible exact H2_) | (have H2_ := (Option.bind_some _ _).symm.trans H; with_reducible exact H2_) | with_reducible exact H | (rw [hy103]; exact H) | exact H
    have Ny103 := Aside0.mk hy103
    clear hy103
    have H' := Aside0.mk H
    clear H
    go_enter Try.func49, Try.ntmps49
    go_wp2_with (first | ((with_reducible refine gate_callee (f := 55) rfl ?_); refine goesL_ (some 8) rfl rfl Try.func55 Z14 rfl #[.slice A0 l0.length c0] rfl Z4 ?_; (with_reducible refine (ext_Right.calls k _ _ l0 true _ ?side1 ?side2 A2.out).mono ?_); (case side1 => exact Z86); (case side2 => exact mM.out); rintro e w7 ⟨rfl, hb⟩; refine ⟨_, rfl, ?_⟩; replace HB := Aside0.mk (below_step Z1 hb); clear hb) | ((with_reducible refine gate_callee (f := 71) rfl ?_); refine goesL_ (some 11) rfl rfl Try.func71 Z14 rfl #[.slice A0 l0.length c0] rfl Z4 ?_; (with_reducible refine (msg_Bytes.calls k _ _ l0 aM _ ?side1 ?side2 A4.out).mono ?_); (case side1 => exact (by repeat (first | exact (Kd.C_below iB.out HB.out) | (with_reducible refine Kd.C_alloc ?_ _) | (with_reducible refine Kd.C_drewN ?_ _) | (with_reducible refine Kd.C_drew ?_)))); (case side2 => exact mM.out); rintro e w8 ⟨rfl, hb⟩; refine ⟨_, rfl, ?_⟩; replace HB := Aside0.mk (below_step Z1 hb); clear hb) | ((with_reducible refine gate_dst (N := 12) rfl ?_); refine Pre.R_make0 (Kd.int .u8) _ 5 rfl (N := 12) rfl 51 _ _ rfl aM rfl rfl Try.underlying51 (.int .u8 0) 1 info5 rfl Z27 Z34 0 (ok := fun _ => True) (okp := fun _ => True) rfl (fun _ hk => hk) trivial (of_decide_eq_true Z6) (Nat.le_trans (Nat.mul_le_mul_right _ (of_decide_eq_true Z6 : aM.toNat ≤ 281474976710656)) Z34) (Below.refl _ _) (Nat.le_refl _) ?_; intro qD w9 ho10 hb hg_ hnew_; clear hg_ hnew_; (first | rw [← Ny103.out] at ho10 | (simp only [Int.reduceToNat] at ho10; rw [← Ny103.out] at ho10)); have lp := Aside0.mk (Kd.R_lower ho10 (below_size Z1)); replace HB := Aside0.mk (below_step Z1 hb); clear hb ho10))
    go_loopg [4, 15] k (fun kq v4 ig w' => ∃ (em : List Int) (bY : Int), ig = .int .i64 bY ∧ Aside0 (ext_Put.l0 kq em (l0.length : Int) bY = some (r1, r2)) ∧ Aside0 (kq ≤ k) ∧ Aside0 (Kd.R (Kd.int .u8) 5 w' w.heap.size (fun _ => True) v4 em) ∧ Aside0 (Below w.heap.size w w'))
    case atStart => exact ⟨(eO), (0), Z17, H', ⟨Nat.le_refl _⟩, ⟨Z94⟩, ⟨Z1⟩⟩
    case round =>
     clear H'
     try clear p2
     try clear c3
     try clear c4
     try clear c5
     try clear fg
     try clear im
     try clear c6
     try clear ga
     try clear ii
     try clear c7
     obtain ⟨em, bY, rfl, HA, HK1, HO_4, HB⟩ := hrel
     cases gk with
     | zero => exact absurd HA.out (by simp [ext_Put.l0])
     | succ k1 =>
      have H := HA.out
      clear HA
      simp only [ext_Put.l0] at H
      by_cases dK : bY < (l0.length : Int)
      ·rw [if_pos dK] at H
       exact absurd H Z59
      ·rw [if_neg dK] at H
       have eB : decide (bY < (l0.length : Int)) = false := decide_eq_false dK
       clear dK
       simp only [Option.some.injEq, Prod.mk.injEq] at H
       obtain ⟨rfl, rfl⟩ := H
       have hcv12 := own_string (P := Try.prog) Try.underlying51 Try.underlying5 Try.underlying9 (Kd.own_of_R HO_4.out)
       go_wp2
       go_ret2
       exact ⟨Z5, Z1⟩
   ·rw [if_neg c6] at H
    exact absurd H Z59
  ·rw [if_neg c5] at H
   exact absurd H Z59
 ·replace c3 := Bool.eq_false_iff.mpr c3
  subst c3
  have H1 : (none) = some (r1, r2) := by rw [if_neg (show ¬ (false = true) by decide)] at H; exact H
  clear H
  have H := H1
  clear H1
  exact absurd H Z59

end Go.Proofs.Ytccjakjjaemmkaa.PAP
