-- Written by mp.py, a program of this work (wip/tools), out of the translation; Lean checks it.
import Derived.Test.YtccjakjjaemmkaaPAPxZ
import Derived.Test.YtccjakjjaemmkaaConv
import Derived.RegionTactic
import Derived.ChangeAlike
namespace Go.Proofs.Ytccjakjjaemmkaa.PAP
open Go.RowKit Go.Proofs.YtccjakjjaemmkaaW.PrintWords Go.Proofs.YtccjakjjaemmkaaW.PrintLast Go.Proofs.YtccjakjjaemmkaaW.PrintMore
attribute [local go_sem] max2_int min2_int max_two min_two max_three min_three max_four min_four   -- for this text's walks alone
set_option linter.unusedVariables false
set_option linter.unusedSimpArgs false

/-! ### cursor_step: function 77 -/
def cursor_step.f (ax : ByteArray) (av : Int) (aw : Int) (ay : Bool) (a1 : Int) : Option (ByteArray × Int × Int × Bool × Bool) := if ay = true then (some (ax, av, aw, true, false)) else (if a1 < 0 then (some (ax, av, aw, true, false)) else (if a1 > (wrap64 (aw - av)) then (some (ax, av, aw, true, false)) else (some (ax, wrap64 (av + a1), aw, ay, true))))
set_option maxHeartbeats 8000000 in
set_option maxRecDepth 100000 in
theorem cursor_step.calls (ax : ByteArray) (av : Int) (aw : Int) (ay : Bool) (a1 : Int) (r1 : ByteArray) (r2 : Int) (r3 : Int) (r4 : Bool) (r5 : Bool) (w : World) (h : cursor_step.f ax av aw ay a1 = some (r1, r2, r3, r4, r5)) :
  Calls Try.prog 77 #[.agg #[.string ax, .int .i64 av, .int .i64 aw, .bool ay], .int .i64 a1] w fun e w' => e = .returned (.tuple #[.agg #[.string r1, .int .i64 r2, .int .i64 r3, .bool r4], .bool r5]) ∧ Below w.heap.size w w' := by
 have ju := Try.underlying60
 have HB := Aside0.mk (Below.refl w.heap.size w)
 have H : (if ay = true then (some (ax, av, aw, true, false)) else (if a1 < 0 then (some (ax, av, aw, true, false)) else (if a1 > (wrap64 (aw - av)) then (some (ax, av, aw, true, false)) else (some (ax, wrap64 (av + a1), aw, ay, true))))) = some (r1, r2, r3, r4, r5) := h
 clear h
 by_cases c3 : ay = true
 ·subst c3
  have H1 : (some (ax, av, aw, true, false)) = some (r1, r2, r3, r4, r5) := by rw [if_pos rfl] at H; exact H
  clear H
  have H := H1
  clear H1
  simp only [Option.some.injEq, Prod.mk.injEq] at H
  obtain ⟨rfl, rfl, rfl, rfl, rfl⟩ := H
  go_enter Try.func77, Try.ntmps77
  go_wp2_with (first | ((with_reducible refine gate_dst (N := 2) rfl ?_); refine Sq.box 2 #[.string ax, .int .i64 av, .int .i64 aw, .bool true] 60 ?_; intro ab hg w4 hbox hb; have aa := Aside0.mk (hbox); have bR := Aside0.mk (Sq.ge hg Z1); have bf := Aside0.mk (Sq.ge hg Z1); replace HB := Aside0.mk (below_step Z1 hb); clear hb hbox hg) | ((with_reducible refine gate_dst (N := 4) rfl ?_); refine Sq.box 4 #[.string ⟨#[]⟩, .int .i64 0, .int .i64 0, .bool false] 60 ?_; intro aJ hg w5 hbox hb; have aN := Aside0.mk (hbox); have fw := Aside0.mk (Sq.ge hg Z0); have eC := Aside0.mk (Sq.ge hg Z0); have aW := Aside0.mk (Sq.nl hg (blk_lt (g := ab) (o := .cells #[.string ax, .int .i64 av, .int .i64 aw, .bool true] 60 (0, 0)) Z2)); have bh := Aside0.mk (Sq.ng hg (blk_lt (g := ab) (o := .cells #[.string ax, .int .i64 av, .int .i64 aw, .bool true] 60 (0, 0)) Z2)); replace aa := Aside0.mk (blk_below (g := ab) (o := .cells #[.string ax, .int .i64 av, .int .i64 aw, .bool true] 60 (0, 0)) Z2 hb); replace HB := Aside0.mk (below_step Z0 hb); clear hb hbox hg; have hnb6 := aW.out; have hnc6 := bh.out; have pf := cells_4 aa.out; have nL := cells_4 aN.out))
  refine bodyPost_ret (results_ct rfl _ _ aJ 60 #[.string ax, .int .i64 av, .int .i64 aw, .bool true] (0, 0) _ rfl Z37 Try.underlying60 rfl Z14) rfl ?_
  exact ⟨Z5, Z8⟩
 ·replace c3 := Bool.eq_false_iff.mpr c3
  subst c3
  have H1 : (if a1 < 0 then (some (ax, av, aw, true, false)) else (if a1 > (wrap64 (aw - av)) then (some (ax, av, aw, true, false)) else (some (ax, wrap64 (av + a1), aw, false, true)))) = some (r1, r2, r3, r4, r5) := by rw [if_neg (show ¬ (false = true) by decide)] at H; exact H
  clear H
  have H := H1
  clear H1
  by_cases c9 : a1 < 0
  ·rw [if_pos c9] at H
   have ij : decide (a1 < 0) = true := decide_eq_true c9
   clear c9
   simp only [Option.some.injEq, Prod.mk.injEq] at H
   obtain ⟨rfl, rfl, rfl, rfl, rfl⟩ := H
   go_enter Try.func77, Try.ntmps77
   go_wp2_with (first | ((with_reducible refine gate_dst (N := 2) rfl ?_); refine Sq.box 2 #[.string ax, .int .i64 av, .int .i64 aw, .bool false] 60 ?_; intro ab hg sY hbox hb; have aa := Aside0.mk (hbox); have bR := Aside0.mk (Sq.ge hg Z1); have bf := Aside0.mk (Sq.ge hg Z1); replace HB := Aside0.mk (below_step Z1 hb); clear hb hbox hg) | ((with_reducible refine gate_dst (N := 4) rfl ?_); refine Sq.box 4 #[.string ⟨#[]⟩, .int .i64 0, .int .i64 0, .bool false] 60 ?_; intro aJ hg jQ hbox hb; have aN := Aside0.mk (hbox); have fw := Aside0.mk (Sq.ge hg Z0); have eC := Aside0.mk (Sq.ge hg Z0); have aW := Aside0.mk (Sq.nl hg (blk_lt (g := ab) (o := .cells #[.string ax, .int .i64 av, .int .i64 aw, .bool false] 60 (0, 0)) Z2)); have bh := Aside0.mk (Sq.ng hg (blk_lt (g := ab) (o := .cells #[.string ax, .int .i64 av, .int .i64 aw, .bool false] 60 (0, 0)) Z2)); replace aa := Aside0.mk (blk_below (g := ab) (o := .cells #[.string ax, .int .i64 av, .int .i64 aw, .bool false] 60 (0, 0)) Z2 hb); replace HB := Aside0.mk (below_step Z0 hb); clear hb hbox hg; have hnb12 := aW.out; have hnc12 := bh.out; have hcz13 := cells_4 aa.out; have iC := cells_4 aN.out))
   refine bodyPost_ret (results_ct rfl _ _ aJ 60 #[.string ax, .int .i64 av, .int .i64 aw, .bool true] (0, 0) _ rfl Z37 Try.underlying60 rfl Z14) rfl ?_
   exact ⟨Z5, Z8⟩
  ·rw [if_neg c9] at H
   have ij : decide (a1 < 0) = false := decide_eq_false c9
   clear c9
   by_cases eV : a1 > (wrap64 (aw - av))
   ·rw [if_pos eV] at H
    have iH : decide ((wrap64 (aw - av)) < a1) = true := decide_eq_true eV
    clear eV
    simp only [Option.some.injEq, Prod.mk.injEq] at H
    obtain ⟨rfl, rfl, rfl, rfl, rfl⟩ := H
    go_enter Try.func77, Try.ntmps77
    go_wp2_with (first | ((with_reducible refine gate_dst (N := 2) rfl ?_); refine Sq.box 2 #[.string ax, .int .i64 av, .int .i64 aw, .bool false] 60 ?_; intro ab hg kU hbox hb; have aa := Aside0.mk (hbox); have bR := Aside0.mk (Sq.ge hg Z1); have bf := Aside0.mk (Sq.ge hg Z1); replace HB := Aside0.mk (below_step Z1 hb); clear hb hbox hg) | ((with_reducible refine gate_dst (N := 4) rfl ?_); refine Sq.box 4 #[.string ⟨#[]⟩, .int .i64 0, .int .i64 0, .bool false] 60 ?_; intro aJ hg iE hbox hb; have aN := Aside0.mk (hbox); have fw := Aside0.mk (Sq.ge hg Z0); have eC := Aside0.mk (Sq.ge hg Z0); have aW := Aside0.mk (Sq.nl hg (blk_lt (g := ab) (o := .cells #[.string ax, .int .i64 av, .int .i64 aw, .bool false] 60 (0, 0)) Z2)); have bh := Aside0.mk (Sq.ng hg (blk_lt (g := ab) (o := .cells #[.string ax, .int .i64 av, .int .i64 aw, .bool false] 60 (0, 0)) Z2)); replace aa := Aside0.mk (blk_below (g := ab) (o := .cells #[.string ax, .int .i64 av, .int .i64 aw, .bool false] 60 (0, 0)) Z2 hb); replace HB := Aside0.mk (below_step Z0 hb); clear hb hbox hg; have qF := aW.out; have qG := bh.out; have jw := cells_4 aa.out; have mD := cells_4 aN.out))
    refine bodyPost_ret (results_ct rfl _ _ aJ 60 #[.string ax, .int .i64 av, .int .i64 aw, .bool true] (0, 0) _ rfl Z37 Try.underlying60 rfl Z14) rfl ?_
    exact ⟨Z5, Z8⟩
   ·rw [if_neg eV] at H
    have iH : decide ((wrap64 (aw - av)) < a1) = false := decide_eq_false eV
    clear eV
    simp only [Option.some.injEq, Prod.mk.injEq] at H
    obtain ⟨rfl, rfl, rfl, rfl, rfl⟩ := H
    go_enter Try.func77, Try.ntmps77
    go_wp2_with (first | ((with_reducible refine gate_dst (N := 2) rfl ?_); refine Sq.box 2 #[.string ax, .int .i64 av, .int .i64 aw, .bool false] 60 ?_; intro ab hg oB hbox hb; have aa := Aside0.mk (hbox); have bR := Aside0.mk (Sq.ge hg Z1); have bf := Aside0.mk (Sq.ge hg Z1); replace HB := Aside0.mk (below_step Z1 hb); clear hb hbox hg) | ((with_reducible refine gate_dst (N := 4) rfl ?_); refine Sq.box 4 #[.string ⟨#[]⟩, .int .i64 0, .int .i64 0, .bool false] 60 ?_; intro aJ hg nH hbox hb; have aN := Aside0.mk (hbox); have fw := Aside0.mk (Sq.ge hg Z0); have eC := Aside0.mk (Sq.ge hg Z0); have aW := Aside0.mk (Sq.nl hg (blk_lt (g := ab) (o := .cells #[.string ax, .int .i64 av, .int .i64 aw, .bool false] 60 (0, 0)) Z2)); have bh := Aside0.mk (Sq.ng hg (blk_lt (g := ab) (o := .cells #[.string ax, .int .i64 av, .int .i64 aw, .bool false] 60 (0, 0)) Z2)); replace aa := Aside0.mk (blk_below (g := ab) (o := .cells #[.string ax, .int .i64 av, .int .i64 aw, .bool false] 60 (0, 0)) Z2 hb); replace HB := Aside0.mk (below_step Z0 hb); clear hb hbox hg; have hnb23 := aW.out; have hnc23 := bh.out; have oC := cells_4 aa.out; have mE := cells_4 aN.out))
    refine bodyPost_ret (results_ct rfl _ _ aJ 60 #[.string ax, .int .i64 (wrap64 (av + a1)), .int .i64 aw, .bool false] (0, 0) _ rfl Z37 Try.underlying60 rfl Z14) rfl ?_
    exact ⟨Z5, Z8⟩

/-! ### cursor_Text: function 60 -/
def cursor_Text.f (ax : ByteArray) (av : Int) (aw : Int) (ay : Bool) (a1 : Int) : Option (ByteArray × ByteArray × Int × Int × Bool) := (cursor_step.f ax av aw ay a1).bind fun bv => (if bv.2.2.2.2 = true then (if 0 ≤ av then (if av ≤ bv.2.1 then (if bv.2.1 ≤ (ax.size : Int) then (some (ax.extract (av : Int).toNat (bv.2.1 : Int).toNat, bv.1, bv.2.1, bv.2.2.1, bv.2.2.2.1)) else (none)) else (none)) else (none)) else (some ((⟨#[]⟩ : ByteArray), bv.1, bv.2.1, bv.2.2.1, bv.2.2.2.1)))
def cursor_Text.T4 : Bool × List (List Nat × List Nat) := (true, [([], []), ([0], [0]), ([], []), ([2], [2]), ([], []), ([4], [4]), ([1, 3, 5], [1, 3, 5]), ([], []), ([6, 0, 1, 2, 3, 4, 5, 6], [6]), ([7, 8, 0, 1, 2, 3, 4, 5, 6, 7, 8], [7])])
def cursor_Text.B4 : List Nat := [0, 1, 0, 4, 0, 16, 63, 0, 127, 511]
theorem cursor_Text.tab4 : rtab .any (opsOf Try.f60 4) = cursor_Text.T4 := by kernel_rfl
theorem cursor_Text.bits4 : waitsOk cursor_Text.T4.2 cursor_Text.B4 = true := by kernel_rfl
set_option maxHeartbeats 8000000 in
set_option maxRecDepth 100000 in
theorem cursor_Text.calls (ax : ByteArray) (av : Int) (aw : Int) (ay : Bool) (a1 : Int) (r1 : ByteArray) (r2 : ByteArray) (r3 : Int) (r4 : Int) (r5 : Bool) (w : World) (h : cursor_Text.f ax av aw ay a1 = some (r1, r2, r3, r4, r5)) :
  Calls Try.prog 60 #[.agg #[.string ax, .int .i64 av, .int .i64 aw, .bool ay], .int .i64 a1] w fun e w' => e = .returned (.tuple #[.string r1, .agg #[.string r2, .int .i64 r3, .int .i64 r4, .bool r5]]) ∧ Below w.heap.size w w' := by
 have ju := Try.underlying60
 have HB := Aside0.mk (Below.refl w.heap.size w)
 have H : ((cursor_step.f ax av aw ay a1).bind fun bv => (if bv.2.2.2.2 = true then (if 0 ≤ av then (if av ≤ bv.2.1 then (if bv.2.1 ≤ (ax.size : Int) then (some (ax.extract (av : Int).toNat (bv.2.1 : Int).toNat, bv.1, bv.2.1, bv.2.2.1, bv.2.2.2.1)) else (none)) else (none)) else (none)) else (some ((⟨#[]⟩ : ByteArray), bv.1, bv.2.1, bv.2.2.1, bv.2.2.2.1)))) = some (r1, r2, r3, r4, r5) := h
 clear h
 replace H := Option.bind_eq_some_iff.mp H
 obtain ⟨⟨aX, aV, bi, aU, bp⟩, kX, H⟩ := H
 replace H : (if bp = true then (if 0 ≤ av then (if av ≤ aV then (if aV ≤ (ax.size : Int) then (some (ax.extract (av : Int).toNat (aV : Int).toNat, aX, aV, bi, aU)) else (none)) else (none)) else (none)) else (some ((⟨#[]⟩ : ByteArray), aX, aV, bi, aU))) = some (r1, r2, r3, r4, r5) := H
 have A3 := Aside0.mk kX
 clear kX
 by_cases c4 : bp = true
 ·subst c4
  have H1 : (if 0 ≤ av then (if av ≤ aV then (if aV ≤ (ax.size : Int) then (some (ax.extract (av : Int).toNat (aV : Int).toNat, aX, aV, bi, aU)) else (none)) else (none)) else (none)) = some (r1, r2, r3, r4, r5) := by rw [if_pos rfl] at H; exact H
  clear H
  have H := H1
  clear H1
  by_cases c5 : 0 ≤ av
  ·rw [if_pos c5] at H
   have fg := eq_true c5
   have im : decide (0 ≤ av) = true := decide_eq_true c5
   clear c5
   by_cases c6 : av ≤ aV
   ·rw [if_pos c6] at H
    have ga := eq_true c6
    have ii : decide (av ≤ aV) = true := decide_eq_true c6
    clear c6
    by_cases c7 : aV ≤ (ax.size : Int)
    ·rw [if_pos c7] at H
     have fz := eq_true c7
     have kT : decide (aV ≤ (ax.size : Int)) = true := decide_eq_true c7
     clear c7
     simp only [Option.some.injEq, Prod.mk.injEq] at H
     obtain ⟨rfl, rfl, rfl, rfl, rfl⟩ := H
     go_enter Try.func60, Try.ntmps60
     try go_wp2_with (first | ((with_reducible refine gate_dst (N := 2) rfl ?_); refine Sq.box 2 #[.string ax, .int .i64 av, .int .i64 aw, .bool ay] 60 ?_; intro ab hg w8 hbox hb; have aa := Aside0.mk (hbox); have bR := Aside0.mk (Sq.ge hg Z1); have bf := Aside0.mk (Sq.ge hg Z1); replace HB := Aside0.mk (below_step Z1 hb); clear hb hbox hg) | ((with_reducible refine gate_dst (N := 5) rfl ?_); refine Sq.box 5 #[.string ⟨#[]⟩, .int .i64 0, .int .i64 0, .bool false] 60 ?_; intro aJ hg w9 hbox hb; have aN := Aside0.mk (hbox); have fw := Aside0.mk (Sq.ge hg Z0); have eC := Aside0.mk (Sq.ge hg Z0); have aW := Aside0.mk (Sq.nl hg (blk_lt (g := ab) (o := .cells #[.string ax, .int .i64 av, .int .i64 aw, .bool ay] 60 (0, 0)) Z2)); have bh := Aside0.mk (Sq.ng hg (blk_lt (g := ab) (o := .cells #[.string ax, .int .i64 av, .int .i64 aw, .bool ay] 60 (0, 0)) Z2)); replace aa := Aside0.mk (blk_below (g := ab) (o := .cells #[.string ax, .int .i64 av, .int .i64 aw, .bool ay] 60 (0, 0)) Z2 hb); replace HB := Aside0.mk (below_step Z0 hb); clear hb hbox hg; have hnb10 := aW.out; have hnc10 := bh.out; have oD := cells_4 aa.out) | ((with_reducible refine gate_callee (f := 77) rfl ?_); refine goesL_ (some 11) rfl rfl Try.func77 Z14 rfl #[.agg #[.string ax, .int .i64 av, .int .i64 aw, .bool ay], .int .i64 a1] rfl Z4 ?_; (with_reducible refine (cursor_step.calls ax av aw ay a1 aX aV bi aU true _ A3.out).mono ?_); rintro e po ⟨rfl, hb⟩; refine ⟨_, rfl, ?_⟩; replace aa := Aside0.mk (blk_below (g := ab) (o := .cells #[.string ax, .int .i64 av, .int .i64 aw, .bool ay] 60 (0, 0)) Z2 hb); replace aN := Aside0.mk (blk_below (g := aJ) (o := .cells #[.string ⟨#[]⟩, .int .i64 0, .int .i64 0, .bool false] 60 (0, 0)) Z19 hb); replace HB := Aside0.mk (below_step Z8 hb); clear hb) | ((with_reducible refine gate_dst (N := 6) rfl ?_); refine Sq.box 6 #[.string ⟨#[]⟩, .int .i64 0, .int .i64 0, .bool false] 60 ?_; intro bH hg jP hbox hb; have et := Aside0.mk (hbox); have qY := Aside0.mk (Sq.ge hg Z8); have oE := Aside0.mk (Sq.ge hg Z8); have eT := Aside0.mk (Sq.nl hg (blk_lt (g := ab) (o := .cells #[.string ax, .int .i64 av, .int .i64 aw, .bool ay] 60 (0, 0)) Z2)); have ir := Aside0.mk (Sq.ng hg (blk_lt (g := ab) (o := .cells #[.string ax, .int .i64 av, .int .i64 aw, .bool ay] 60 (0, 0)) Z2)); have cZ := Aside0.mk (Sq.nl hg (blk_lt (g := aJ) (o := .cells #[.string ⟨#[]⟩, .int .i64 0, .int .i64 0, .bool false] 60 (0, 0)) Z19)); have bb := Aside0.mk (Sq.ng hg (blk_lt (g := aJ) (o := .cells #[.string ⟨#[]⟩, .int .i64 0, .int .i64 0, .bool false] 60 (0, 0)) Z19)); replace aa := Aside0.mk (blk_below (g := ab) (o := .cells #[.string ax, .int .i64 av, .int .i64 aw, .bool ay] 60 (0, 0)) Z2 hb); replace aN := Aside0.mk (blk_below (g := aJ) (o := .cells #[.string ⟨#[]⟩, .int .i64 0, .int .i64 0, .bool false] 60 (0, 0)) Z19 hb); replace HB := Aside0.mk (below_step Z8 hb); clear hb hbox hg; have hnb14 := ir.out; have hnc14 := eT.out; have hnb15 := bb.out; have hnc15 := cZ.out; have jD := cells_4 et.out))
     have bl : Aside0 (((((jP.setCell ⟨bH, 0, none⟩ (.string aX)).setCell ⟨bH, 1, none⟩ (.int .i64 aV)).setCell ⟨bH, 2, none⟩ (.int .i64 bi)).setCell ⟨bH, 3, none⟩ (.bool aU)).heap[ab]? = some (.cells #[.string ax, .int .i64 av, .int .i64 aw, .bool ay] 60 (0, 0))) := ⟨Z62⟩
     have bm : Aside0 (((((jP.setCell ⟨bH, 0, none⟩ (.string aX)).setCell ⟨bH, 1, none⟩ (.int .i64 aV)).setCell ⟨bH, 2, none⟩ (.int .i64 bi)).setCell ⟨bH, 3, none⟩ (.bool aU)).heap[aJ]? = some (.cells #[.string ⟨#[]⟩, .int .i64 0, .int .i64 0, .bool false] 60 (0, 0))) := ⟨Z61⟩
     have bI : Aside0 (((((jP.setCell ⟨bH, 0, none⟩ (.string aX)).setCell ⟨bH, 1, none⟩ (.int .i64 aV)).setCell ⟨bH, 2, none⟩ (.int .i64 bi)).setCell ⟨bH, 3, none⟩ (.bool aU)).heap[bH]? = some (.cells #[.string aX, .int .i64 aV, .int .i64 bi, .bool aU] 60 (0, 0))) := ⟨Z90⟩
     have dU : Aside0 (Below w.heap.size w ((((jP.setCell ⟨bH, 0, none⟩ (.string aX)).setCell ⟨bH, 1, none⟩ (.int .i64 aV)).setCell ⟨bH, 2, none⟩ (.int .i64 bi)).setCell ⟨bH, 3, none⟩ (.bool aU))) := ⟨Z58⟩
     (try clear aa)
     (try clear aN)
     (try clear et)
     (try clear HB)
     generalize ((((jP.setCell ⟨bH, 0, none⟩ (.string aX)).setCell ⟨bH, 1, none⟩ (.int .i64 aV)).setCell ⟨bH, 2, none⟩ (.int .i64 bi)).setCell ⟨bH, 3, none⟩ (.bool aU)) = iE at bl bm bI dU ⊢
     have aa := bl
     have aN := bm
     have et := bI
     have HB := dU
     clear bl bm bI dU
     have bl := Aside0.mk (blk_drew aa.out)
     have bm := Aside0.mk (blk_drew aN.out)
     have bI := Aside0.mk (blk_drew et.out)
     have dU := Aside0.mk (below_drew1 HB.out)
     clear aa
     clear aN
     clear et
     clear HB
     have aa := bl
     have aN := bm
     have et := bI
     have HB := dU
     clear bl bm bI dU
     refine start_ (n := 10) (S := fun w' => w'.cell? ⟨ab, 0, none⟩ = some (.string ax) ∧ w'.cell? ⟨ab, 1, none⟩ = some (.int .i64 av) ∧ w'.cell? ⟨ab, 2, none⟩ = some (.int .i64 aw) ∧ w'.cell? ⟨ab, 3, none⟩ = some (.bool ay) ∧ w'.cell? ⟨bH, 0, none⟩ = some (.string aX) ∧ w'.cell? ⟨bH, 1, none⟩ = some (.int .i64 aV) ∧ w'.cell? ⟨bH, 2, none⟩ = some (.int .i64 bi) ∧ w'.cell? ⟨bH, 3, none⟩ = some (.bool aU)) (ds := []) (Sq.b 10 0) Z14 rfl rfl ⟨Sq.bc aa 0, Sq.bc aa 1, Sq.bc aa 2, Sq.bc aa 3, Sq.bc et 0, Sq.bc et 1, Sq.bc et 2, Sq.bc et 3⟩ (fun hHeld => ?_); refine with_tabW cursor_Text.tab4 cursor_Text.bits4 (fun HT_ HW_ => ?_)
     generalize iE.drew = mb at aa aN et HB hHeld ⊢
     refine Sq.pur 0 (some 17) (Sq.b 10 1) HT_.out ?_
     refine Sq.pur 2 (some 19) (Sq.b 10 5) HT_.out ?_
     refine Sq.pur 4 (some 21) (Sq.b 10 21) HT_.out ?_
     refine Sq.tak 1 (some 18) (Sq.b 10 23) HT_.out HW_.out hHeld (v := ?_) (a' := ?_) ?_ ?_ ?_
     rotate_left
     ·rintro w' ⟨s0, s1, s2, s3, s4, s5, s6, s7⟩
      go_simp
      with_reducible rfl
     rotate_left
     ·simp only [Act.put, Sq.s1, Sq.s2, Sq.s3, i64_w, i32_w]
      rfl
     refine Sq.tak 3 (some 20) (Sq.b 10 31) HT_.out HW_.out hHeld (v := ?_) (a' := ?_) ?_ ?_ ?_
     rotate_left
     ·rintro w' ⟨s0, s1, s2, s3, s4, s5, s6, s7⟩
      go_simp
      with_reducible rfl
     rotate_left
     ·simp only [Act.put, Sq.s1, Sq.s2, Sq.s3, i64_w, i32_w]
      rfl
     refine Sq.tak 5 (some 22) (Sq.b 10 63) HT_.out HW_.out hHeld (v := ?_) (a' := ?_) ?_ ?_ ?_
     rotate_left
     ·rintro w' ⟨s0, s1, s2, s3, s4, s5, s6, s7⟩
      go_simp
      with_reducible rfl
     rotate_left
     ·simp only [Act.put, Sq.s1, Sq.s2, Sq.s3, i64_w, i32_w]
      rfl
     refine Sq.pur 6 (some 23) (Sq.b 10 127) HT_.out ?_
     refine Sq.pur 8 (some 4) (Sq.b 10 383) HT_.out ?_
     refine Sq.tak 7 (some 24) (Sq.b 10 511) HT_.out HW_.out hHeld (v := ?_) (a' := ?_) ?_ ?_ ?_
     rotate_left
     ·rintro w' ⟨s0, s1, s2, s3, s4, s5, s6, s7⟩
      go_simp
      with_reducible rfl
     rotate_left
     ·simp only [Act.put, Sq.s1, Sq.s2, Sq.s3, i64_w, i32_w]
      rfl
     refine one_ (i := 9) (N := none) (Sq.b 10 1023) rfl rfl (one_of HT_.out Z14) Z27 (fun K hK => ?_)
     have hs19 : mb.cell? ⟨aJ, 0, none⟩ = some (.string ⟨#[]⟩) := (blk_cell aN.out 0).trans rfl
     have hfs19 := blk_frozen aN.out 0
     have hns19_0 := aW.out
     have hns19_2 := bb.out
     have hms19_0 := bh.out
     have hms19_2 := cZ.out
     have hs20 : mb.cell? ⟨aJ, 1, none⟩ = some (.int .i64 0) := (blk_cell aN.out 1).trans rfl
     have hfs20 := blk_frozen aN.out 1
     have hns20_0 := aW.out
     have hns20_2 := bb.out
     have hms20_0 := bh.out
     have hms20_2 := cZ.out
     have hs21 : mb.cell? ⟨aJ, 2, none⟩ = some (.int .i64 0) := (blk_cell aN.out 2).trans rfl
     have hfs21 := blk_frozen aN.out 2
     have hns21_0 := aW.out
     have hns21_2 := bb.out
     have hms21_0 := bh.out
     have hms21_2 := cZ.out
     have hs22 : mb.cell? ⟨aJ, 3, none⟩ = some (.bool false) := (blk_cell aN.out 3).trans rfl
     have hfs22 := blk_frozen aN.out 3
     have hns22_0 := aW.out
     have hns22_2 := bb.out
     have hms22_0 := bh.out
     have hms22_2 := cZ.out
     refine skip_ (w1 := ?_) Z22 rfl ?_ ?_
     rotate_left
     ·go_simp
      rfl
     refine hK.out _ _ ⟨((cell_far (p := ⟨aJ, _, none⟩) aW.out _).trans (((cell_far (p := ⟨aJ, _, none⟩) aW.out _).trans (((cell_far (p := ⟨aJ, _, none⟩) aW.out _).trans (((cell_far (p := ⟨aJ, _, none⟩) aW.out _).trans (hHeld.1)))))))), ((cell_far (p := ⟨aJ, _, none⟩) aW.out _).trans (((cell_far (p := ⟨aJ, _, none⟩) aW.out _).trans (((cell_far (p := ⟨aJ, _, none⟩) aW.out _).trans (((cell_far (p := ⟨aJ, _, none⟩) aW.out _).trans (hHeld.2.1)))))))), ((cell_far (p := ⟨aJ, _, none⟩) aW.out _).trans (((cell_far (p := ⟨aJ, _, none⟩) aW.out _).trans (((cell_far (p := ⟨aJ, _, none⟩) aW.out _).trans (((cell_far (p := ⟨aJ, _, none⟩) aW.out _).trans (hHeld.2.2.1)))))))), ((cell_far (p := ⟨aJ, _, none⟩) aW.out _).trans (((cell_far (p := ⟨aJ, _, none⟩) aW.out _).trans (((cell_far (p := ⟨aJ, _, none⟩) aW.out _).trans (((cell_far (p := ⟨aJ, _, none⟩) aW.out _).trans (hHeld.2.2.2.1)))))))), ((cell_far (p := ⟨aJ, _, none⟩) bb.out _).trans (((cell_far (p := ⟨aJ, _, none⟩) bb.out _).trans (((cell_far (p := ⟨aJ, _, none⟩) bb.out _).trans (((cell_far (p := ⟨aJ, _, none⟩) bb.out _).trans (hHeld.2.2.2.2.1)))))))), ((cell_far (p := ⟨aJ, _, none⟩) bb.out _).trans (((cell_far (p := ⟨aJ, _, none⟩) bb.out _).trans (((cell_far (p := ⟨aJ, _, none⟩) bb.out _).trans (((cell_far (p := ⟨aJ, _, none⟩) bb.out _).trans (hHeld.2.2.2.2.2.1)))))))), ((cell_far (p := ⟨aJ, _, none⟩) bb.out _).trans (((cell_far (p := ⟨aJ, _, none⟩) bb.out _).trans (((cell_far (p := ⟨aJ, _, none⟩) bb.out _).trans (((cell_far (p := ⟨aJ, _, none⟩) bb.out _).trans (hHeld.2.2.2.2.2.2.1)))))))), ((cell_far (p := ⟨aJ, _, none⟩) bb.out _).trans (((cell_far (p := ⟨aJ, _, none⟩) bb.out _).trans (((cell_far (p := ⟨aJ, _, none⟩) bb.out _).trans (((cell_far (p := ⟨aJ, _, none⟩) bb.out _).trans (hHeld.2.2.2.2.2.2.2))))))))⟩ (fun hHeld => ?_)
     clear hK K
     refine done_ (done_of HT_.out Z14) ?_
     try go_wp2
     refine bodyPost_ret (results_tc rfl _ _ aJ 60 #[.string aX, .int .i64 aV, .int .i64 bi, .bool aU] (0, 0) _ rfl Z91 Try.underlying60 rfl Z14) rfl ?_
     exact ⟨Z5, Z58⟩
    ·rw [if_neg c7] at H
     exact absurd H Z59
   ·rw [if_neg c6] at H
    exact absurd H Z59
  ·rw [if_neg c5] at H
   exact absurd H Z59
 ·replace c4 := Bool.eq_false_iff.mpr c4
  subst c4
  have H1 : (some ((⟨#[]⟩ : ByteArray), aX, aV, bi, aU)) = some (r1, r2, r3, r4, r5) := by rw [if_neg (show ¬ (false = true) by decide)] at H; exact H
  clear H
  have H := H1
  clear H1
  simp only [Option.some.injEq, Prod.mk.injEq] at H
  obtain ⟨rfl, rfl, rfl, rfl, rfl⟩ := H
  go_enter Try.func60, Try.ntmps60
  try go_wp2_with (first | ((with_reducible refine gate_dst (N := 2) rfl ?_); refine Sq.box 2 #[.string ax, .int .i64 av, .int .i64 aw, .bool ay] 60 ?_; intro ab hg ku hbox hb; have aa := Aside0.mk (hbox); have bR := Aside0.mk (Sq.ge hg Z1); have bf := Aside0.mk (Sq.ge hg Z1); replace HB := Aside0.mk (below_step Z1 hb); clear hb hbox hg) | ((with_reducible refine gate_dst (N := 5) rfl ?_); refine Sq.box 5 #[.string ⟨#[]⟩, .int .i64 0, .int .i64 0, .bool false] 60 ?_; intro aJ hg pb hbox hb; have aN := Aside0.mk (hbox); have fw := Aside0.mk (Sq.ge hg Z0); have eC := Aside0.mk (Sq.ge hg Z0); have aW := Aside0.mk (Sq.nl hg (blk_lt (g := ab) (o := .cells #[.string ax, .int .i64 av, .int .i64 aw, .bool ay] 60 (0, 0)) Z2)); have bh := Aside0.mk (Sq.ng hg (blk_lt (g := ab) (o := .cells #[.string ax, .int .i64 av, .int .i64 aw, .bool ay] 60 (0, 0)) Z2)); replace aa := Aside0.mk (blk_below (g := ab) (o := .cells #[.string ax, .int .i64 av, .int .i64 aw, .bool ay] 60 (0, 0)) Z2 hb); replace HB := Aside0.mk (below_step Z0 hb); clear hb hbox hg; have qZ := aW.out; have ra := bh.out; have iY := cells_4 aa.out) | ((with_reducible refine gate_callee (f := 77) rfl ?_); refine goesL_ (some 11) rfl rfl Try.func77 Z14 rfl #[.agg #[.string ax, .int .i64 av, .int .i64 aw, .bool ay], .int .i64 a1] rfl Z4 ?_; (with_reducible refine (cursor_step.calls ax av aw ay a1 aX aV bi aU false _ A3.out).mono ?_); rintro e nA ⟨rfl, hb⟩; refine ⟨_, rfl, ?_⟩; replace aa := Aside0.mk (blk_below (g := ab) (o := .cells #[.string ax, .int .i64 av, .int .i64 aw, .bool ay] 60 (0, 0)) Z2 hb); replace aN := Aside0.mk (blk_below (g := aJ) (o := .cells #[.string ⟨#[]⟩, .int .i64 0, .int .i64 0, .bool false] 60 (0, 0)) Z19 hb); replace HB := Aside0.mk (below_step Z8 hb); clear hb) | ((with_reducible refine gate_dst (N := 6) rfl ?_); refine Sq.box 6 #[.string ⟨#[]⟩, .int .i64 0, .int .i64 0, .bool false] 60 ?_; intro bH hg oF hbox hb; have et := Aside0.mk (hbox); have qY := Aside0.mk (Sq.ge hg Z8); have oE := Aside0.mk (Sq.ge hg Z8); have eT := Aside0.mk (Sq.nl hg (blk_lt (g := ab) (o := .cells #[.string ax, .int .i64 av, .int .i64 aw, .bool ay] 60 (0, 0)) Z2)); have ir := Aside0.mk (Sq.ng hg (blk_lt (g := ab) (o := .cells #[.string ax, .int .i64 av, .int .i64 aw, .bool ay] 60 (0, 0)) Z2)); have cZ := Aside0.mk (Sq.nl hg (blk_lt (g := aJ) (o := .cells #[.string ⟨#[]⟩, .int .i64 0, .int .i64 0, .bool false] 60 (0, 0)) Z19)); have bb := Aside0.mk (Sq.ng hg (blk_lt (g := aJ) (o := .cells #[.string ⟨#[]⟩, .int .i64 0, .int .i64 0, .bool false] 60 (0, 0)) Z19)); replace aa := Aside0.mk (blk_below (g := ab) (o := .cells #[.string ax, .int .i64 av, .int .i64 aw, .bool ay] 60 (0, 0)) Z2 hb); replace aN := Aside0.mk (blk_below (g := aJ) (o := .cells #[.string ⟨#[]⟩, .int .i64 0, .int .i64 0, .bool false] 60 (0, 0)) Z19 hb); replace HB := Aside0.mk (below_step Z8 hb); clear hb hbox hg; have hnb29 := ir.out; have hnc29 := eT.out; have hnb30 := bb.out; have hnc30 := cZ.out; have rb := cells_4 et.out))
  have bl : Aside0 (((((oF.setCell ⟨bH, 0, none⟩ (.string aX)).setCell ⟨bH, 1, none⟩ (.int .i64 aV)).setCell ⟨bH, 2, none⟩ (.int .i64 bi)).setCell ⟨bH, 3, none⟩ (.bool aU)).heap[ab]? = some (.cells #[.string ax, .int .i64 av, .int .i64 aw, .bool ay] 60 (0, 0))) := ⟨Z62⟩
  have bm : Aside0 (((((oF.setCell ⟨bH, 0, none⟩ (.string aX)).setCell ⟨bH, 1, none⟩ (.int .i64 aV)).setCell ⟨bH, 2, none⟩ (.int .i64 bi)).setCell ⟨bH, 3, none⟩ (.bool aU)).heap[aJ]? = some (.cells #[.string ⟨#[]⟩, .int .i64 0, .int .i64 0, .bool false] 60 (0, 0))) := ⟨Z61⟩
  have bI : Aside0 (((((oF.setCell ⟨bH, 0, none⟩ (.string aX)).setCell ⟨bH, 1, none⟩ (.int .i64 aV)).setCell ⟨bH, 2, none⟩ (.int .i64 bi)).setCell ⟨bH, 3, none⟩ (.bool aU)).heap[bH]? = some (.cells #[.string aX, .int .i64 aV, .int .i64 bi, .bool aU] 60 (0, 0))) := ⟨Z90⟩
  have dU : Aside0 (Below w.heap.size w ((((oF.setCell ⟨bH, 0, none⟩ (.string aX)).setCell ⟨bH, 1, none⟩ (.int .i64 aV)).setCell ⟨bH, 2, none⟩ (.int .i64 bi)).setCell ⟨bH, 3, none⟩ (.bool aU))) := ⟨Z58⟩
  (try clear aa)
  (try clear aN)
  (try clear et)
  (try clear HB)
  generalize ((((oF.setCell ⟨bH, 0, none⟩ (.string aX)).setCell ⟨bH, 1, none⟩ (.int .i64 aV)).setCell ⟨bH, 2, none⟩ (.int .i64 bi)).setCell ⟨bH, 3, none⟩ (.bool aU)) = uC at bl bm bI dU ⊢
  have aa := bl
  have aN := bm
  have et := bI
  have HB := dU
  clear bl bm bI dU
  have bl := Aside0.mk (blk_drew aa.out)
  have bm := Aside0.mk (blk_drew aN.out)
  have bI := Aside0.mk (blk_drew et.out)
  have dU := Aside0.mk (below_drew1 HB.out)
  clear aa
  clear aN
  clear et
  clear HB
  have aa := bl
  have aN := bm
  have et := bI
  have HB := dU
  clear bl bm bI dU
  refine start_ (n := 3) (S := fun w' => w'.cell? ⟨bH, 0, none⟩ = some (.string aX) ∧ w'.cell? ⟨bH, 1, none⟩ = some (.int .i64 aV) ∧ w'.cell? ⟨bH, 2, none⟩ = some (.int .i64 bi) ∧ w'.cell? ⟨bH, 3, none⟩ = some (.bool aU)) (ds := []) #[false, false, false] Z14 rfl rfl ⟨Sq.bc et 0, Sq.bc et 1, Sq.bc et 2, Sq.bc et 3⟩ (fun hHeld => ?_)
  generalize uC.drew = pp at aa aN et HB hHeld ⊢
  refine pure_ (i := 1) (N := some 4) (v := ?_) (a' := ?_) #[false, true, false] rfl rfl Z14 (fun _ _ _ h => h) (Or.inl ⟨Z22, ?_⟩) ?_ ?_
  rotate_left
  ·intro w'
   go_simp
   with_reducible rfl
  rotate_left
  ·simp only [Act.put, Sq.s1, Sq.s2, Sq.s3, i64_w, i32_w]
   rfl
  refine take_ (i := 0) (N := some 16) (v := ?_) (a' := ?_) #[true, true, false] rfl rfl Z14 (fun _ _ _ h => h) (Or.inl ⟨Z22, ?_⟩) hHeld ?_ ?_
  rotate_left
  ·rintro w' ⟨s0, s1, s2, s3⟩
   go_simp
   with_reducible rfl
  rotate_left
  ·simp only [Act.put, Sq.s1, Sq.s2, Sq.s3, i64_w, i32_w]
   rfl
  refine one_ (i := 2) (N := none) #[true, true, true] rfl rfl Z14 Z27 (fun K hK => ?_)
  have hs34 : pp.cell? ⟨aJ, 0, none⟩ = some (.string ⟨#[]⟩) := (blk_cell aN.out 0).trans rfl
  have hfs34 := blk_frozen aN.out 0
  have hns34_0 := aW.out
  have hns34_2 := bb.out
  have hms34_0 := bh.out
  have hms34_2 := cZ.out
  have hs35 : pp.cell? ⟨aJ, 1, none⟩ = some (.int .i64 0) := (blk_cell aN.out 1).trans rfl
  have hfs35 := blk_frozen aN.out 1
  have hns35_0 := aW.out
  have hns35_2 := bb.out
  have hms35_0 := bh.out
  have hms35_2 := cZ.out
  have hs36 : pp.cell? ⟨aJ, 2, none⟩ = some (.int .i64 0) := (blk_cell aN.out 2).trans rfl
  have hfs36 := blk_frozen aN.out 2
  have hns36_0 := aW.out
  have hns36_2 := bb.out
  have hms36_0 := bh.out
  have hms36_2 := cZ.out
  have hs37 : pp.cell? ⟨aJ, 3, none⟩ = some (.bool false) := (blk_cell aN.out 3).trans rfl
  have hfs37 := blk_frozen aN.out 3
  have hns37_0 := aW.out
  have hns37_2 := bb.out
  have hms37_0 := bh.out
  have hms37_2 := cZ.out
  refine skip_ (w1 := ?_) Z22 rfl ?_ ?_
  rotate_left
  ·go_simp
   rfl
  refine hK.out _ _ ⟨((cell_far (p := ⟨aJ, _, none⟩) bb.out _).trans (((cell_far (p := ⟨aJ, _, none⟩) bb.out _).trans (((cell_far (p := ⟨aJ, _, none⟩) bb.out _).trans (((cell_far (p := ⟨aJ, _, none⟩) bb.out _).trans (hHeld.1)))))))), ((cell_far (p := ⟨aJ, _, none⟩) bb.out _).trans (((cell_far (p := ⟨aJ, _, none⟩) bb.out _).trans (((cell_far (p := ⟨aJ, _, none⟩) bb.out _).trans (((cell_far (p := ⟨aJ, _, none⟩) bb.out _).trans (hHeld.2.1)))))))), ((cell_far (p := ⟨aJ, _, none⟩) bb.out _).trans (((cell_far (p := ⟨aJ, _, none⟩) bb.out _).trans (((cell_far (p := ⟨aJ, _, none⟩) bb.out _).trans (((cell_far (p := ⟨aJ, _, none⟩) bb.out _).trans (hHeld.2.2.1)))))))), ((cell_far (p := ⟨aJ, _, none⟩) bb.out _).trans (((cell_far (p := ⟨aJ, _, none⟩) bb.out _).trans (((cell_far (p := ⟨aJ, _, none⟩) bb.out _).trans (((cell_far (p := ⟨aJ, _, none⟩) bb.out _).trans (hHeld.2.2.2))))))))⟩ (fun hHeld => ?_)
  clear hK K
  refine done_ Z14 ?_
  try go_wp2
  refine bodyPost_ret (results_tc rfl _ _ aJ 60 #[.string aX, .int .i64 aV, .int .i64 bi, .bool aU] (0, 0) _ rfl Z91 Try.underlying60 rfl Z14) rfl ?_
  exact ⟨Z5, Z58⟩

/-! ### cursor_New: function 61 -/
def cursor_New.f (a0 : ByteArray) : Option (ByteArray × Int × Int × Bool) := some (a0, 0, (a0.size : Int), false)
set_option maxHeartbeats 8000000 in
set_option maxRecDepth 100000 in
theorem cursor_New.calls (a0 : ByteArray) (r1 : ByteArray) (r2 : Int) (r3 : Int) (r4 : Bool) (w : World) (h : cursor_New.f a0 = some (r1, r2, r3, r4)) :
  Calls Try.prog 61 #[.string a0] w fun e w' => e = .returned (.agg #[.string r1, .int .i64 r2, .int .i64 r3, .bool r4]) ∧ Below w.heap.size w w' := by
 have ju := Try.underlying60
 have HB := Aside0.mk (Below.refl w.heap.size w)
 have H : (some (a0, 0, (a0.size : Int), false)) = some (r1, r2, r3, r4) := h
 clear h
 simp only [Option.some.injEq, Prod.mk.injEq] at H
 obtain ⟨rfl, rfl, rfl, rfl⟩ := H
 go_enter Try.func61, Try.ntmps61
 go_wp2_with (first | ((with_reducible refine gate_dst (N := 2) rfl ?_); refine Sq.box 2 #[.string ⟨#[]⟩, .int .i64 0, .int .i64 0, .bool false] 60 ?_; intro ab hg w2 hbox hb; have aa := Aside0.mk (hbox); have bR := Aside0.mk (Sq.ge hg Z1); have bf := Aside0.mk (Sq.ge hg Z1); replace HB := Aside0.mk (below_step Z1 hb); clear hb hbox hg; have hcz3 := cells_4 aa.out))
 refine bodyPost_ret (results_cell_row rfl _ _ ab 60 #[.string a0, .int .i64 0, .int .i64 (a0.size : Int), .bool false] (0, 0) _ rfl (by (with_reducible repeat (first | refine blk_drewN ?_ _ | refine blk_drew ?_ | refine blk_alloc ?_ _)); apply blk_puts4; (with_reducible repeat (first | refine blk_drewN ?_ _ | refine blk_drew ?_ | refine blk_alloc ?_ _)); exact aa.out) Try.underlying60 rfl Z14) rfl ?_
 exact ⟨Z5, Z0⟩

/-! ### cursor_Num: function 62 -/
def cursor_Num.f (ax : ByteArray) (av : Int) (aw : Int) (ay : Bool) (a1 : Int) : Option (Int × ByteArray × Int × Int × Bool) :=
 if a1 < 1 ∨ 7 < a1 then some (0, ax, av, aw, true)
 else (cursor_step.f ax av aw ay a1).bind fun b =>
  if b.2.2.2.2 = true then (if 0 ≤ av ∧ av ≤ b.2.1 ∧ b.2.1 ≤ (ax.size : Int) ∧ b.2.1 - av ≤ 7 then some (Pre.numOf (ax.extract av.toNat b.2.1.toNat), b.1, b.2.1, b.2.2.1, b.2.2.2.1) else none)
  else some (0, b.1, b.2.1, b.2.2.1, b.2.2.2.1)
set_option maxHeartbeats 8000000 in
set_option maxRecDepth 100000 in
theorem cursor_Num.bad (ax : ByteArray) (av : Int) (aw : Int) (ay : Bool) (a1 : Int) (w : World) (h : a1 < 1 ∨ 7 < a1) :
  Calls Try.prog 62 #[.agg #[.string ax, .int .i64 av, .int .i64 aw, .bool ay], .int .i64 a1] w fun e w' => e = .returned (.tuple #[.int .i64 0, .agg #[.string ax, .int .i64 av, .int .i64 aw, .bool true]]) ∧ Below w.heap.size w w' := by
 have ju := Try.underlying60
 have HB := Aside0.mk (Below.refl w.heap.size w)
 rcases h with h | h
 all_goals
  go_enter Try.func62, Try.ntmps62
  go_wp2
  go_region
  go_wp2
  exact bodyPost_ret (v := .tuple #[.int .i64 0, .agg #[.string ax, .int .i64 av, .int .i64 aw, .bool true]]) (by simp [results, Try.results62, go_sem]) rfl ⟨rfl, by repeat (first | exact HB.out | apply below_alloc | apply below_drew1)⟩
set_option maxHeartbeats 8000000 in
set_option maxRecDepth 100000 in
theorem cursor_Num.no (ax : ByteArray) (av : Int) (aw : Int) (ay : Bool) (a1 : Int) (w : World) (h0 : 1 ≤ a1) (h1 : a1 ≤ 7) (r1 : ByteArray) (r2 r3 : Int) (r4 : Bool) (hs : cursor_step.f ax av aw ay a1 = some (r1, r2, r3, r4, false)) :
  Calls Try.prog 62 #[.agg #[.string ax, .int .i64 av, .int .i64 aw, .bool ay], .int .i64 a1] w fun e w' => e = .returned (.tuple #[.int .i64 0, .agg #[.string r1, .int .i64 r2, .int .i64 r3, .bool r4]]) ∧ Below w.heap.size w w' := by
 have ju := Try.underlying60
 have HB := Aside0.mk (Below.refl w.heap.size w)
 have HS := Aside0.mk hs
 clear hs
 go_enter Try.func62, Try.ntmps62
 go_wp2_with (first | (go_at_call 77; refine (cursor_step.calls _ _ _ _ _ _ _ _ _ _ _ HS.out).mono ?_; rintro e w1 ⟨rfl, hb⟩; have HB1 := Aside0.mk hb; have hz : w.heap.size + 1 < w1.heap.size := (by have := hb.size; simp at this; omega); have hz0 : w.heap.size < w1.heap.size := Z34; have b5 : w1.heap[w.heap.size + 1]? = some (.cells #[.string ⟨#[]⟩, .int .i64 0, .int .i64 0, .bool false] 60 (0, 0)) := (hb.block _ Z59).trans Z98; have c0 : w1.cell? ⟨w.heap.size + 1, 0, none⟩ = some (.string ⟨#[]⟩) := (blk_cell b5 0).trans rfl; have c1 : w1.cell? ⟨w.heap.size + 1, 1, none⟩ = some (.int .i64 0) := (blk_cell b5 1).trans rfl; have c2 : w1.cell? ⟨w.heap.size + 1, 2, none⟩ = some (.int .i64 0) := (blk_cell b5 2).trans rfl; have c3 : w1.cell? ⟨w.heap.size + 1, 3, none⟩ = some (.bool false) := (blk_cell b5 3).trans rfl; have f0 := blk_frozen b5 0; have f1 := blk_frozen b5 1; have f2 := blk_frozen b5 2; have f3 := blk_frozen b5 3; have HB5 := Aside0.mk b5; clear hb b5))
 have HBw := Aside0.mk ((below_alloc (below_alloc (Below.refl w.heap.size w) (.cells #[.string ax, .int .i64 av, .int .i64 aw, .bool ay] 60)) (.cells #[.string ⟨#[]⟩, .int .i64 0, .int .i64 0, .bool false] 60)).trans (HB1.out.mono (by simp; omega)))
 go_region
 go_wp2
 exact bodyPost_ret (v := .tuple #[.int .i64 0, .agg #[.string r1, .int .i64 r2, .int .i64 r3, .bool r4]]) (by simp [results, Try.results62, go_sem, hz, hz0, c0, c1, c2, c3]) rfl ⟨rfl, by repeat (first | exact HBw.out | apply below_alloc | apply below_drew1 | (refine Below.setCell ?_ Z59 _))⟩
set_option maxHeartbeats 8000000 in
set_option maxRecDepth 100000 in
theorem cursor_Num.yes (ax : ByteArray) (av : Int) (aw : Int) (ay : Bool) (a1 : Int) (w : World) (h0 : 1 ≤ a1) (h1 : a1 ≤ 7) (r1 : ByteArray) (r2 r3 : Int) (r4 : Bool) (hs : cursor_step.f ax av aw ay a1 = some (r1, r2, r3, r4, true)) (p0 : 0 ≤ av) (p1 : av ≤ r2) (p2 : r2 ≤ ax.size) (p3 : r2 - av ≤ 7) :
  Calls Try.prog 62 #[.agg #[.string ax, .int .i64 av, .int .i64 aw, .bool ay], .int .i64 a1] w fun e w' => e = .returned (.tuple #[.int .i64 (Pre.numOf (ax.extract av.toNat r2.toNat)), .agg #[.string r1, .int .i64 r2, .int .i64 r3, .bool r4]]) ∧ Below w.heap.size w w' := by
 have ju := Try.underlying60
 have HB := Aside0.mk (Below.refl w.heap.size w)
 have HS := Aside0.mk hs
 clear hs
 have hconv := fun W s => Lib.run_convert_string_bytes (P := Try.prog) W 9 51 5 s Try.underlying9 Try.underlying51 Try.underlying5
 go_enter Try.func62, Try.ntmps62
 go_wp2_with (first | (go_at_call 77; refine (cursor_step.calls _ _ _ _ _ _ _ _ _ _ _ HS.out).mono ?_; rintro e w1 ⟨rfl, hb⟩; have HB1 := Aside0.mk hb; have hz : w.heap.size + 1 < w1.heap.size := (by have := hb.size; simp at this; omega); have hz0 : w.heap.size < w1.heap.size := Z34; have b5 : w1.heap[w.heap.size + 1]? = some (.cells #[.string ⟨#[]⟩, .int .i64 0, .int .i64 0, .bool false] 60 (0, 0)) := (hb.block _ Z59).trans Z98; have b2 : w1.heap[w.heap.size]? = some (.cells #[.string ax, .int .i64 av, .int .i64 aw, .bool ay] 60 (0, 0)) := (hb.block _ (by simp; omega)).trans (Pre.two_blocks w _ _).1; have c0 : w1.cell? ⟨w.heap.size, 0, none⟩ = some (.string ax) := (blk_cell b2 0).trans rfl; have c1 : w1.cell? ⟨w.heap.size, 1, none⟩ = some (.int .i64 av) := (blk_cell b2 1).trans rfl; have HB5 := Aside0.mk b5; clear hb b5 b2))
 obtain ⟨sub, hsub⟩ : ∃ s, s = ax.extract av.toNat r2.toNat := ⟨_, rfl⟩
 have hsz : sub.size = r2.toNat - av.toNat := by rw [hsub, ByteArray.size_extract]; omega
 rw [← hsub, ← hsz]
 have HS2 := Aside0.mk hsub
 have hz7 : sub.size ≤ 7 := by omega
 clear hsub
 obtain ⟨W2, hW2⟩ : ∃ W, W = w1.alloc (.cells #[.string r1, .int .i64 r2, .int .i64 r3, .bool r4] 60) := ⟨_, rfl⟩
 have e2 : W2.heap.size = w1.heap.size + 1 := by rw [hW2]; simp
 obtain ⟨W3, hW3⟩ : ∃ W, W = Lib.bytesWorld W2 5 sub := ⟨_, rfl⟩
 have hcell : ∀ k : Nat, k < sub.size → W3.cell? ⟨w1.heap.size + 1, k, none⟩ = some (.int .u8 (sub.data.toList.getD k 0).toNat) := fun k hk => by rw [hW3, ← e2]; exact Lib.bytesWorld_cell W2 5 sub k hk
 have b6 : W3.heap[w1.heap.size]? = some (.cells #[.string r1, .int .i64 r2, .int .i64 r3, .bool r4] 60 (0, 0)) := by
  rw [hW3, Lib.bytesWorld_at_old _ _ _ _ Z34, hW2]; exact heap_alloc_new _ _
 have b5 : W3.heap[w.heap.size + 1]? = some (.cells #[.string ⟨#[]⟩, .int .i64 0, .int .i64 0, .bool false] 60 (0, 0)) := by
  rw [hW3, Lib.bytesWorld_at_old _ _ _ _ Z34, hW2, (Below.block (below_alloc (Below.refl w1.heap.size w1) _) (w.heap.size + 1) hz)]; exact HB5.out
 have HBw := Aside0.mk (((below_alloc (below_alloc (Below.refl w.heap.size w) (.cells #[.string ax, .int .i64 av, .int .i64 aw, .bool ay] 60)) (.cells #[.string ⟨#[]⟩, .int .i64 0, .int .i64 0, .bool false] 60)).trans (HB1.out.mono (by simp; omega))).trans (((below_alloc (Below.refl w1.heap.size w1) (.cells #[.string r1, .int .i64 r2, .int .i64 r3, .bool r4] 60)).trans ((Pre.below_bytes _ 5 sub).mono Z59)).mono Z34))
 rw [← hW2, ← hW3] at HBw
 rw [← hW2, ← hW3]
 have g0 : W3.cell? ⟨w1.heap.size, 0, none⟩ = some (.string r1) := (blk_cell b6 0).trans rfl
 have g1 : W3.cell? ⟨w1.heap.size, 1, none⟩ = some (.int .i64 r2) := (blk_cell b6 1).trans rfl
 have g2 : W3.cell? ⟨w1.heap.size, 2, none⟩ = some (.int .i64 r3) := (blk_cell b6 2).trans rfl
 have g3 : W3.cell? ⟨w1.heap.size, 3, none⟩ = some (.bool r4) := (blk_cell b6 3).trans rfl
 have k0 : W3.cell? ⟨w.heap.size + 1, 0, none⟩ = some (.string ⟨#[]⟩) := (blk_cell b5 0).trans rfl
 have k1 : W3.cell? ⟨w.heap.size + 1, 1, none⟩ = some (.int .i64 0) := (blk_cell b5 1).trans rfl
 have k2 : W3.cell? ⟨w.heap.size + 1, 2, none⟩ = some (.int .i64 0) := (blk_cell b5 2).trans rfl
 have k3 : W3.cell? ⟨w.heap.size + 1, 3, none⟩ = some (.bool false) := (blk_cell b5 3).trans rfl
 have f0 := blk_frozen b5 0
 have f1 := blk_frozen b5 1
 have f2 := blk_frozen b5 2
 have f3 := blk_frozen b5 3
 have hne : ¬ w1.heap.size = w.heap.size + 1 := by omega
 have hne2 : ¬ w.heap.size + 1 = w1.heap.size := by omega
 have HC := Aside0.mk hcell
 clear hcell hW3 hW2 e2 c0 c1 b5 b6 hconv
 go_loop [8, 37] (fun n i => ∃ (k : Nat) (v : Int), k ≤ sub.size ∧ i = .int .i64 k ∧ n = .int .i64 v ∧ Aside0 (v = ((bytesOf sub).take k).foldl (fun a b => a * 256 + b) 0) ∧ 0 ≤ v ∧ v < 256 ^ k) (fun _ i => sub.size - (intOf i).toNat)
 case atStart => exact ⟨0, 0, Nat.zero_le _, rfl, rfl, ⟨rfl⟩, Z27, Z27⟩
 case round =>
  obtain ⟨k, v, hk, rfl, rfl, HV, hv0, hv1⟩ := hrel
  have hv2 : v < 72057594037927936 := Int.lt_of_lt_of_le hv1 (Pre.pow_le7_ k Z34)
  by_cases hlt : k < sub.size
  ·have hc := HC.out k hlt
   obtain ⟨x, hx⟩ : ∃ x : Int, ((sub.data.toList.getD k 0).toNat : Int) = x := ⟨_, rfl⟩
   rw [hx] at hc
   have hx0 : 0 ≤ x ∧ x ≤ 255 := by have := (sub.data.toList.getD k 0).toNat_lt; omega
   obtain ⟨hxl, hxh⟩ := hx0
   have hv3 : v < 281474976710656 := Int.lt_of_lt_of_le hv1 (Pre.pow_le6_ k Z34)
   have hor : Go.bits .or .i64 (v * 256) x = v * 256 + x := Pre.or_byte hv0 hv3 hxl hxh
   have HX := Aside0.mk hx
   have HV1 := Aside0.mk hv1
   clear hx hv1 hv2
   go_wp2
   go_round
   case rel =>
    refine ⟨k + 1, v * 256 + x, Z34, by go_num, rfl, ⟨?_⟩, Z34, ?_⟩
    ·rw [Pre.fold_take _ k (by rw [bytesOf, List.length_map, data_length]; exact hlt), ← HV.out]
     congr 1
     rw [← HX.out, ← Pre.bt_getD_, ← rd_bytesOf, rd]; simp
    ·rw [Int.pow_succ]; have := HV1.out; omega
   case measure => simp [intOf]; omega
  ·have e : k = sub.size := by omega
   have e2 : v = Pre.numOf sub := by
    rw [HV.out, e, List.take_of_length_le (by rw [bytesOf, List.length_map, data_length]; exact Nat.le_refl _)]; rfl
   have E2 := Aside0.mk e2
   clear e e2 hv1 hv2
   go_wp2
   go_region
   go_wp2
   refine bodyPost_ret (v := .tuple #[.int .i64 v, .agg #[.string r1, .int .i64 r2, .int .i64 r3, .bool r4]]) (by simp [results, Try.results62, go_sem, hz, hz0, g0, g1, g2, g3, k0, k1, k2, k3]) rfl ⟨?_, by repeat (first | exact HBw.out | apply below_alloc | apply below_drew1 | (refine Below.setCell ?_ Z59 _))⟩
   rw [← HS2.out, E2.out]
theorem cursor_Num.calls (ax : ByteArray) (av : Int) (aw : Int) (ay : Bool) (a1 : Int) (r1 : Int) (r2 : ByteArray) (r3 : Int) (r4 : Int) (r5 : Bool) (w : World) (h : cursor_Num.f ax av aw ay a1 = some (r1, r2, r3, r4, r5)) :
  Calls Try.prog 62 #[.agg #[.string ax, .int .i64 av, .int .i64 aw, .bool ay], .int .i64 a1] w fun e w' => e = .returned (.tuple #[.int .i64 r1, .agg #[.string r2, .int .i64 r3, .int .i64 r4, .bool r5]]) ∧ Below w.heap.size w w' := by
 unfold cursor_Num.f at h
 by_cases c : a1 < 1 ∨ 7 < a1
 ·rw [if_pos c] at h
  simp only [Option.some.injEq, Prod.mk.injEq] at h
  obtain ⟨rfl, rfl, rfl, rfl, rfl⟩ := h
  exact cursor_Num.bad _ _ _ _ _ w c
 ·rw [if_neg c] at h
  obtain ⟨⟨s1, s2, s3, s4, s5⟩, hs, h⟩ := Option.bind_eq_some_iff.mp h
  dsimp only at h
  cases s5 with
  | false =>
   rw [if_neg Z27] at h
   simp only [Option.some.injEq, Prod.mk.injEq] at h
   obtain ⟨rfl, rfl, rfl, rfl, rfl⟩ := h
   exact cursor_Num.no _ _ _ _ _ w Z34 Z34 _ _ _ _ hs
  | true =>
   rw [if_pos rfl] at h
   by_cases p : 0 ≤ av ∧ av ≤ s2 ∧ s2 ≤ (ax.size : Int) ∧ s2 - av ≤ 7
   ·rw [if_pos p] at h
    simp only [Option.some.injEq, Prod.mk.injEq] at h
    obtain ⟨rfl, rfl, rfl, rfl, rfl⟩ := h
    exact cursor_Num.yes _ _ _ _ _ w Z34 Z34 _ _ _ _ hs p.1 p.2.1 p.2.2.1 p.2.2.2
   ·rw [if_neg p] at h; cases h

/-! ### cursor_Left: function 76 -/
def cursor_Left.f (ax : ByteArray) (av : Int) (aw : Int) (ay : Bool) : Option (Int) := if ay = true then (some 0) else (some (wrap64 (aw - av)))
set_option maxHeartbeats 8000000 in
set_option maxRecDepth 100000 in
theorem cursor_Left.calls (ax : ByteArray) (av : Int) (aw : Int) (ay : Bool) (r : Int) (w : World) (h : cursor_Left.f ax av aw ay = some r) :
  Calls Try.prog 76 #[.agg #[.string ax, .int .i64 av, .int .i64 aw, .bool ay]] w fun e w' => e = .returned (.int .i64 r) ∧ Below w.heap.size w w' := by
 have ju := Try.underlying60
 have HB := Aside0.mk (Below.refl w.heap.size w)
 have H : (if ay = true then (some 0) else (some (wrap64 (aw - av)))) = some r := h
 clear h
 by_cases c2 : ay = true
 ·subst c2
  replace H := Sq.itT H
  obtain rfl := Option.some.inj H
  go_enter Try.func76, Try.ntmps76
  go_wp2_with (first | ((with_reducible refine gate_dst (N := 1) rfl ?_); refine Sq.box 1 #[.string ax, .int .i64 av, .int .i64 aw, .bool true] 60 ?_; intro ab hg w3 hbox hb; have aa := Aside0.mk (hbox); have bR := Aside0.mk (Sq.ge hg Z1); have bf := Aside0.mk (Sq.ge hg Z1); replace HB := Aside0.mk (below_step Z1 hb); clear hb hbox hg; have jL := cells_4 aa.out))
  go_ret
  exact ⟨Z5, Z0⟩
 ·replace c2 := Bool.eq_false_iff.mpr c2
  subst c2
  replace H := Sq.itF H
  obtain rfl := Option.some.inj H
  go_enter Try.func76, Try.ntmps76
  go_wp2_with (first | ((with_reducible refine gate_dst (N := 1) rfl ?_); refine Sq.box 1 #[.string ax, .int .i64 av, .int .i64 aw, .bool false] 60 ?_; intro ab hg w5 hbox hb; have aa := Aside0.mk (hbox); have bR := Aside0.mk (Sq.ge hg Z1); have bf := Aside0.mk (Sq.ge hg Z1); replace HB := Aside0.mk (below_step Z1 hb); clear hb hbox hg; have sZ := cells_4 aa.out))
  go_ret
  exact ⟨Z5, Z0⟩

end Go.Proofs.Ytccjakjjaemmkaa.PAP
