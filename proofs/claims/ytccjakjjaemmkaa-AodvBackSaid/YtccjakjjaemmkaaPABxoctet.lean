-- Written by mp.py, a program of this work (wip/tools), out of the translation; Lean checks it.
import Derived.Test.YtccjakjjaemmkaaPABxZ
import Derived.Test.YtccjakjjaemmkaaConv
import Derived.RegionTactic
import Derived.ChangeAlike
namespace Go.Proofs.Ytccjakjjaemmkaa.PAB
open Go.RowKit Go.Proofs.YtccjakjjaemmkaaW.PrintWords Go.Proofs.YtccjakjjaemmkaaW.PrintLast Go.Proofs.YtccjakjjaemmkaaW.PrintMore
attribute [local go_sem] max2_int min2_int max_two min_two max_three min_three max_four min_four   -- for this text's walks alone
set_option linter.unusedVariables false
set_option linter.unusedSimpArgs false

/-! ### cursor_step: function 77 -/
def cursor_step.f (ax : ByteArray) (av : Int) (aw : Int) (ay : Bool) (a1 : Int) : Option (ByteArray × Int × Int × Bool × Bool) := if ay = true then (some (ax, av, aw, true, false)) else (if a1 < 0 then (some (ax, av, aw, true, false)) else (if a1 > (wrap64 (aw - av)) then (some (ax, av, aw, true, false)) else (some (ax, wrap64 (av + a1), aw, ay, true))))
set_option maxHeartbeats 8000000 in
set_option maxRecDepth 100000 in
theorem cursor_step.calls (ax : ByteArray) (av : Int) (aw : Int) (ay : Bool) (a1 : Int) (r1 : ByteArray) (r2 : Int) (r3 : Int) (r4 : Bool) (r5 : Bool) (w : World) (h : cursor_step.f ax av aw ay a1 = some (r1, r2, r3, r4, r5)) :
  Calls Try.prog 77 #[.agg #[.string ax, .int .i64 av, .int .i64 aw, .bool ay], .int .i64 a1] w fun e w' => e = .returned (.tuple #[.agg #[.string r1, .int .i64 r2, .int .i64 r3, .bool r4], .bool r5]) ∧ Below w.heap.size w w' := by
 have ie := Try.underlying60
 have HB := Aside0.mk (Below.refl w.heap.size w)
 have H : (if ay = true then (some (ax, av, aw, true, false)) else (if a1 < 0 then (some (ax, av, aw, true, false)) else (if a1 > (wrap64 (aw - av)) then (some (ax, av, aw, true, false)) else (some (ax, wrap64 (av + a1), aw, ay, true))))) = some (r1, r2, r3, r4, r5) := h
 clear h
 by_cases c3 : ay = true
 ·subst c3
  have H1 : (some (ax, av, aw, true, false)) = some (r1, r2, r3, r4, r5) := by rw [if_pos rfl] at H; exact H
  clear H
  have H := H1
  clear H1
  simp only [Option.some.injEq, Prod.mk.injEq] at H
  obtain ⟨rfl, rfl, rfl, rfl, rfl⟩ := H
  go_enter Try.func77, Try.ntmps77
  go_wp2_with (first | ((with_reducible refine gate_dst (N := 2) rfl ?_); refine Sq.box 2 #[.string ax, .int .i64 av, .int .i64 aw, .bool true] 60 ?_; intro ag hg w4 hbox hb; have ae := Aside0.mk (hbox); have cp := Aside0.mk (Sq.ge hg Z1); have bm := Aside0.mk (Sq.ge hg Z1); replace HB := Aside0.mk (below_step Z1 hb); clear hb hbox hg) | ((with_reducible refine gate_dst (N := 4) rfl ?_); refine Sq.box 4 #[.string ⟨#[]⟩, .int .i64 0, .int .i64 0, .bool false] 60 ?_; intro aI hg w5 hbox hb; have aN := Aside0.mk (hbox); have fj := Aside0.mk (Sq.ge hg Z0); have ew := Aside0.mk (Sq.ge hg Z0); have aQ := Aside0.mk (Sq.nl hg (blk_lt (g := ag) (o := .cells #[.string ax, .int .i64 av, .int .i64 aw, .bool true] 60 (0, 0)) Z2)); have bj := Aside0.mk (Sq.ng hg (blk_lt (g := ag) (o := .cells #[.string ax, .int .i64 av, .int .i64 aw, .bool true] 60 (0, 0)) Z2)); replace ae := Aside0.mk (blk_below (g := ag) (o := .cells #[.string ax, .int .i64 av, .int .i64 aw, .bool true] 60 (0, 0)) Z2 hb); replace HB := Aside0.mk (below_step Z0 hb); clear hb hbox hg; have hnb6 := aQ.out; have hnc6 := bj.out; have iO := cells_4 ae.out; have nX := cells_4 aN.out))
  refine bodyPost_ret (results_ct rfl _ _ aI 60 _ (0, 0) _ rfl Z34 Try.underlying60 rfl Z14) rfl ?_
  exact ⟨Z5, Z12⟩
 ·replace c3 := Bool.eq_false_iff.mpr c3
  subst c3
  have H1 : (if a1 < 0 then (some (ax, av, aw, true, false)) else (if a1 > (wrap64 (aw - av)) then (some (ax, av, aw, true, false)) else (some (ax, wrap64 (av + a1), aw, false, true)))) = some (r1, r2, r3, r4, r5) := by rw [if_neg (show ¬ (false = true) by decide)] at H; exact H
  clear H
  have H := H1
  clear H1
  by_cases c9 : a1 < 0
  ·rw [if_pos c9] at H
   have ic : decide (a1 < 0) = true := decide_eq_true c9
   clear c9
   simp only [Option.some.injEq, Prod.mk.injEq] at H
   obtain ⟨rfl, rfl, rfl, rfl, rfl⟩ := H
   go_enter Try.func77, Try.ntmps77
   go_wp2_with (first | ((with_reducible refine gate_dst (N := 2) rfl ?_); refine Sq.box 2 #[.string ax, .int .i64 av, .int .i64 aw, .bool false] 60 ?_; intro ag hg rN hbox hb; have ae := Aside0.mk (hbox); have cp := Aside0.mk (Sq.ge hg Z1); have bm := Aside0.mk (Sq.ge hg Z1); replace HB := Aside0.mk (below_step Z1 hb); clear hb hbox hg) | ((with_reducible refine gate_dst (N := 4) rfl ?_); refine Sq.box 4 #[.string ⟨#[]⟩, .int .i64 0, .int .i64 0, .bool false] 60 ?_; intro aI hg ln hbox hb; have aN := Aside0.mk (hbox); have fj := Aside0.mk (Sq.ge hg Z0); have ew := Aside0.mk (Sq.ge hg Z0); have aQ := Aside0.mk (Sq.nl hg (blk_lt (g := ag) (o := .cells #[.string ax, .int .i64 av, .int .i64 aw, .bool false] 60 (0, 0)) Z2)); have bj := Aside0.mk (Sq.ng hg (blk_lt (g := ag) (o := .cells #[.string ax, .int .i64 av, .int .i64 aw, .bool false] 60 (0, 0)) Z2)); replace ae := Aside0.mk (blk_below (g := ag) (o := .cells #[.string ax, .int .i64 av, .int .i64 aw, .bool false] 60 (0, 0)) Z2 hb); replace HB := Aside0.mk (below_step Z0 hb); clear hb hbox hg; have hnb12 := aQ.out; have hnc12 := bj.out; have mY := cells_4 ae.out; have iH := cells_4 aN.out))
   refine bodyPost_ret (results_ct rfl _ _ aI 60 _ (0, 0) _ rfl Z34 Try.underlying60 rfl Z14) rfl ?_
   exact ⟨Z5, Z12⟩
  ·rw [if_neg c9] at H
   have ic : decide (a1 < 0) = false := decide_eq_false c9
   clear c9
   by_cases eB : a1 > (wrap64 (aw - av))
   ·rw [if_pos eB] at H
    have hL : decide ((wrap64 (aw - av)) < a1) = true := decide_eq_true eB
    clear eB
    simp only [Option.some.injEq, Prod.mk.injEq] at H
    obtain ⟨rfl, rfl, rfl, rfl, rfl⟩ := H
    go_enter Try.func77, Try.ntmps77
    go_wp2_with (first | ((with_reducible refine gate_dst (N := 2) rfl ?_); refine Sq.box 2 #[.string ax, .int .i64 av, .int .i64 aw, .bool false] 60 ?_; intro ag hg jG hbox hb; have ae := Aside0.mk (hbox); have cp := Aside0.mk (Sq.ge hg Z1); have bm := Aside0.mk (Sq.ge hg Z1); replace HB := Aside0.mk (below_step Z1 hb); clear hb hbox hg) | ((with_reducible refine gate_dst (N := 4) rfl ?_); refine Sq.box 4 #[.string ⟨#[]⟩, .int .i64 0, .int .i64 0, .bool false] 60 ?_; intro aI hg iP hbox hb; have aN := Aside0.mk (hbox); have fj := Aside0.mk (Sq.ge hg Z0); have ew := Aside0.mk (Sq.ge hg Z0); have aQ := Aside0.mk (Sq.nl hg (blk_lt (g := ag) (o := .cells #[.string ax, .int .i64 av, .int .i64 aw, .bool false] 60 (0, 0)) Z2)); have bj := Aside0.mk (Sq.ng hg (blk_lt (g := ag) (o := .cells #[.string ax, .int .i64 av, .int .i64 aw, .bool false] 60 (0, 0)) Z2)); replace ae := Aside0.mk (blk_below (g := ag) (o := .cells #[.string ax, .int .i64 av, .int .i64 aw, .bool false] 60 (0, 0)) Z2 hb); replace HB := Aside0.mk (below_step Z0 hb); clear hb hbox hg; have pq := aQ.out; have pr := bj.out; have jo := cells_4 ae.out; have kb := cells_4 aN.out))
    refine bodyPost_ret (results_ct rfl _ _ aI 60 _ (0, 0) _ rfl Z34 Try.underlying60 rfl Z14) rfl ?_
    exact ⟨Z5, Z12⟩
   ·rw [if_neg eB] at H
    have hL : decide ((wrap64 (aw - av)) < a1) = false := decide_eq_false eB
    clear eB
    simp only [Option.some.injEq, Prod.mk.injEq] at H
    obtain ⟨rfl, rfl, rfl, rfl, rfl⟩ := H
    go_enter Try.func77, Try.ntmps77
    go_wp2_with (first | ((with_reducible refine gate_dst (N := 2) rfl ?_); refine Sq.box 2 #[.string ax, .int .i64 av, .int .i64 aw, .bool false] 60 ?_; intro ag hg oN hbox hb; have ae := Aside0.mk (hbox); have cp := Aside0.mk (Sq.ge hg Z1); have bm := Aside0.mk (Sq.ge hg Z1); replace HB := Aside0.mk (below_step Z1 hb); clear hb hbox hg) | ((with_reducible refine gate_dst (N := 4) rfl ?_); refine Sq.box 4 #[.string ⟨#[]⟩, .int .i64 0, .int .i64 0, .bool false] 60 ?_; intro aI hg mN hbox hb; have aN := Aside0.mk (hbox); have fj := Aside0.mk (Sq.ge hg Z0); have ew := Aside0.mk (Sq.ge hg Z0); have aQ := Aside0.mk (Sq.nl hg (blk_lt (g := ag) (o := .cells #[.string ax, .int .i64 av, .int .i64 aw, .bool false] 60 (0, 0)) Z2)); have bj := Aside0.mk (Sq.ng hg (blk_lt (g := ag) (o := .cells #[.string ax, .int .i64 av, .int .i64 aw, .bool false] 60 (0, 0)) Z2)); replace ae := Aside0.mk (blk_below (g := ag) (o := .cells #[.string ax, .int .i64 av, .int .i64 aw, .bool false] 60 (0, 0)) Z2 hb); replace HB := Aside0.mk (below_step Z0 hb); clear hb hbox hg; have hnb23 := aQ.out; have hnc23 := bj.out; have mV := cells_4 ae.out; have kd := cells_4 aN.out))
    refine bodyPost_ret (results_ct rfl _ _ aI 60 _ (0, 0) _ rfl Z34 Try.underlying60 rfl Z14) rfl ?_
    exact ⟨Z5, Z12⟩

/-! ### cursor_Text: function 60 -/
def cursor_Text.f (ax : ByteArray) (av : Int) (aw : Int) (ay : Bool) (a1 : Int) : Option (ByteArray × ByteArray × Int × Int × Bool) := (cursor_step.f ax av aw ay a1).bind fun bu => (if bu.2.2.2.2 = true then (if 0 ≤ av then (if av ≤ bu.2.1 then (if bu.2.1 ≤ (ax.size : Int) then (some (ax.extract (av : Int).toNat (bu.2.1 : Int).toNat, bu.1, bu.2.1, bu.2.2.1, bu.2.2.2.1)) else (none)) else (none)) else (none)) else (some ((⟨#[]⟩ : ByteArray), bu.1, bu.2.1, bu.2.2.1, bu.2.2.2.1)))
def cursor_Text.T4 : Bool × List (List Nat × List Nat) := (true, [([], []), ([0], [0]), ([], []), ([2], [2]), ([], []), ([4], [4]), ([1, 3, 5], [1, 3, 5]), ([], []), ([6, 0, 1, 2, 3, 4, 5, 6], [6]), ([7, 8, 0, 1, 2, 3, 4, 5, 6, 7, 8], [7])])
def cursor_Text.B4 : List Nat := [0, 1, 0, 4, 0, 16, 63, 0, 127, 511]
theorem cursor_Text.tab4 : rtab .any (opsOf Try.f60 4) = cursor_Text.T4 := by kernel_rfl
theorem cursor_Text.bits4 : waitsOk cursor_Text.T4.2 cursor_Text.B4 = true := by kernel_rfl
set_option maxHeartbeats 8000000 in
set_option maxRecDepth 100000 in
theorem cursor_Text.calls (ax : ByteArray) (av : Int) (aw : Int) (ay : Bool) (a1 : Int) (r1 : ByteArray) (r2 : ByteArray) (r3 : Int) (r4 : Int) (r5 : Bool) (w : World) (h : cursor_Text.f ax av aw ay a1 = some (r1, r2, r3, r4, r5)) :
  Calls Try.prog 60 #[.agg #[.string ax, .int .i64 av, .int .i64 aw, .bool ay], .int .i64 a1] w fun e w' => e = .returned (.tuple #[.string r1, .agg #[.string r2, .int .i64 r3, .int .i64 r4, .bool r5]]) ∧ Below w.heap.size w w' := by
 have ie := Try.underlying60
 have HB := Aside0.mk (Below.refl w.heap.size w)
 have H : ((cursor_step.f ax av aw ay a1).bind fun bu => (if bu.2.2.2.2 = true then (if 0 ≤ av then (if av ≤ bu.2.1 then (if bu.2.1 ≤ (ax.size : Int) then (some (ax.extract (av : Int).toNat (bu.2.1 : Int).toNat, bu.1, bu.2.1, bu.2.2.1, bu.2.2.2.1)) else (none)) else (none)) else (none)) else (some ((⟨#[]⟩ : ByteArray), bu.1, bu.2.1, bu.2.2.1, bu.2.2.2.1)))) = some (r1, r2, r3, r4, r5) := h
 clear h
 replace H := Option.bind_eq_some_iff.mp H
 obtain ⟨⟨aW, aY, bq, aT, cu⟩, ma, H⟩ := H
 replace H : (if cu = true then (if 0 ≤ av then (if av ≤ aY then (if aY ≤ (ax.size : Int) then (some (ax.extract (av : Int).toNat (aY : Int).toNat, aW, aY, bq, aT)) else (none)) else (none)) else (none)) else (some ((⟨#[]⟩ : ByteArray), aW, aY, bq, aT))) = some (r1, r2, r3, r4, r5) := H
 have A3 := Aside0.mk ma
 clear ma
 by_cases c4 : cu = true
 ·subst c4
  have H1 : (if 0 ≤ av then (if av ≤ aY then (if aY ≤ (ax.size : Int) then (some (ax.extract (av : Int).toNat (aY : Int).toNat, aW, aY, bq, aT)) else (none)) else (none)) else (none)) = some (r1, r2, r3, r4, r5) := by rw [if_pos rfl] at H; exact H
  clear H
  have H := H1
  clear H1
  by_cases c5 : 0 ≤ av
  ·rw [if_pos c5] at H
   have fM := eq_true c5
   have ib : decide (0 ≤ av) = true := decide_eq_true c5
   clear c5
   by_cases c6 : av ≤ aY
   ·rw [if_pos c6] at H
    have fg := eq_true c6
    have fQ : decide (av ≤ aY) = true := decide_eq_true c6
    clear c6
    by_cases c7 : aY ≤ (ax.size : Int)
    ·rw [if_pos c7] at H
     have fp := eq_true c7
     have jF : decide (aY ≤ (ax.size : Int)) = true := decide_eq_true c7
     clear c7
     simp only [Option.some.injEq, Prod.mk.injEq] at H
     obtain ⟨rfl, rfl, rfl, rfl, rfl⟩ := H
     go_enter Try.func60, Try.ntmps60
     try go_wp2_with (first | ((with_reducible refine gate_dst (N := 2) rfl ?_); refine Sq.box 2 #[.string ax, .int .i64 av, .int .i64 aw, .bool ay] 60 ?_; intro ag hg w8 hbox hb; have ae := Aside0.mk (hbox); have cp := Aside0.mk (Sq.ge hg Z1); have bm := Aside0.mk (Sq.ge hg Z1); replace HB := Aside0.mk (below_step Z1 hb); clear hb hbox hg) | ((with_reducible refine gate_dst (N := 5) rfl ?_); refine Sq.box 5 #[.string ⟨#[]⟩, .int .i64 0, .int .i64 0, .bool false] 60 ?_; intro aI hg w9 hbox hb; have aN := Aside0.mk (hbox); have fj := Aside0.mk (Sq.ge hg Z0); have ew := Aside0.mk (Sq.ge hg Z0); have aQ := Aside0.mk (Sq.nl hg (blk_lt (g := ag) (o := .cells #[.string ax, .int .i64 av, .int .i64 aw, .bool ay] 60 (0, 0)) Z2)); have bj := Aside0.mk (Sq.ng hg (blk_lt (g := ag) (o := .cells #[.string ax, .int .i64 av, .int .i64 aw, .bool ay] 60 (0, 0)) Z2)); replace ae := Aside0.mk (blk_below (g := ag) (o := .cells #[.string ax, .int .i64 av, .int .i64 aw, .bool ay] 60 (0, 0)) Z2 hb); replace HB := Aside0.mk (below_step Z0 hb); clear hb hbox hg; have hnb10 := aQ.out; have hnc10 := bj.out; have jY := cells_4 ae.out) | ((with_reducible refine gate_callee (f := 77) rfl ?_); refine goesL_ (some 11) rfl rfl Try.func77 Z14 rfl #[.agg #[.string ax, .int .i64 av, .int .i64 aw, .bool ay], .int .i64 a1] rfl Z4 ?_; (with_reducible refine (cursor_step.calls ax av aw ay a1 aW aY bq aT true _ A3.out).mono ?_); rintro e po ⟨rfl, hb⟩; refine ⟨_, rfl, ?_⟩; replace ae := Aside0.mk (blk_below (g := ag) (o := .cells #[.string ax, .int .i64 av, .int .i64 aw, .bool ay] 60 (0, 0)) Z2 hb); replace aN := Aside0.mk (blk_below (g := aI) (o := .cells #[.string ⟨#[]⟩, .int .i64 0, .int .i64 0, .bool false] 60 (0, 0)) Z19 hb); replace HB := Aside0.mk (below_step Z12 hb); clear hb) | ((with_reducible refine gate_dst (N := 6) rfl ?_); refine Sq.box 6 #[.string ⟨#[]⟩, .int .i64 0, .int .i64 0, .bool false] 60 ?_; intro cb hg ja hbox hb; have eh := Aside0.mk (hbox); have qE := Aside0.mk (Sq.ge hg Z12); have nq := Aside0.mk (Sq.ge hg Z12); have eH := Aside0.mk (Sq.nl hg (blk_lt (g := ag) (o := .cells #[.string ax, .int .i64 av, .int .i64 aw, .bool ay] 60 (0, 0)) Z2)); have gZ := Aside0.mk (Sq.ng hg (blk_lt (g := ag) (o := .cells #[.string ax, .int .i64 av, .int .i64 aw, .bool ay] 60 (0, 0)) Z2)); have cO := Aside0.mk (Sq.nl hg (blk_lt (g := aI) (o := .cells #[.string ⟨#[]⟩, .int .i64 0, .int .i64 0, .bool false] 60 (0, 0)) Z19)); have aX := Aside0.mk (Sq.ng hg (blk_lt (g := aI) (o := .cells #[.string ⟨#[]⟩, .int .i64 0, .int .i64 0, .bool false] 60 (0, 0)) Z19)); replace ae := Aside0.mk (blk_below (g := ag) (o := .cells #[.string ax, .int .i64 av, .int .i64 aw, .bool ay] 60 (0, 0)) Z2 hb); replace aN := Aside0.mk (blk_below (g := aI) (o := .cells #[.string ⟨#[]⟩, .int .i64 0, .int .i64 0, .bool false] 60 (0, 0)) Z19 hb); replace HB := Aside0.mk (below_step Z12 hb); clear hb hbox hg; have hnb14 := gZ.out; have hnc14 := eH.out; have hnb15 := aX.out; have hnc15 := cO.out; have jn := cells_4 eh.out))
     have bY : Aside0 (((((ja.setCell ⟨cb, 0, none⟩ (.string aW)).setCell ⟨cb, 1, none⟩ (.int .i64 aY)).setCell ⟨cb, 2, none⟩ (.int .i64 bq)).setCell ⟨cb, 3, none⟩ (.bool aT)).heap[ag]? = some (.cells #[.string ax, .int .i64 av, .int .i64 aw, .bool ay] 60 (0, 0))) := ⟨Z55⟩
     have ca : Aside0 (((((ja.setCell ⟨cb, 0, none⟩ (.string aW)).setCell ⟨cb, 1, none⟩ (.int .i64 aY)).setCell ⟨cb, 2, none⟩ (.int .i64 bq)).setCell ⟨cb, 3, none⟩ (.bool aT)).heap[aI]? = some (.cells #[.string ⟨#[]⟩, .int .i64 0, .int .i64 0, .bool false] 60 (0, 0))) := ⟨Z54⟩
     have cZ : Aside0 (((((ja.setCell ⟨cb, 0, none⟩ (.string aW)).setCell ⟨cb, 1, none⟩ (.int .i64 aY)).setCell ⟨cb, 2, none⟩ (.int .i64 bq)).setCell ⟨cb, 3, none⟩ (.bool aT)).heap[cb]? = some (.cells #[.string aW, .int .i64 aY, .int .i64 bq, .bool aT] 60 (0, 0))) := ⟨Z84⟩
     have ex : Aside0 (Below w.heap.size w ((((ja.setCell ⟨cb, 0, none⟩ (.string aW)).setCell ⟨cb, 1, none⟩ (.int .i64 aY)).setCell ⟨cb, 2, none⟩ (.int .i64 bq)).setCell ⟨cb, 3, none⟩ (.bool aT))) := ⟨Z52⟩
     (try clear ae)
     (try clear aN)
     (try clear eh)
     (try clear HB)
     generalize ((((ja.setCell ⟨cb, 0, none⟩ (.string aW)).setCell ⟨cb, 1, none⟩ (.int .i64 aY)).setCell ⟨cb, 2, none⟩ (.int .i64 bq)).setCell ⟨cb, 3, none⟩ (.bool aT)) = iP at bY ca cZ ex ⊢
     have ae := bY
     have aN := ca
     have eh := cZ
     have HB := ex
     clear bY ca cZ ex
     have bY := Aside0.mk (blk_drew ae.out)
     have ca := Aside0.mk (blk_drew aN.out)
     have cZ := Aside0.mk (blk_drew eh.out)
     have ex := Aside0.mk (below_drew1 HB.out)
     clear ae
     clear aN
     clear eh
     clear HB
     have ae := bY
     have aN := ca
     have eh := cZ
     have HB := ex
     clear bY ca cZ ex
     refine start_ (n := 10) (S := fun w' => w'.cell? ⟨ag, 0, none⟩ = some (.string ax) ∧ w'.cell? ⟨ag, 1, none⟩ = some (.int .i64 av) ∧ w'.cell? ⟨ag, 2, none⟩ = some (.int .i64 aw) ∧ w'.cell? ⟨ag, 3, none⟩ = some (.bool ay) ∧ w'.cell? ⟨cb, 0, none⟩ = some (.string aW) ∧ w'.cell? ⟨cb, 1, none⟩ = some (.int .i64 aY) ∧ w'.cell? ⟨cb, 2, none⟩ = some (.int .i64 bq) ∧ w'.cell? ⟨cb, 3, none⟩ = some (.bool aT)) (ds := []) (Sq.b 10 0) Z14 rfl rfl ⟨Sq.bc ae 0, Sq.bc ae 1, Sq.bc ae 2, Sq.bc ae 3, Sq.bc eh 0, Sq.bc eh 1, Sq.bc eh 2, Sq.bc eh 3⟩ (fun hHeld => ?_); refine with_tabW cursor_Text.tab4 cursor_Text.bits4 (fun HT_ HW_ => ?_)
     generalize iP.drew = li at ae aN eh HB hHeld ⊢
     refine Sq.pur 0 (some 17) (Sq.b 10 1) HT_.out ?_
     refine Sq.pur 2 (some 19) (Sq.b 10 5) HT_.out ?_
     refine Sq.pur 4 (some 21) (Sq.b 10 21) HT_.out ?_
     refine Sq.tak 1 (some 18) (Sq.b 10 23) HT_.out HW_.out hHeld (v := ?_) (a' := ?_) ?_ ?_ ?_
     rotate_left
     ·rintro w' ⟨s0, s1, s2, s3, s4, s5, s6, s7⟩
      go_simp
      with_reducible rfl
     rotate_left
     ·simp only [Act.put, Sq.s1, Sq.s2, Sq.s3, i64_w, i32_w]
      rfl
     refine Sq.tak 3 (some 20) (Sq.b 10 31) HT_.out HW_.out hHeld (v := ?_) (a' := ?_) ?_ ?_ ?_
     rotate_left
     ·rintro w' ⟨s0, s1, s2, s3, s4, s5, s6, s7⟩
      go_simp
      with_reducible rfl
     rotate_left
     ·simp only [Act.put, Sq.s1, Sq.s2, Sq.s3, i64_w, i32_w]
      rfl
     refine Sq.tak 5 (some 22) (Sq.b 10 63) HT_.out HW_.out hHeld (v := ?_) (a' := ?_) ?_ ?_ ?_
     rotate_left
     ·rintro w' ⟨s0, s1, s2, s3, s4, s5, s6, s7⟩
      go_simp
      with_reducible rfl
     rotate_left
     ·simp only [Act.put, Sq.s1, Sq.s2, Sq.s3, i64_w, i32_w]
      rfl
     refine Sq.pur 6 (some 23) (Sq.b 10 127) HT_.out ?_
     refine Sq.pur 8 (some 4) (Sq.b 10 383) HT_.out ?_
     refine Sq.tak 7 (some 24) (Sq.b 10 511) HT_.out HW_.out hHeld (v := ?_) (a' := ?_) ?_ ?_ ?_
     rotate_left
     ·rintro w' ⟨s0, s1, s2, s3, s4, s5, s6, s7⟩
      go_simp
      with_reducible rfl
     rotate_left
     ·simp only [Act.put, Sq.s1, Sq.s2, Sq.s3, i64_w, i32_w]
      rfl
     refine one_ (i := 9) (N := none) (Sq.b 10 1023) rfl rfl (one_of HT_.out Z14) Z29 (fun K hK => ?_)
     have hs19 : li.cell? ⟨aI, 0, none⟩ = some (.string ⟨#[]⟩) := (blk_cell aN.out 0).trans rfl
     have hfs19 := blk_frozen aN.out 0
     have hns19_0 := aQ.out
     have hns19_2 := aX.out
     have hms19_0 := bj.out
     have hms19_2 := cO.out
     have hs20 : li.cell? ⟨aI, 1, none⟩ = some (.int .i64 0) := (blk_cell aN.out 1).trans rfl
     have hfs20 := blk_frozen aN.out 1
     have hns20_0 := aQ.out
     have hns20_2 := aX.out
     have hms20_0 := bj.out
     have hms20_2 := cO.out
     have hs21 : li.cell? ⟨aI, 2, none⟩ = some (.int .i64 0) := (blk_cell aN.out 2).trans rfl
     have hfs21 := blk_frozen aN.out 2
     have hns21_0 := aQ.out
     have hns21_2 := aX.out
     have hms21_0 := bj.out
     have hms21_2 := cO.out
     have hs22 : li.cell? ⟨aI, 3, none⟩ = some (.bool false) := (blk_cell aN.out 3).trans rfl
     have hfs22 := blk_frozen aN.out 3
     have hns22_0 := aQ.out
     have hns22_2 := aX.out
     have hms22_0 := bj.out
     have hms22_2 := cO.out
     refine skip_ (w1 := ?_) Z23 rfl ?_ ?_
     rotate_left
     ·go_simp
      rfl
     refine hK.out _ _ ⟨((cell_far (p := ⟨aI, _, none⟩) aQ.out _).trans (((cell_far (p := ⟨aI, _, none⟩) aQ.out _).trans (((cell_far (p := ⟨aI, _, none⟩) aQ.out _).trans (((cell_far (p := ⟨aI, _, none⟩) aQ.out _).trans (hHeld.1)))))))), ((cell_far (p := ⟨aI, _, none⟩) aQ.out _).trans (((cell_far (p := ⟨aI, _, none⟩) aQ.out _).trans (((cell_far (p := ⟨aI, _, none⟩) aQ.out _).trans (((cell_far (p := ⟨aI, _, none⟩) aQ.out _).trans (hHeld.2.1)))))))), ((cell_far (p := ⟨aI, _, none⟩) aQ.out _).trans (((cell_far (p := ⟨aI, _, none⟩) aQ.out _).trans (((cell_far (p := ⟨aI, _, none⟩) aQ.out _).trans (((cell_far (p := ⟨aI, _, none⟩) aQ.out _).trans (hHeld.2.2.1)))))))), ((cell_far (p := ⟨aI, _, none⟩) aQ.out _).trans (((cell_far (p := ⟨aI, _, none⟩) aQ.out _).trans (((cell_far (p := ⟨aI, _, none⟩) aQ.out _).trans (((cell_far (p := ⟨aI, _, none⟩) aQ.out _).trans (hHeld.2.2.2.1)))))))), ((cell_far (p := ⟨aI, _, none⟩) aX.out _).trans (((cell_far (p := ⟨aI, _, none⟩) aX.out _).trans (((cell_far (p := ⟨aI, _, none⟩) aX.out _).trans (((cell_far (p := ⟨aI, _, none⟩) aX.out _).trans (hHeld.2.2.2.2.1)))))))), ((cell_far (p := ⟨aI, _, none⟩) aX.out _).trans (((cell_far (p := ⟨aI, _, none⟩) aX.out _).trans (((cell_far (p := ⟨aI, _, none⟩) aX.out _).trans (((cell_far (p := ⟨aI, _, none⟩) aX.out _).trans (hHeld.2.2.2.2.2.1)))))))), ((cell_far (p := ⟨aI, _, none⟩) aX.out _).trans (((cell_far (p := ⟨aI, _, none⟩) aX.out _).trans (((cell_far (p := ⟨aI, _, none⟩) aX.out _).trans (((cell_far (p := ⟨aI, _, none⟩) aX.out _).trans (hHeld.2.2.2.2.2.2.1)))))))), ((cell_far (p := ⟨aI, _, none⟩) aX.out _).trans (((cell_far (p := ⟨aI, _, none⟩) aX.out _).trans (((cell_far (p := ⟨aI, _, none⟩) aX.out _).trans (((cell_far (p := ⟨aI, _, none⟩) aX.out _).trans (hHeld.2.2.2.2.2.2.2))))))))⟩ (fun hHeld => ?_)
     clear hK K
     refine done_ (done_of HT_.out Z14) ?_
     try go_wp2
     refine bodyPost_ret (results_tc rfl _ _ aI 60 #[.string aW, .int .i64 aY, .int .i64 bq, .bool aT] (0, 0) _ rfl Z85 Try.underlying60 rfl Z14) rfl ?_
     exact ⟨Z5, Z52⟩
    ·rw [if_neg c7] at H
     exact absurd H Z71
   ·rw [if_neg c6] at H
    exact absurd H Z71
  ·rw [if_neg c5] at H
   exact absurd H Z71
 ·replace c4 := Bool.eq_false_iff.mpr c4
  subst c4
  have H1 : (some ((⟨#[]⟩ : ByteArray), aW, aY, bq, aT)) = some (r1, r2, r3, r4, r5) := by rw [if_neg (show ¬ (false = true) by decide)] at H; exact H
  clear H
  have H := H1
  clear H1
  simp only [Option.some.injEq, Prod.mk.injEq] at H
  obtain ⟨rfl, rfl, rfl, rfl, rfl⟩ := H
  go_enter Try.func60, Try.ntmps60
  try go_wp2_with (first | ((with_reducible refine gate_dst (N := 2) rfl ?_); refine Sq.box 2 #[.string ax, .int .i64 av, .int .i64 aw, .bool ay] 60 ?_; intro ag hg jS hbox hb; have ae := Aside0.mk (hbox); have cp := Aside0.mk (Sq.ge hg Z1); have bm := Aside0.mk (Sq.ge hg Z1); replace HB := Aside0.mk (below_step Z1 hb); clear hb hbox hg) | ((with_reducible refine gate_dst (N := 5) rfl ?_); refine Sq.box 5 #[.string ⟨#[]⟩, .int .i64 0, .int .i64 0, .bool false] 60 ?_; intro aI hg oa hbox hb; have aN := Aside0.mk (hbox); have fj := Aside0.mk (Sq.ge hg Z0); have ew := Aside0.mk (Sq.ge hg Z0); have aQ := Aside0.mk (Sq.nl hg (blk_lt (g := ag) (o := .cells #[.string ax, .int .i64 av, .int .i64 aw, .bool ay] 60 (0, 0)) Z2)); have bj := Aside0.mk (Sq.ng hg (blk_lt (g := ag) (o := .cells #[.string ax, .int .i64 av, .int .i64 aw, .bool ay] 60 (0, 0)) Z2)); replace ae := Aside0.mk (blk_below (g := ag) (o := .cells #[.string ax, .int .i64 av, .int .i64 aw, .bool ay] 60 (0, 0)) Z2 hb); replace HB := Aside0.mk (below_step Z0 hb); clear hb hbox hg; have qF := aQ.out; have qG := bj.out; have hh := cells_4 ae.out) | ((with_reducible refine gate_callee (f := 77) rfl ?_); refine goesL_ (some 11) rfl rfl Try.func77 Z14 rfl #[.agg #[.string ax, .int .i64 av, .int .i64 aw, .bool ay], .int .i64 a1] rfl Z4 ?_; (with_reducible refine (cursor_step.calls ax av aw ay a1 aW aY bq aT false _ A3.out).mono ?_); rintro e mi ⟨rfl, hb⟩; refine ⟨_, rfl, ?_⟩; replace ae := Aside0.mk (blk_below (g := ag) (o := .cells #[.string ax, .int .i64 av, .int .i64 aw, .bool ay] 60 (0, 0)) Z2 hb); replace aN := Aside0.mk (blk_below (g := aI) (o := .cells #[.string ⟨#[]⟩, .int .i64 0, .int .i64 0, .bool false] 60 (0, 0)) Z19 hb); replace HB := Aside0.mk (below_step Z12 hb); clear hb) | ((with_reducible refine gate_dst (N := 6) rfl ?_); refine Sq.box 6 #[.string ⟨#[]⟩, .int .i64 0, .int .i64 0, .bool false] 60 ?_; intro cb hg nr hbox hb; have eh := Aside0.mk (hbox); have qE := Aside0.mk (Sq.ge hg Z12); have nq := Aside0.mk (Sq.ge hg Z12); have eH := Aside0.mk (Sq.nl hg (blk_lt (g := ag) (o := .cells #[.string ax, .int .i64 av, .int .i64 aw, .bool ay] 60 (0, 0)) Z2)); have gZ := Aside0.mk (Sq.ng hg (blk_lt (g := ag) (o := .cells #[.string ax, .int .i64 av, .int .i64 aw, .bool ay] 60 (0, 0)) Z2)); have cO := Aside0.mk (Sq.nl hg (blk_lt (g := aI) (o := .cells #[.string ⟨#[]⟩, .int .i64 0, .int .i64 0, .bool false] 60 (0, 0)) Z19)); have aX := Aside0.mk (Sq.ng hg (blk_lt (g := aI) (o := .cells #[.string ⟨#[]⟩, .int .i64 0, .int .i64 0, .bool false] 60 (0, 0)) Z19)); replace ae := Aside0.mk (blk_below (g := ag) (o := .cells #[.string ax, .int .i64 av, .int .i64 aw, .bool ay] 60 (0, 0)) Z2 hb); replace aN := Aside0.mk (blk_below (g := aI) (o := .cells #[.string ⟨#[]⟩, .int .i64 0, .int .i64 0, .bool false] 60 (0, 0)) Z19 hb); replace HB := Aside0.mk (below_step Z12 hb); clear hb hbox hg; have hnb29 := gZ.out; have hnc29 := eH.out; have hnb30 := aX.out; have hnc30 := cO.out; have qH := cells_4 eh.out))
  have bY : Aside0 (((((nr.setCell ⟨cb, 0, none⟩ (.string aW)).setCell ⟨cb, 1, none⟩ (.int .i64 aY)).setCell ⟨cb, 2, none⟩ (.int .i64 bq)).setCell ⟨cb, 3, none⟩ (.bool aT)).heap[ag]? = some (.cells #[.string ax, .int .i64 av, .int .i64 aw, .bool ay] 60 (0, 0))) := ⟨Z55⟩
  have ca : Aside0 (((((nr.setCell ⟨cb, 0, none⟩ (.string aW)).setCell ⟨cb, 1, none⟩ (.int .i64 aY)).setCell ⟨cb, 2, none⟩ (.int .i64 bq)).setCell ⟨cb, 3, none⟩ (.bool aT)).heap[aI]? = some (.cells #[.string ⟨#[]⟩, .int .i64 0, .int .i64 0, .bool false] 60 (0, 0))) := ⟨Z54⟩
  have cZ : Aside0 (((((nr.setCell ⟨cb, 0, none⟩ (.string aW)).setCell ⟨cb, 1, none⟩ (.int .i64 aY)).setCell ⟨cb, 2, none⟩ (.int .i64 bq)).setCell ⟨cb, 3, none⟩ (.bool aT)).heap[cb]? = some (.cells #[.string aW, .int .i64 aY, .int .i64 bq, .bool aT] 60 (0, 0))) := ⟨Z84⟩
  have ex : Aside0 (Below w.heap.size w ((((nr.setCell ⟨cb, 0, none⟩ (.string aW)).setCell ⟨cb, 1, none⟩ (.int .i64 aY)).setCell ⟨cb, 2, none⟩ (.int .i64 bq)).setCell ⟨cb, 3, none⟩ (.bool aT))) := ⟨Z52⟩
  (try clear ae)
  (try clear aN)
  (try clear eh)
  (try clear HB)
  generalize ((((nr.setCell ⟨cb, 0, none⟩ (.string aW)).setCell ⟨cb, 1, none⟩ (.int .i64 aY)).setCell ⟨cb, 2, none⟩ (.int .i64 bq)).setCell ⟨cb, 3, none⟩ (.bool aT)) = uk at bY ca cZ ex ⊢
  have ae := bY
  have aN := ca
  have eh := cZ
  have HB := ex
  clear bY ca cZ ex
  have bY := Aside0.mk (blk_drew ae.out)
  have ca := Aside0.mk (blk_drew aN.out)
  have cZ := Aside0.mk (blk_drew eh.out)
  have ex := Aside0.mk (below_drew1 HB.out)
  clear ae
  clear aN
  clear eh
  clear HB
  have ae := bY
  have aN := ca
  have eh := cZ
  have HB := ex
  clear bY ca cZ ex
  refine start_ (n := 3) (S := fun w' => w'.cell? ⟨cb, 0, none⟩ = some (.string aW) ∧ w'.cell? ⟨cb, 1, none⟩ = some (.int .i64 aY) ∧ w'.cell? ⟨cb, 2, none⟩ = some (.int .i64 bq) ∧ w'.cell? ⟨cb, 3, none⟩ = some (.bool aT)) (ds := []) #[false, false, false] Z14 rfl rfl ⟨Sq.bc eh 0, Sq.bc eh 1, Sq.bc eh 2, Sq.bc eh 3⟩ (fun hHeld => ?_)
  generalize uk.drew = oA at ae aN eh HB hHeld ⊢
  refine pure_ (i := 1) (N := some 4) (v := ?_) (a' := ?_) #[false, true, false] rfl rfl Z14 (fun _ _ _ h => h) (Or.inl ⟨Z23, ?_⟩) ?_ ?_
  rotate_left
  ·intro w'
   go_simp
   with_reducible rfl
  rotate_left
  ·simp only [Act.put, Sq.s1, Sq.s2, Sq.s3, i64_w, i32_w]
   rfl
  refine take_ (i := 0) (N := some 16) (v := ?_) (a' := ?_) #[true, true, false] rfl rfl Z14 (fun _ _ _ h => h) (Or.inl ⟨Z23, ?_⟩) hHeld ?_ ?_
  rotate_left
  ·rintro w' ⟨s0, s1, s2, s3⟩
   go_simp
   with_reducible rfl
  rotate_left
  ·simp only [Act.put, Sq.s1, Sq.s2, Sq.s3, i64_w, i32_w]
   rfl
  refine one_ (i := 2) (N := none) #[true, true, true] rfl rfl Z14 Z29 (fun K hK => ?_)
  have hs34 : oA.cell? ⟨aI, 0, none⟩ = some (.string ⟨#[]⟩) := (blk_cell aN.out 0).trans rfl
  have hfs34 := blk_frozen aN.out 0
  have hns34_0 := aQ.out
  have hns34_2 := aX.out
  have hms34_0 := bj.out
  have hms34_2 := cO.out
  have hs35 : oA.cell? ⟨aI, 1, none⟩ = some (.int .i64 0) := (blk_cell aN.out 1).trans rfl
  have hfs35 := blk_frozen aN.out 1
  have hns35_0 := aQ.out
  have hns35_2 := aX.out
  have hms35_0 := bj.out
  have hms35_2 := cO.out
  have hs36 : oA.cell? ⟨aI, 2, none⟩ = some (.int .i64 0) := (blk_cell aN.out 2).trans rfl
  have hfs36 := blk_frozen aN.out 2
  have hns36_0 := aQ.out
  have hns36_2 := aX.out
  have hms36_0 := bj.out
  have hms36_2 := cO.out
  have hs37 : oA.cell? ⟨aI, 3, none⟩ = some (.bool false) := (blk_cell aN.out 3).trans rfl
  have hfs37 := blk_frozen aN.out 3
  have hns37_0 := aQ.out
  have hns37_2 := aX.out
  have hms37_0 := bj.out
  have hms37_2 := cO.out
  refine skip_ (w1 := ?_) Z23 rfl ?_ ?_
  rotate_left
  ·go_simp
   rfl
  refine hK.out _ _ ⟨((cell_far (p := ⟨aI, _, none⟩) aX.out _).trans (((cell_far (p := ⟨aI, _, none⟩) aX.out _).trans (((cell_far (p := ⟨aI, _, none⟩) aX.out _).trans (((cell_far (p := ⟨aI, _, none⟩) aX.out _).trans (hHeld.1)))))))), ((cell_far (p := ⟨aI, _, none⟩) aX.out _).trans (((cell_far (p := ⟨aI, _, none⟩) aX.out _).trans (((cell_far (p := ⟨aI, _, none⟩) aX.out _).trans (((cell_far (p := ⟨aI, _, none⟩) aX.out _).trans (hHeld.2.1)))))))), ((cell_far (p := ⟨aI, _, none⟩) aX.out _).trans (((cell_far (p := ⟨aI, _, none⟩) aX.out _).trans (((cell_far (p := ⟨aI, _, none⟩) aX.out _).trans (((cell_far (p := ⟨aI, _, none⟩) aX.out _).trans (hHeld.2.2.1)))))))), ((cell_far (p := ⟨aI, _, none⟩) aX.out _).trans (((cell_far (p := ⟨aI, _, none⟩) aX.out _).trans (((cell_far (p := ⟨aI, _, none⟩) aX.out _).trans (((cell_far (p := ⟨aI, _, none⟩) aX.out _).trans (hHeld.2.2.2))))))))⟩ (fun hHeld => ?_)
  clear hK K
  refine done_ Z14 ?_
  try go_wp2
  refine bodyPost_ret (results_tc rfl _ _ aI 60 #[.string aW, .int .i64 aY, .int .i64 bq, .bool aT] (0, 0) _ rfl Z85 Try.underlying60 rfl Z14) rfl ?_
  exact ⟨Z5, Z52⟩

/-! ### cursor_New: function 61 -/
def cursor_New.f (a0 : ByteArray) : Option (ByteArray × Int × Int × Bool) := some (a0, 0, (a0.size : Int), false)
set_option maxHeartbeats 8000000 in
set_option maxRecDepth 100000 in
theorem cursor_New.calls (a0 : ByteArray) (r1 : ByteArray) (r2 : Int) (r3 : Int) (r4 : Bool) (w : World) (h : cursor_New.f a0 = some (r1, r2, r3, r4)) :
  Calls Try.prog 61 #[.string a0] w fun e w' => e = .returned (.agg #[.string r1, .int .i64 r2, .int .i64 r3, .bool r4]) ∧ Below w.heap.size w w' := by
 have ie := Try.underlying60
 have HB := Aside0.mk (Below.refl w.heap.size w)
 have H : (some (a0, 0, (a0.size : Int), false)) = some (r1, r2, r3, r4) := h
 clear h
 simp only [Option.some.injEq, Prod.mk.injEq] at H
 obtain ⟨rfl, rfl, rfl, rfl⟩ := H
 go_enter Try.func61, Try.ntmps61
 go_wp2_with (first | ((with_reducible refine gate_dst (N := 2) rfl ?_); refine Sq.box 2 #[.string ⟨#[]⟩, .int .i64 0, .int .i64 0, .bool false] 60 ?_; intro ag hg w2 hbox hb; have ae := Aside0.mk (hbox); have cp := Aside0.mk (Sq.ge hg Z1); have bm := Aside0.mk (Sq.ge hg Z1); replace HB := Aside0.mk (below_step Z1 hb); clear hb hbox hg; have hcz3 := cells_4 ae.out))
 refine bodyPost_ret (results_cell_row rfl _ _ ag 60 #[.string a0, .int .i64 0, .int .i64 (a0.size : Int), .bool false] (0, 0) _ rfl (by (with_reducible repeat (first | refine blk_drewN ?_ _ | refine blk_drew ?_ | refine blk_alloc ?_ _)); apply blk_puts4; (with_reducible repeat (first | refine blk_drewN ?_ _ | refine blk_drew ?_ | refine blk_alloc ?_ _)); exact ae.out) Try.underlying60 rfl Z14) rfl ?_
 exact ⟨Z5, Z0⟩

/-! ### cursor_Num: function 62 -/
def cursor_Num.f (ax : ByteArray) (av : Int) (aw : Int) (ay : Bool) (a1 : Int) : Option (Int × ByteArray × Int × Int × Bool) :=
 if a1 < 1 ∨ 7 < a1 then some (0, ax, av, aw, true)
 else (cursor_step.f ax av aw ay a1).bind fun b =>
  if b.2.2.2.2 = true then (if 0 ≤ av ∧ av ≤ b.2.1 ∧ b.2.1 ≤ (ax.size : Int) ∧ b.2.1 - av ≤ 7 then some (Pre.numOf (ax.extract av.toNat b.2.1.toNat), b.1, b.2.1, b.2.2.1, b.2.2.2.1) else none)
  else some (0, b.1, b.2.1, b.2.2.1, b.2.2.2.1)
set_option maxHeartbeats 8000000 in
set_option maxRecDepth 100000 in
theorem cursor_Num.bad (ax : ByteArray) (av : Int) (aw : Int) (ay : Bool) (a1 : Int) (w : World) (h : a1 < 1 ∨ 7 < a1) :
  Calls Try.prog 62 #[.agg #[.string ax, .int .i64 av, .int .i64 aw, .bool ay], .int .i64 a1] w fun e w' => e = .returned (.tuple #[.int .i64 0, .agg #[.string ax, .int .i64 av, .int .i64 aw, .bool true]]) ∧ Below w.heap.size w w' := by
 have ie := Try.underlying60
 have HB := Aside0.mk (Below.refl w.heap.size w)
 rcases h with h | h
 all_goals
  go_enter Try.func62, Try.ntmps62
  go_wp2
  go_region
  go_wp2
  exact bodyPost_ret (v := .tuple #[.int .i64 0, .agg #[.string ax, .int .i64 av, .int .i64 aw, .bool true]]) (by simp [results, Try.results62, go_sem]) rfl ⟨rfl, by repeat (first | exact HB.out | apply below_alloc | apply below_drew1)⟩
set_option maxHeartbeats 8000000 in
set_option maxRecDepth 100000 in
theorem cursor_Num.no (ax : ByteArray) (av : Int) (aw : Int) (ay : Bool) (a1 : Int) (w : World) (h0 : 1 ≤ a1) (h1 : a1 ≤ 7) (r1 : ByteArray) (r2 r3 : Int) (r4 : Bool) (hs : cursor_step.f ax av aw ay a1 = some (r1, r2, r3, r4, false)) :
  Calls Try.prog 62 #[.agg #[.string ax, .int .i64 av, .int .i64 aw, .bool ay], .int .i64 a1] w fun e w' => e = .returned (.tuple #[.int .i64 0, .agg #[.string r1, .int .i64 r2, .int .i64 r3, .bool r4]]) ∧ Below w.heap.size w w' := by
 have ie := Try.underlying60
 have HB := Aside0.mk (Below.refl w.heap.size w)
 have HS := Aside0.mk hs
 clear hs
 go_enter Try.func62, Try.ntmps62
 go_wp2_with (first | (go_at_call 77; refine (cursor_step.calls _ _ _ _ _ _ _ _ _ _ _ HS.out).mono ?_; rintro e w1 ⟨rfl, hb⟩; have HB1 := Aside0.mk hb; have hz : w.heap.size + 1 < w1.heap.size := (by have := hb.size; simp at this; omega); have hz0 : w.heap.size < w1.heap.size := Z40; have b5 : w1.heap[w.heap.size + 1]? = some (.cells #[.string ⟨#[]⟩, .int .i64 0, .int .i64 0, .bool false] 60 (0, 0)) := (hb.block _ Z71).trans Z94; have c0 : w1.cell? ⟨w.heap.size + 1, 0, none⟩ = some (.string ⟨#[]⟩) := (blk_cell b5 0).trans rfl; have c1 : w1.cell? ⟨w.heap.size + 1, 1, none⟩ = some (.int .i64 0) := (blk_cell b5 1).trans rfl; have c2 : w1.cell? ⟨w.heap.size + 1, 2, none⟩ = some (.int .i64 0) := (blk_cell b5 2).trans rfl; have c3 : w1.cell? ⟨w.heap.size + 1, 3, none⟩ = some (.bool false) := (blk_cell b5 3).trans rfl; have f0 := blk_frozen b5 0; have f1 := blk_frozen b5 1; have f2 := blk_frozen b5 2; have f3 := blk_frozen b5 3; have HB5 := Aside0.mk b5; clear hb b5))
 have HBw := Aside0.mk ((below_alloc (below_alloc (Below.refl w.heap.size w) (.cells #[.string ax, .int .i64 av, .int .i64 aw, .bool ay] 60)) (.cells #[.string ⟨#[]⟩, .int .i64 0, .int .i64 0, .bool false] 60)).trans (HB1.out.mono (by simp; omega)))
 go_region
 go_wp2
 exact bodyPost_ret (v := .tuple #[.int .i64 0, .agg #[.string r1, .int .i64 r2, .int .i64 r3, .bool r4]]) (by simp [results, Try.results62, go_sem, hz, hz0, c0, c1, c2, c3]) rfl ⟨rfl, by repeat (first | exact HBw.out | apply below_alloc | apply below_drew1 | (refine Below.setCell ?_ Z71 _))⟩
set_option maxHeartbeats 8000000 in
set_option maxRecDepth 100000 in
theorem cursor_Num.yes (ax : ByteArray) (av : Int) (aw : Int) (ay : Bool) (a1 : Int) (w : World) (h0 : 1 ≤ a1) (h1 : a1 ≤ 7) (r1 : ByteArray) (r2 r3 : Int) (r4 : Bool) (hs : cursor_step.f ax av aw ay a1 = some (r1, r2, r3, r4, true)) (p0 : 0 ≤ av) (p1 : av ≤ r2) (p2 : r2 ≤ ax.size) (p3 : r2 - av ≤ 7) :
  Calls Try.prog 62 #[.agg #[.string ax, .int .i64 av, .int .i64 aw, .bool ay], .int .i64 a1] w fun e w' => e = .returned (.tuple #[.int .i64 (Pre.numOf (ax.extract av.toNat r2.toNat)), .agg #[.string r1, .int .i64 r2, .int .i64 r3, .bool r4]]) ∧ Below w.heap.size w w' := by
 have ie := Try.underlying60
 have HB := Aside0.mk (Below.refl w.heap.size w)
 have HS := Aside0.mk hs
 clear hs
 have hconv := fun W s => Lib.run_convert_string_bytes (P := Try.prog) W 9 51 5 s Try.underlying9 Try.underlying51 Try.underlying5
 go_enter Try.func62, Try.ntmps62
 go_wp2_with (first | (go_at_call 77; refine (cursor_step.calls _ _ _ _ _ _ _ _ _ _ _ HS.out).mono ?_; rintro e w1 ⟨rfl, hb⟩; have HB1 := Aside0.mk hb; have hz : w.heap.size + 1 < w1.heap.size := (by have := hb.size; simp at this; omega); have hz0 : w.heap.size < w1.heap.size := Z40; have b5 : w1.heap[w.heap.size + 1]? = some (.cells #[.string ⟨#[]⟩, .int .i64 0, .int .i64 0, .bool false] 60 (0, 0)) := (hb.block _ Z71).trans Z94; have b2 : w1.heap[w.heap.size]? = some (.cells #[.string ax, .int .i64 av, .int .i64 aw, .bool ay] 60 (0, 0)) := (hb.block _ (by simp; omega)).trans (Pre.two_blocks w _ _).1; have c0 : w1.cell? ⟨w.heap.size, 0, none⟩ = some (.string ax) := (blk_cell b2 0).trans rfl; have c1 : w1.cell? ⟨w.heap.size, 1, none⟩ = some (.int .i64 av) := (blk_cell b2 1).trans rfl; have HB5 := Aside0.mk b5; clear hb b5 b2))
 obtain ⟨sub, hsub⟩ : ∃ s, s = ax.extract av.toNat r2.toNat := ⟨_, rfl⟩
 have hsz : sub.size = r2.toNat - av.toNat := by rw [hsub, ByteArray.size_extract]; omega
 rw [← hsub, ← hsz]
 have HS2 := Aside0.mk hsub
 have hz7 : sub.size ≤ 7 := by omega
 clear hsub
 obtain ⟨W2, hW2⟩ : ∃ W, W = w1.alloc (.cells #[.string r1, .int .i64 r2, .int .i64 r3, .bool r4] 60) := ⟨_, rfl⟩
 have e2 : W2.heap.size = w1.heap.size + 1 := by rw [hW2]; simp
 obtain ⟨W3, hW3⟩ : ∃ W, W = Lib.bytesWorld W2 5 sub := ⟨_, rfl⟩
 have hcell : ∀ k : Nat, k < sub.size → W3.cell? ⟨w1.heap.size + 1, k, none⟩ = some (.int .u8 (sub.data.toList.getD k 0).toNat) := fun k hk => by rw [hW3, ← e2]; exact Lib.bytesWorld_cell W2 5 sub k hk
 have b6 : W3.heap[w1.heap.size]? = some (.cells #[.string r1, .int .i64 r2, .int .i64 r3, .bool r4] 60 (0, 0)) := by
  rw [hW3, Lib.bytesWorld_at_old _ _ _ _ Z40, hW2]; exact heap_alloc_new _ _
 have b5 : W3.heap[w.heap.size + 1]? = some (.cells #[.string ⟨#[]⟩, .int .i64 0, .int .i64 0, .bool false] 60 (0, 0)) := by
  rw [hW3, Lib.bytesWorld_at_old _ _ _ _ Z40, hW2, (Below.block (below_alloc (Below.refl w1.heap.size w1) _) (w.heap.size + 1) hz)]; exact HB5.out
 have HBw := Aside0.mk (((below_alloc (below_alloc (Below.refl w.heap.size w) (.cells #[.string ax, .int .i64 av, .int .i64 aw, .bool ay] 60)) (.cells #[.string ⟨#[]⟩, .int .i64 0, .int .i64 0, .bool false] 60)).trans (HB1.out.mono (by simp; omega))).trans (((below_alloc (Below.refl w1.heap.size w1) (.cells #[.string r1, .int .i64 r2, .int .i64 r3, .bool r4] 60)).trans ((Pre.below_bytes _ 5 sub).mono Z71)).mono Z40))
 rw [← hW2, ← hW3] at HBw
 rw [← hW2, ← hW3]
 have g0 : W3.cell? ⟨w1.heap.size, 0, none⟩ = some (.string r1) := (blk_cell b6 0).trans rfl
 have g1 : W3.cell? ⟨w1.heap.size, 1, none⟩ = some (.int .i64 r2) := (blk_cell b6 1).trans rfl
 have g2 : W3.cell? ⟨w1.heap.size, 2, none⟩ = some (.int .i64 r3) := (blk_cell b6 2).trans rfl
 have g3 : W3.cell? ⟨w1.heap.size, 3, none⟩ = some (.bool r4) := (blk_cell b6 3).trans rfl
 have k0 : W3.cell? ⟨w.heap.size + 1, 0, none⟩ = some (.string ⟨#[]⟩) := (blk_cell b5 0).trans rfl
 have k1 : W3.cell? ⟨w.heap.size + 1, 1, none⟩ = some (.int .i64 0) := (blk_cell b5 1).trans rfl
 have k2 : W3.cell? ⟨w.heap.size + 1, 2, none⟩ = some (.int .i64 0) := (blk_cell b5 2).trans rfl
 have k3 : W3.cell? ⟨w.heap.size + 1, 3, none⟩ = some (.bool false) := (blk_cell b5 3).trans rfl
 have f0 := blk_frozen b5 0
 have f1 := blk_frozen b5 1
 have f2 := blk_frozen b5 2
 have f3 := blk_frozen b5 3
 have hne : ¬ w1.heap.size = w.heap.size + 1 := by omega
 have hne2 : ¬ w.heap.size + 1 = w1.heap.size := by omega
 have HC := Aside0.mk hcell
 clear hcell hW3 hW2 e2 c0 c1 b5 b6 hconv
 go_loop [8, 37] (fun n i => ∃ (k : Nat) (v : Int), k ≤ sub.size ∧ i = .int .i64 k ∧ n = .int .i64 v ∧ Aside0 (v = ((bytesOf sub).take k).foldl (fun a b => a * 256 + b) 0) ∧ 0 ≤ v ∧ v < 256 ^ k) (fun _ i => sub.size - (intOf i).toNat)
 case atStart => exact ⟨0, 0, Nat.zero_le _, rfl, rfl, ⟨rfl⟩, Z29, Z29⟩
 case round =>
  obtain ⟨k, v, hk, rfl, rfl, HV, hv0, hv1⟩ := hrel
  have hv2 : v < 72057594037927936 := Int.lt_of_lt_of_le hv1 (Pre.pow_le7_ k Z40)
  by_cases hlt : k < sub.size
  ·have hc := HC.out k hlt
   obtain ⟨x, hx⟩ : ∃ x : Int, ((sub.data.toList.getD k 0).toNat : Int) = x := ⟨_, rfl⟩
   rw [hx] at hc
   have hx0 : 0 ≤ x ∧ x ≤ 255 := by have := (sub.data.toList.getD k 0).toNat_lt; omega
   obtain ⟨hxl, hxh⟩ := hx0
   have hv3 : v < 281474976710656 := Int.lt_of_lt_of_le hv1 (Pre.pow_le6_ k Z40)
   have hor : Go.bits .or .i64 (v * 256) x = v * 256 + x := Pre.or_byte hv0 hv3 hxl hxh
   have HX := Aside0.mk hx
   have HV1 := Aside0.mk hv1
   clear hx hv1 hv2
   go_wp2
   go_round
   case rel =>
    refine ⟨k + 1, v * 256 + x, Z40, by go_num, rfl, ⟨?_⟩, Z40, ?_⟩
    ·rw [Pre.fold_take _ k (by rw [bytesOf, List.length_map, data_length]; exact hlt), ← HV.out]
     congr 1
     rw [← HX.out, ← Pre.bt_getD_, ← rd_bytesOf, rd]; simp
    ·rw [Int.pow_succ]; have := HV1.out; omega
   case measure => simp [intOf]; omega
  ·have e : k = sub.size := by omega
   have e2 : v = Pre.numOf sub := by
    rw [HV.out, e, List.take_of_length_le (by rw [bytesOf, List.length_map, data_length]; exact Nat.le_refl _)]; rfl
   have E2 := Aside0.mk e2
   clear e e2 hv1 hv2
   go_wp2
   go_region
   go_wp2
   refine bodyPost_ret (v := .tuple #[.int .i64 v, .agg #[.string r1, .int .i64 r2, .int .i64 r3, .bool r4]]) (by simp [results, Try.results62, go_sem, hz, hz0, g0, g1, g2, g3, k0, k1, k2, k3]) rfl ⟨?_, by repeat (first | exact HBw.out | apply below_alloc | apply below_drew1 | (refine Below.setCell ?_ Z71 _))⟩
   rw [← HS2.out, E2.out]
theorem cursor_Num.calls (ax : ByteArray) (av : Int) (aw : Int) (ay : Bool) (a1 : Int) (r1 : Int) (r2 : ByteArray) (r3 : Int) (r4 : Int) (r5 : Bool) (w : World) (h : cursor_Num.f ax av aw ay a1 = some (r1, r2, r3, r4, r5)) :
  Calls Try.prog 62 #[.agg #[.string ax, .int .i64 av, .int .i64 aw, .bool ay], .int .i64 a1] w fun e w' => e = .returned (.tuple #[.int .i64 r1, .agg #[.string r2, .int .i64 r3, .int .i64 r4, .bool r5]]) ∧ Below w.heap.size w w' := by
 unfold cursor_Num.f at h
 by_cases c : a1 < 1 ∨ 7 < a1
 ·rw [if_pos c] at h
  simp only [Option.some.injEq, Prod.mk.injEq] at h
  obtain ⟨rfl, rfl, rfl, rfl, rfl⟩ := h
  exact cursor_Num.bad _ _ _ _ _ w c
 ·rw [if_neg c] at h
  obtain ⟨⟨s1, s2, s3, s4, s5⟩, hs, h⟩ := Option.bind_eq_some_iff.mp h
  dsimp only at h
  cases s5 with
  | false =>
   rw [if_neg Z29] at h
   simp only [Option.some.injEq, Prod.mk.injEq] at h
   obtain ⟨rfl, rfl, rfl, rfl, rfl⟩ := h
   exact cursor_Num.no _ _ _ _ _ w Z40 Z40 _ _ _ _ hs
  | true =>
   rw [if_pos rfl] at h
   by_cases p : 0 ≤ av ∧ av ≤ s2 ∧ s2 ≤ (ax.size : Int) ∧ s2 - av ≤ 7
   ·rw [if_pos p] at h
    simp only [Option.some.injEq, Prod.mk.injEq] at h
    obtain ⟨rfl, rfl, rfl, rfl, rfl⟩ := h
    exact cursor_Num.yes _ _ _ _ _ w Z40 Z40 _ _ _ _ hs p.1 p.2.1 p.2.2.1 p.2.2.2
   ·rw [if_neg p] at h; cases h

/-! ### cursor_Left: function 76 -/
def cursor_Left.f (ax : ByteArray) (av : Int) (aw : Int) (ay : Bool) : Option (Int) := if ay = true then (some 0) else (some (wrap64 (aw - av)))
set_option maxHeartbeats 8000000 in
set_option maxRecDepth 100000 in
theorem cursor_Left.calls (ax : ByteArray) (av : Int) (aw : Int) (ay : Bool) (r : Int) (w : World) (h : cursor_Left.f ax av aw ay = some r) :
  Calls Try.prog 76 #[.agg #[.string ax, .int .i64 av, .int .i64 aw, .bool ay]] w fun e w' => e = .returned (.int .i64 r) ∧ Below w.heap.size w w' := by
 have ie := Try.underlying60
 have HB := Aside0.mk (Below.refl w.heap.size w)
 have H : (if ay = true then (some 0) else (some (wrap64 (aw - av)))) = some r := h
 clear h
 by_cases c2 : ay = true
 ·subst c2
  replace H := Sq.itT H
  obtain rfl := Option.some.inj H
  go_enter Try.func76, Try.ntmps76
  go_wp2_with (first | ((with_reducible refine gate_dst (N := 1) rfl ?_); refine Sq.box 1 #[.string ax, .int .i64 av, .int .i64 aw, .bool true] 60 ?_; intro ag hg w3 hbox hb; have ae := Aside0.mk (hbox); have cp := Aside0.mk (Sq.ge hg Z1); have bm := Aside0.mk (Sq.ge hg Z1); replace HB := Aside0.mk (below_step Z1 hb); clear hb hbox hg; have ml := cells_4 ae.out))
  go_ret
  exact ⟨Z5, Z0⟩
 ·replace c2 := Bool.eq_false_iff.mpr c2
  subst c2
  replace H := Sq.itF H
  obtain rfl := Option.some.inj H
  go_enter Try.func76, Try.ntmps76
  go_wp2_with (first | ((with_reducible refine gate_dst (N := 1) rfl ?_); refine Sq.box 1 #[.string ax, .int .i64 av, .int .i64 aw, .bool false] 60 ?_; intro ag hg w5 hbox hb; have ae := Aside0.mk (hbox); have cp := Aside0.mk (Sq.ge hg Z1); have bm := Aside0.mk (Sq.ge hg Z1); replace HB := Aside0.mk (below_step Z1 hb); clear hb hbox hg; have sE := cells_4 ae.out))
  go_ret
  exact ⟨Z5, Z0⟩

/-! ### msg_strip: function 73 -/
def msg_strip.f (ax : Int) (av : Int) (aw : Int) (ay : ByteArray) (az : Int) (aH : Int) (aE : ByteArray) (aA : Int) (aD : Int) (aC : ByteArray) (au : Int) (an : ByteArray) (al : Int) (ak : Int) (ar : Int) (af : Int) (ai : Int) (am : Int) (ao : Int) (aa : ByteArray) (ac : ByteArray) (ab : List (S46)) (ap : Int) (aq : ByteArray) (ah : List (S48)) : Option (Int × Int × Int × Int × Int × Int × Int × Int × Int × Int × Int × Int × Int × Int × Int × Int × ByteArray × ByteArray × ByteArray × ByteArray × ByteArray × ByteArray × ByteArray) := some (ax, av, aw, az, aH, aA, aD, au, al, ak, ar, af, ai, am, ao, ap, ay, aE, aC, an, aa, ac, aq)
set_option maxRecDepth 100000 in
theorem msg_strip.bd49 (v0 : Int) (v1 : Int) (v2 : Int) (v3 : Int) (v4 : Int) (v5 : Int) (v6 : Int) (v7 : Int) (v8 : Int) (v9 : Int) (mc : Int) (kL : Int) (ns : Int) (nt : Int) (nu : Int) (iT : Int) (jE : ByteArray) (md : ByteArray) (nv : ByteArray) (nw : ByteArray) (nx : ByteArray) (ny : ByteArray) (nz : ByteArray) : Try.prog.built 71 [(0, .int .i64 v0), (1, .int .i64 v1), (2, .int .i64 v2), (3, .int .i64 v3), (4, .int .i64 v4), (5, .int .i64 v5), (6, .int .i64 v6), (7, .int .i64 v7), (8, .int .i64 v8), (9, .int .i64 v9), (10, .int .i64 mc), (11, .int .i64 kL), (12, .int .i64 ns), (13, .int .i64 nt), (14, .int .i64 nu), (15, .int .i64 iT), (16, .string jE), (17, .string md), (18, .string nv), (19, .string nw), (20, .string nx), (21, .string ny), (22, .string nz)] = some #[.int .i64 v0, .int .i64 v1, .int .i64 v2, .int .i64 v3, .int .i64 v4, .int .i64 v5, .int .i64 v6, .int .i64 v7, .int .i64 v8, .int .i64 v9, .int .i64 mc, .int .i64 kL, .int .i64 ns, .int .i64 nt, .int .i64 nu, .int .i64 iT, .string jE, .string md, .string nv, .string nw, .string nx, .string ny, .string nz] := by kernel_rfl
set_option maxHeartbeats 8000000 in
set_option maxRecDepth 100000 in
theorem msg_strip.calls (ax : Int) (av : Int) (aw : Int) (ay : ByteArray) (az : Int) (aH : Int) (aE : ByteArray) (aA : Int) (aD : Int) (aC : ByteArray) (au : Int) (an : ByteArray) (al : Int) (ak : Int) (ar : Int) (af : Int) (ai : Int) (am : Int) (ao : Int) (aa : ByteArray) (ac : ByteArray) (bg : Option Addr) (bb : Nat) (ab : List (S46)) (ap : Int) (aq : ByteArray) (aZ : Option Addr) (ba : Nat) (ah : List (S48)) (r1 : Int) (r2 : Int) (r3 : Int) (r4 : Int) (r5 : Int) (r6 : Int) (r7 : Int) (r8 : Int) (r9 : Int) (r10 : Int) (r11 : Int) (r12 : Int) (r13 : Int) (r14 : Int) (r15 : Int) (r16 : Int) (r17 : ByteArray) (r18 : ByteArray) (r19 : ByteArray) (r20 : ByteArray) (r21 : ByteArray) (r22 : ByteArray) (r23 : ByteArray) (w : World) (cf : Kd.C k46 w bg ab.length ab) (cg : ab.length ≤ bb) (ch : Kd.C k48 w aZ ah.length ah) (ci : ah.length ≤ ba) (h : msg_strip.f ax av aw ay az aH aE aA aD aC au an al ak ar af ai am ao aa ac ab ap aq ah = some (r1, r2, r3, r4, r5, r6, r7, r8, r9, r10, r11, r12, r13, r14, r15, r16, r17, r18, r19, r20, r21, r22, r23)) :
  Calls Try.prog 73 #[.agg #[.int .i64 ax, .int .i64 av, .int .i64 aw, .string ay, .int .i64 az, .int .i64 aH, .string aE, .int .i64 aA, .int .i64 aD, .string aC, .int .i64 au, .string an, .int .i64 al, .int .i64 ak, .int .i64 ar, .int .i64 af, .int .i64 ai, .int .i64 am, .int .i64 ao, .string aa, .string ac, .slice bg ab.length bb, .int .i64 ap, .string aq, .slice aZ ah.length ba]] w fun e w' => e = .returned (.agg #[.int .i64 r1, .int .i64 r2, .int .i64 r3, .int .i64 r4, .int .i64 r5, .int .i64 r6, .int .i64 r7, .int .i64 r8, .int .i64 r9, .int .i64 r10, .int .i64 r11, .int .i64 r12, .int .i64 r13, .int .i64 r14, .int .i64 r15, .int .i64 r16, .string r17, .string r18, .string r19, .string r20, .string r21, .string r22, .string r23]) ∧ Below w.heap.size w w' := by
 have fi := Try.underlying25
 have sk := Try.underlying71
 have ed := Aside0.mk cf
 have bM := Aside0.mk cg
 clear cf cg
 have er := Aside0.mk ch
 have br := Aside0.mk ci
 clear ch ci
 have HB := Aside0.mk (Below.refl w.heap.size w)
 have H : (some (ax, av, aw, az, aH, aA, aD, au, al, ak, ar, af, ai, am, ao, ap, ay, aE, aC, an, aa, ac, aq)) = some (r1, r2, r3, r4, r5, r6, r7, r8, r9, r10, r11, r12, r13, r14, r15, r16, r17, r18, r19, r20, r21, r22, r23) := h
 clear h
 simp only [Option.some.injEq, Prod.mk.injEq] at H
 obtain ⟨rfl, rfl, rfl, rfl, rfl, rfl, rfl, rfl, rfl, rfl, rfl, rfl, rfl, rfl, rfl, rfl, rfl, rfl, rfl, rfl, rfl, rfl, rfl⟩ := H
 go_enter Try.func73, Try.ntmps73
 go_wp2_with (first | ((with_reducible refine gate_dst (N := 49) rfl ?_); refine Pre.build_event 49 71 [(0, Go.Operand.tmp 4), (1, Go.Operand.tmp 6), (2, Go.Operand.tmp 8), (3, Go.Operand.tmp 10), (4, Go.Operand.tmp 12), (5, Go.Operand.tmp 14), (6, Go.Operand.tmp 16), (7, Go.Operand.tmp 18), (8, Go.Operand.tmp 20), (9, Go.Operand.tmp 22), (10, Go.Operand.tmp 24), (11, Go.Operand.tmp 26), (12, Go.Operand.tmp 28), (13, Go.Operand.tmp 30), (14, Go.Operand.tmp 32), (15, Go.Operand.tmp 34), (16, Go.Operand.tmp 36), (17, Go.Operand.tmp 38), (18, Go.Operand.tmp 40), (19, Go.Operand.tmp 42), (20, Go.Operand.tmp 44), (21, Go.Operand.tmp 46), (22, Go.Operand.tmp 48)] rfl rfl rfl (msg_strip.bd49 _ _ _ _ _ _ _ _ _ _ _ _ _ _ _ _ _ _ _ _ _ _ _) ?_) | ((with_reducible refine gate_dst (N := 1) rfl ?_); refine Sq.box 1 #[.int .i64 ax, .int .i64 av, .int .i64 aw, .string ay, .int .i64 az, .int .i64 aH, .string aE, .int .i64 aA, .int .i64 aD, .string aC, .int .i64 au, .string an, .int .i64 al, .int .i64 ak, .int .i64 ar, .int .i64 af, .int .i64 ai, .int .i64 am, .int .i64 ao, .string aa, .string ac, .slice bg ab.length bb, .int .i64 ap, .string aq, .slice aZ ah.length ba] 25 ?_; intro ag hg w2 hbox hb; have ae := Aside0.mk (hbox); have cp := Aside0.mk (Sq.ge hg Z1); have bm := Aside0.mk (Sq.ge hg Z1); replace HB := Aside0.mk (below_step Z1 hb); clear hb hbox hg) | ((with_reducible refine gate_dst (N := 2) rfl ?_); refine Sq.box 2 #[.int .i64 0, .int .i64 0, .int .i64 0, .int .i64 0, .int .i64 0, .int .i64 0, .int .i64 0, .int .i64 0, .int .i64 0, .int .i64 0, .int .i64 0, .int .i64 0, .int .i64 0, .int .i64 0, .int .i64 0, .int .i64 0, .string ⟨#[]⟩, .string ⟨#[]⟩, .string ⟨#[]⟩, .string ⟨#[]⟩, .string ⟨#[]⟩, .string ⟨#[]⟩, .string ⟨#[]⟩] 71 ?_; intro aI hg w3 hbox hb; have aN := Aside0.mk (hbox); have fj := Aside0.mk (Sq.ge hg Z0); have ew := Aside0.mk (Sq.ge hg Z0); have aQ := Aside0.mk (Sq.nl hg (blk_lt (g := ag) Z2)); have bj := Aside0.mk (Sq.ng hg (blk_lt (g := ag) Z2)); replace ae := Aside0.mk (blk_below (g := ag) Z2 hb); replace HB := Aside0.mk (below_step Z0 hb); clear hb hbox hg; have hnb4 := aQ.out; have hnc4 := bj.out; have ji := cells_25 ae.out; have sE := cells_23 aN.out) | ((with_reducible refine Pre.gate_store 71 rfl ?_); refine Pre.store_abs (cur := #[.int .i64 0, .int .i64 0, .int .i64 0, .int .i64 0, .int .i64 0, .int .i64 0, .int .i64 0, .int .i64 0, .int .i64 0, .int .i64 0, .int .i64 0, .int .i64 0, .int .i64 0, .int .i64 0, .int .i64 0, .int .i64 0, .string ⟨#[]⟩, .string ⟨#[]⟩, .string ⟨#[]⟩, .string ⟨#[]⟩, .string ⟨#[]⟩, .string ⟨#[]⟩, .string ⟨#[]⟩]) (e := 71) rfl rfl rfl Z23 Z23 Z19 Z14 Z23 Z23 ?_; intro w7 hbS_ sS_; have bY : Aside0 (w7.heap[ag]? = some (.cells #[.int .i64 ax, .int .i64 av, .int .i64 aw, .string ay, .int .i64 az, .int .i64 aH, .string aE, .int .i64 aA, .int .i64 aD, .string aC, .int .i64 au, .string an, .int .i64 al, .int .i64 ak, .int .i64 ar, .int .i64 af, .int .i64 ai, .int .i64 am, .int .i64 ao, .string aa, .string ac, .slice bg ab.length bb, .int .i64 ap, .string aq, .slice aZ ah.length ba] 25 (0, 0))) := ⟨sS_.blk Z2 aQ.out⟩; have ca : Aside0 (w7.heap[aI]? = some (.cells #[.int .i64 ax, .int .i64 av, .int .i64 aw, .int .i64 az, .int .i64 aH, .int .i64 aA, .int .i64 aD, .int .i64 au, .int .i64 al, .int .i64 ak, .int .i64 ar, .int .i64 af, .int .i64 ai, .int .i64 am, .int .i64 ao, .int .i64 ap, .string ay, .string aE, .string aC, .string an, .string aa, .string ac, .string aq] 71 (0, 0))) := ⟨hbS_⟩; have cZ : Aside0 (Below w.heap.size w w7) := ⟨sS_.below Z12 ew.out⟩; clear hbS_ sS_; replace ae := bY; replace aN := ca; replace HB := cZ; clear bY ca cZ))
 refine bodyPost_ret (results_cell_row rfl _ _ aI 71 #[.int .i64 ax, .int .i64 av, .int .i64 aw, .int .i64 az, .int .i64 aH, .int .i64 aA, .int .i64 aD, .int .i64 au, .int .i64 al, .int .i64 ak, .int .i64 ar, .int .i64 af, .int .i64 ai, .int .i64 am, .int .i64 ao, .int .i64 ap, .string ay, .string aE, .string aC, .string an, .string aa, .string ac, .string aq] (0, 0) _ rfl Z19 Try.underlying71 rfl Z14) rfl ?_
 exact ⟨Z5, Z12⟩

/-! ### octet_Fits: function 54 -/
def octet_Fits.f (a0 : Int) (a1 : Int) : Option (Bool) := if a1 ≥ 1 then (if a1 ≤ 7 then (if a0 ≥ 0 then (if 0 ≤ (IntKind.u64.wrap (wrap64 (8 * a1))) then (some ((shr .i64 a0 (IntKind.u64.wrap (wrap64 (8 * a1)))) == 0)) else (none)) else (some false)) else (some false)) else (some false)
set_option maxHeartbeats 8000000 in
set_option maxRecDepth 100000 in
theorem octet_Fits.calls (a0 : Int) (a1 : Int) (r : Bool) (w : World) (h : octet_Fits.f a0 a1 = some r) :
  Calls Try.prog 54 #[.int .i64 a0, .int .i64 a1] w fun e w' => e = .returned (.bool r) ∧ Drawn0 w w' := by
 have H : (if a1 ≥ 1 then (if a1 ≤ 7 then (if a0 ≥ 0 then (if 0 ≤ (IntKind.u64.wrap (wrap64 (8 * a1))) then (some ((shr .i64 a0 (IntKind.u64.wrap (wrap64 (8 * a1)))) == 0)) else (none)) else (some false)) else (some false)) else (some false)) = some r := h
 clear h
 by_cases c3 : a1 ≥ 1
 ·rw [if_pos c3] at H
  have fZ : decide (1 ≤ a1) = true := decide_eq_true c3
  clear c3
  by_cases c4 : a1 ≤ 7
  ·rw [if_pos c4] at H
   have dg : decide (a1 ≤ 7) = true := decide_eq_true c4
   clear c4
   by_cases c5 : a0 ≥ 0
   ·rw [if_pos c5] at H
    have fM : decide (0 ≤ a0) = true := decide_eq_true c5
    clear c5
    obtain ⟨ji6, hji6⟩ : ∃ j_ : Int, (IntKind.u64.wrap (wrap64 (8 * a1))) = j_ := ⟨_, rfl⟩
    replace H : (if 0 ≤ (ji6) then (some ((shr .i64 a0 (ji6)) == 0)) else (none)) = some r := by first | (rw [hji6] at H; exact H) | (simp only [hji6] at H ⊢; exact H)
    by_cases c7 : 0 ≤ (ji6)
    ·rw [if_pos c7] at H
     have fp := eq_true c7
     have jF : decide (0 ≤ (ji6)) = true := decide_eq_true c7
     clear c7
     obtain ⟨ji8, hji8⟩ : ∃ j_ : Int, (shr .i64 a0 (ji6)) = j_ := ⟨_, rfl⟩
     replace H : (some ((ji8) == 0)) = some r := by first | (rw [hji8] at H; exact H) | (simp only [hji8] at H ⊢; exact H)
     have hji8_ : (a0 / 2 ^ min (ji6).toNat 64) = ji8 := hji8
     have hji8z : (ji6) ≤ 64 → (a0 / 2 ^ (ji6).toNat) = ji8 := shr_small hji8
     obtain rfl := Option.some.inj H
     go_enter Try.func54, Try.ntmps54
     go_wp2
     go_ret
     exact ⟨by first | rfl | (simp; done) | (simp only [← hji6, ← hji8] <;> (first | rfl | simp)) | (simp [*]; done), Z49⟩
    ·rw [if_neg c7] at H
     exact absurd H Z71
   ·rw [if_neg c5] at H
    have fM : decide (0 ≤ a0) = false := decide_eq_false c5
    clear c5
    obtain rfl := Option.some.inj H
    go_enter Try.func54, Try.ntmps54
    go_wp2
    go_ret
    exact ⟨Z16, Z49⟩
  ·rw [if_neg c4] at H
   have dg : decide (a1 ≤ 7) = false := decide_eq_false c4
   clear c4
   obtain rfl := Option.some.inj H
   go_enter Try.func54, Try.ntmps54
   go_wp2
   go_ret
   exact ⟨Z16, Z49⟩
 ·rw [if_neg c3] at H
  have fZ : decide (1 ≤ a1) = false := decide_eq_false c3
  clear c3
  obtain rfl := Option.some.inj H
  go_enter Try.func54, Try.ntmps54
  go_wp2
  go_ret
  exact ⟨Z16, Z49⟩

/-! ### msg_Subs: function 74 -/
def msg_Subs.l0 : Nat → Int → Int → List (S48) → Int → Int → Option (Bool)
 | 0, _, _, _, _, _ => none
 | k + 1, x1, x2, x9, ga, ms => if ms < ga then (if 0 ≤ ms then (if ms < (x9.length : Int) then (if ((rd_T48 x9 ms).f0) < x1 then (some false) else (if ((rd_T48 x9 ms).f0) > x2 then (some false) else (if (((rd_T48 x9 ms).f1).size : Int) > 255 then (some false) else (msg_Subs.l0 k x1 x2 x9 ga (wrap64 (ms + 1)))))) else (none)) else (none)) else (some true)
def msg_Subs.f (k : Nat) (l0 : List (S48)) (a1 : Int) (a2 : Int) : Option (Bool) := msg_Subs.l0 k a1 a2 l0 (l0.length : Int) 0
theorem msg_Subs.mono_l : ∀ k, (∀ y0 y1 y2 y3 y4, LeO (msg_Subs.l0 k y0 y1 y2 y3 y4) (msg_Subs.l0 (k + 1) y0 y1 y2 y3 y4))
 | 0 => Sq.mz
 | k + 1 => by
  have ih0 := msg_Subs.mono_l k
  ·intros
   unfold msg_Subs.l0
   exact Sq.mo
theorem msg_Subs.mono : ∀ a0 a1 a2 k, LeO (msg_Subs.f k a0 a1 a2) (msg_Subs.f (k + 1) a0 a1 a2) := by
 intro a0 a1 a2 k
 have ih0 := msg_Subs.mono_l k
 unfold msg_Subs.f
 exact Sq.mo
set_option maxHeartbeats 8000000 in
set_option maxRecDepth 100000 in
theorem msg_Subs.calls (k : Nat) (A0 : Option Addr) (c0 : Nat) (l0 : List (S48)) (a1 : Int) (a2 : Int) (r : Bool) (w : World) (hS : Kd.C k48 w A0 l0.length l0) (gN : l0.length ≤ c0) (h : msg_Subs.f k l0 a1 a2 = some r) :
  Calls Try.prog 74 #[.slice A0 l0.length c0, .int .i64 a1, .int .i64 a2] w fun e w' => e = .returned (.bool r) ∧ Below w.heap.size w w' := by
 have mn := Try.underlying48
 have gY := Aside0.mk hS
 have lh := Aside0.mk gN
 clear hS gN
 have HB := Aside0.mk (Below.refl w.heap.size w)
 have H : (msg_Subs.l0 k a1 a2 l0 (l0.length : Int) 0) = some r := h
 clear h
 have H' := Aside0.mk H
 clear H
 go_enter Try.func74, Try.ntmps74
 go_wp2
 go_loopg [11] k (fun kq kL w' => ∃ (cI : Int), kL = .int .i64 cI ∧ Aside0 (msg_Subs.l0 kq a1 a2 l0 (l0.length : Int) cI = some r) ∧ Aside0 (kq ≤ k) ∧ Aside0 (Below w.heap.size w w'))
 case atStart => exact ⟨(0), Z16, H', ⟨Nat.le_refl _⟩, ⟨Z1⟩⟩
 case round =>
  clear H'
  try clear p2
  obtain ⟨cI, rfl, HA, HK1, HB⟩ := hrel
  cases gk with
  | zero => exact absurd HA.out (by simp [msg_Subs.l0])
  | succ k1 =>
   have H := HA.out
   clear HA
   simp only [msg_Subs.l0] at H
   by_cases c4 : cI < (l0.length : Int)
   ·rw [if_pos c4] at H
    have dg : decide (cI < (l0.length : Int)) = true := decide_eq_true c4
    clear c4
    by_cases c5 : 0 ≤ cI
    ·rw [if_pos c5] at H
     have fM : decide (0 ≤ cI) = true := decide_eq_true c5
     clear c5
     by_cases c6 : cI < (l0.length : Int)
     ·rw [if_pos c6] at H
      have fg : decide (cI < (l0.length : Int)) = true := decide_eq_true c6
      clear c6
      by_cases c7 : ((rd_T48 l0 cI).f0) < a1
      ·rw [if_pos c7] at H
       have fp : decide (((rd_T48 l0 cI).f0) < a1) = true := decide_eq_true c7
       clear c7
       obtain rfl := Option.some.inj H
       have p101 : 0 ≤ (cI : Int) := of_decide_eq_true Z6
       have q101 : cI < (l0.length : Int) := of_decide_eq_true Z6
       obtain ⟨ad101, e101, hx101_0, hx101_1⟩ := at_T48 gY.out cI p101 q101
       cases e101
       replace hx101_0 := Sq.up HB.out hx101_0
       replace hx101_1 := Sq.up HB.out hx101_1
       replace p101 := eq_true p101
       replace q101 := eq_true q101
       go_wp2_with (first | ((with_reducible refine gate_dst (N := 8) rfl ?_); (try (refine gate_guard Z23 ?_; dsimp only)); refine Sq.box 8 #[.int .i64 0, .string ⟨#[]⟩] 48 ?_; intro aI hg w8 hbox hb; have aN := Aside0.mk (hbox); have fj := Aside0.mk (Sq.ge hg Z1); have ew := Aside0.mk (Sq.ge hg Z1); replace HB := Aside0.mk (below_step Z1 hb); clear hb hbox hg; have hcz9_0 : w8.cell? ⟨aI, 0, none⟩ = some (.int .i64 0) := (blk_cell aN.out 0).trans rfl; have hcz9_1 : w8.cell? ⟨aI, 1, none⟩ = some (.string ⟨#[]⟩) := (blk_cell aN.out 1).trans rfl; have hfz9_0 := blk_frozen aN.out 0; have hfz9_1 := blk_frozen aN.out 1))
       go_ret
       exact ⟨Z5, Z56⟩
      ·rw [if_neg c7] at H
       have fp : decide (((rd_T48 l0 cI).f0) < a1) = false := decide_eq_false c7
       clear c7
       by_cases ey : ((rd_T48 l0 cI).f0) > a2
       ·rw [if_pos ey] at H
        have eW : decide (a2 < ((rd_T48 l0 cI).f0)) = true := decide_eq_true ey
        clear ey
        obtain rfl := Option.some.inj H
        have p101 : 0 ≤ (cI : Int) := of_decide_eq_true Z6
        have q101 : cI < (l0.length : Int) := of_decide_eq_true Z6
        obtain ⟨ad101, e101, hx101_0, hx101_1⟩ := at_T48 gY.out cI p101 q101
        cases e101
        replace hx101_0 := Sq.up HB.out hx101_0
        replace hx101_1 := Sq.up HB.out hx101_1
        replace p101 := eq_true p101
        replace q101 := eq_true q101
        go_wp2_with (first | ((with_reducible refine gate_dst (N := 8) rfl ?_); (try (refine gate_guard Z23 ?_; dsimp only)); refine Sq.box 8 #[.int .i64 0, .string ⟨#[]⟩] 48 ?_; intro aI hg ln hbox hb; have aN := Aside0.mk (hbox); have fj := Aside0.mk (Sq.ge hg Z1); have ew := Aside0.mk (Sq.ge hg Z1); replace HB := Aside0.mk (below_step Z1 hb); clear hb hbox hg; have hcz12_0 : ln.cell? ⟨aI, 0, none⟩ = some (.int .i64 0) := (blk_cell aN.out 0).trans rfl; have hcz12_1 : ln.cell? ⟨aI, 1, none⟩ = some (.string ⟨#[]⟩) := (blk_cell aN.out 1).trans rfl; have hfz12_0 := blk_frozen aN.out 0; have hfz12_1 := blk_frozen aN.out 1))
        go_ret
        exact ⟨Z5, Z56⟩
       ·rw [if_neg ey] at H
        have eW : decide (a2 < ((rd_T48 l0 cI).f0)) = false := decide_eq_false ey
        clear ey
        by_cases eU : (((rd_T48 l0 cI).f1).size : Int) > 255
        ·rw [if_pos eU] at H
         have gL : decide (255 < (((rd_T48 l0 cI).f1).size : Int)) = true := decide_eq_true eU
         have hM : decide (255 < ((rd_T48 l0 cI).f1).size) = true := decide_eq_true Z40
         clear eU
         obtain rfl := Option.some.inj H
         have p101 : 0 ≤ (cI : Int) := of_decide_eq_true Z6
         have q101 : cI < (l0.length : Int) := of_decide_eq_true Z6
         obtain ⟨ad101, e101, hx101_0, hx101_1⟩ := at_T48 gY.out cI p101 q101
         cases e101
         replace hx101_0 := Sq.up HB.out hx101_0
         replace hx101_1 := Sq.up HB.out hx101_1
         replace p101 := eq_true p101
         replace q101 := eq_true q101
         go_wp2_with (first | ((with_reducible refine gate_dst (N := 8) rfl ?_); (try (refine gate_guard Z23 ?_; dsimp only)); refine Sq.box 8 #[.int .i64 0, .string ⟨#[]⟩] 48 ?_; intro aI hg lr hbox hb; have aN := Aside0.mk (hbox); have fj := Aside0.mk (Sq.ge hg Z1); have ew := Aside0.mk (Sq.ge hg Z1); replace HB := Aside0.mk (below_step Z1 hb); clear hb hbox hg; have hcz15_0 : lr.cell? ⟨aI, 0, none⟩ = some (.int .i64 0) := (blk_cell aN.out 0).trans rfl; have hcz15_1 : lr.cell? ⟨aI, 1, none⟩ = some (.string ⟨#[]⟩) := (blk_cell aN.out 1).trans rfl; have hfz15_0 := blk_frozen aN.out 0; have hfz15_1 := blk_frozen aN.out 1))
         go_ret
         exact ⟨Z5, Z56⟩
        ·rw [if_neg eU] at H
         have gL : decide (255 < (((rd_T48 l0 cI).f1).size : Int)) = false := decide_eq_false eU
         have hM : decide (255 < ((rd_T48 l0 cI).f1).size) = false := decide_eq_false Z40
         clear eU
         have H' := Aside0.mk H
         clear H
         have p101 : 0 ≤ (cI : Int) := of_decide_eq_true Z6
         have q101 : cI < (l0.length : Int) := of_decide_eq_true Z6
         obtain ⟨ad101, e101, hx101_0, hx101_1⟩ := at_T48 gY.out cI p101 q101
         cases e101
         replace hx101_0 := Sq.up HB.out hx101_0
         replace hx101_1 := Sq.up HB.out hx101_1
         replace p101 := eq_true p101
         replace q101 := eq_true q101
         go_wp2_with (first | ((with_reducible refine gate_dst (N := 8) rfl ?_); (try (refine gate_guard Z23 ?_; dsimp only)); refine Sq.box 8 #[.int .i64 0, .string ⟨#[]⟩] 48 ?_; intro aI hg jG hbox hb; have aN := Aside0.mk (hbox); have fj := Aside0.mk (Sq.ge hg Z1); have ew := Aside0.mk (Sq.ge hg Z1); replace HB := Aside0.mk (below_step Z1 hb); clear hb hbox hg; have mt : jG.cell? ⟨aI, 0, none⟩ = some (.int .i64 0) := (blk_cell aN.out 0).trans rfl; have mu : jG.cell? ⟨aI, 1, none⟩ = some (.string ⟨#[]⟩) := (blk_cell aN.out 1).trans rfl; have hfz17_0 := blk_frozen aN.out 0; have hfz17_1 := blk_frozen aN.out 1))
         go_roundg k1
         case measure => have := HK1.out; omega
         case rel => exact ⟨(wrap64 (cI + 1)), Z16, H', ⟨Z86⟩, ⟨Z56⟩⟩
     ·rw [if_neg c6] at H
      exact absurd H Z71
    ·rw [if_neg c5] at H
     exact absurd H Z71
   ·rw [if_neg c4] at H
    have dg : decide (cI < (l0.length : Int)) = false := decide_eq_false c4
    clear c4
    obtain rfl := Option.some.inj H
    go_wp2
    go_ret
    exact ⟨Z5, Z1⟩

/-! ### msg_Bytes: function 71 -/
def msg_Bytes.l0 : Nat → Int → List (S48) → Int → Int → Option (Int)
 | 0, _, _, _, _ => none
 | k + 1, x3, x6, x7, x8 => if x8 < x7 then (if 0 ≤ x8 then (if x8 < (x6.length : Int) then (msg_Bytes.l0 k (wrap64 (x3 + (wrap64 (2 + (((rd_T48 x6 x8).f1).size : Int))))) x6 x7 (wrap64 (x8 + 1))) else (none)) else (none)) else (some x3)
def msg_Bytes.f (k : Nat) (l0 : List (S48)) : Option (Int) := msg_Bytes.l0 k 0 l0 (l0.length : Int) 0
theorem msg_Bytes.mono_l : ∀ k, (∀ y0 y1 y2 y3, LeO (msg_Bytes.l0 k y0 y1 y2 y3) (msg_Bytes.l0 (k + 1) y0 y1 y2 y3))
 | 0 => Sq.mz
 | k + 1 => by
  have ih0 := msg_Bytes.mono_l k
  ·intros
   unfold msg_Bytes.l0
   exact Sq.mo
theorem msg_Bytes.mono : ∀ a0 k, LeO (msg_Bytes.f k a0) (msg_Bytes.f (k + 1) a0) := by
 intro a0 k
 have ih0 := msg_Bytes.mono_l k
 unfold msg_Bytes.f
 exact Sq.mo
set_option maxHeartbeats 8000000 in
set_option maxRecDepth 100000 in
theorem msg_Bytes.calls (k : Nat) (A0 : Option Addr) (c0 : Nat) (l0 : List (S48)) (r : Int) (w : World) (hS : Kd.C k48 w A0 l0.length l0) (gN : l0.length ≤ c0) (h : msg_Bytes.f k l0 = some r) :
  Calls Try.prog 71 #[.slice A0 l0.length c0] w fun e w' => e = .returned (.int .i64 r) ∧ Below w.heap.size w w' := by
 have mn := Try.underlying48
 have gY := Aside0.mk hS
 have lh := Aside0.mk gN
 clear hS gN
 have HB := Aside0.mk (Below.refl w.heap.size w)
 have H : (msg_Bytes.l0 k 0 l0 (l0.length : Int) 0) = some r := h
 clear h
 have H' := Aside0.mk H
 clear H
 go_enter Try.func71, Try.ntmps71
 go_wp2
 go_loopg [3, 8] k (fun kq v3 v8 w' => ∃ (mv : Int) (gp : Int), v3 = .int .i64 mv ∧ v8 = .int .i64 gp ∧ Aside0 (msg_Bytes.l0 kq mv l0 (l0.length : Int) gp = some r) ∧ Aside0 (kq ≤ k) ∧ Aside0 (Below w.heap.size w w'))
 case atStart => exact ⟨(0), (0), Z16, Z16, H', ⟨Nat.le_refl _⟩, ⟨Z1⟩⟩
 case round =>
  clear H'
  obtain ⟨mv, gp, rfl, rfl, HA, HK1, HB⟩ := hrel
  cases gk with
  | zero => exact absurd HA.out (by simp [msg_Bytes.l0])
  | succ k1 =>
   have H := HA.out
   clear HA
   simp only [msg_Bytes.l0] at H
   by_cases c2 : gp < (l0.length : Int)
   ·rw [if_pos c2] at H
    have gj : decide (gp < (l0.length : Int)) = true := decide_eq_true c2
    clear c2
    by_cases c3 : 0 ≤ gp
    ·rw [if_pos c3] at H
     have fZ : decide (0 ≤ gp) = true := decide_eq_true c3
     clear c3
     by_cases c4 : gp < (l0.length : Int)
     ·rw [if_pos c4] at H
      have dg : decide (gp < (l0.length : Int)) = true := decide_eq_true c4
      clear c4
      have H' := Aside0.mk H
      clear H
      have p101 : 0 ≤ (gp : Int) := of_decide_eq_true Z6
      have q101 : gp < (l0.length : Int) := of_decide_eq_true Z6
      obtain ⟨ad101, e101, hx101_0, hx101_1⟩ := at_T48 gY.out gp p101 q101
      cases e101
      replace hx101_0 := Sq.up HB.out hx101_0
      replace hx101_1 := Sq.up HB.out hx101_1
      replace p101 := eq_true p101
      replace q101 := eq_true q101
      go_wp2_with (first | ((with_reducible refine gate_dst (N := 5) rfl ?_); refine Sq.box 5 #[.int .i64 0, .string ⟨#[]⟩] 48 ?_; intro aI hg w5 hbox hb; have aN := Aside0.mk (hbox); have fj := Aside0.mk (Sq.ge hg Z1); have ew := Aside0.mk (Sq.ge hg Z1); replace HB := Aside0.mk (below_step Z1 hb); clear hb hbox hg; have hcz6_0 : w5.cell? ⟨aI, 0, none⟩ = some (.int .i64 0) := (blk_cell aN.out 0).trans rfl; have hcz6_1 : w5.cell? ⟨aI, 1, none⟩ = some (.string ⟨#[]⟩) := (blk_cell aN.out 1).trans rfl; have hfz6_0 := blk_frozen aN.out 0; have hfz6_1 := blk_frozen aN.out 1))
      go_roundg k1
      case measure => have := HK1.out; omega
      case rel => exact ⟨(wrap64 (mv + (wrap64 (2 + (((rd_T48 l0 gp).f1).size : Int))))), (wrap64 (gp + 1)), Z16, Z16, H', ⟨Z86⟩, ⟨Z56⟩⟩
     ·rw [if_neg c4] at H
      exact absurd H Z71
    ·rw [if_neg c3] at H
     exact absurd H Z71
   ·rw [if_neg c2] at H
    have gj : decide (gp < (l0.length : Int)) = false := decide_eq_false c2
    clear c2
    obtain rfl := Option.some.inj H
    go_wp2
    go_ret
    exact ⟨Z5, Z1⟩

/-! ### octet_Put: function 67 -/
def octet_Put.l0 : Nat → Int → List Int → Int → Option (ByteArray × Bool)
 | 0, _, _, _ => none
 | k + 1, x0, x6, x7 => if x7 ≥ 0 then (if 0 ≤ x7 then (if x7 < (x6.length : Int) then (octet_Put.l0 k (x0 / 256) (x6.set (x7 : Int).toNat ((x0) % 256)) (wrap64 (x7 - 1))) else (none)) else (none)) else (some (strOfNums x6, true))
def octet_Put.f (k : Nat) (a0 : Int) (a1 : Int) : Option (ByteArray × Bool) := (octet_Fits.f a0 a1).bind fun ck => (if ck = true then (if 0 ≤ a1 then (if (a1 : Int).toNat ≤ 281474976710656 then (octet_Put.l0 k a0 (List.replicate (a1 : Int).toNat 0) (wrap64 (a1 - 1))) else (none)) else (none)) else (some ((⟨#[]⟩ : ByteArray), false)))
theorem octet_Put.mono_l : ∀ k, (∀ y0 y1 y2, LeO (octet_Put.l0 k y0 y1 y2) (octet_Put.l0 (k + 1) y0 y1 y2))
 | 0 => Sq.mz
 | k + 1 => by
  have ih0 := octet_Put.mono_l k
  ·intros
   unfold octet_Put.l0
   exact Sq.mo
theorem octet_Put.mono : ∀ a0 a1 k, LeO (octet_Put.f k a0 a1) (octet_Put.f (k + 1) a0 a1) := by
 intro a0 a1 k
 have ih0 := octet_Put.mono_l k
 unfold octet_Put.f
 exact Sq.mo
set_option maxHeartbeats 8000000 in
set_option maxRecDepth 100000 in
theorem octet_Put.calls (k : Nat) (a0 : Int) (a1 : Int) (r1 : ByteArray) (r2 : Bool) (w : World) (h : octet_Put.f k a0 a1 = some (r1, r2)) :
  Calls Try.prog 67 #[.int .i64 a0, .int .i64 a1] w fun e w' => e = .returned (.tuple #[.string r1, .bool r2]) ∧ Below w.heap.size w w' := by
 have HB := Aside0.mk (Below.refl w.heap.size w)
 have H : ((octet_Fits.f a0 a1).bind fun ck => (if ck = true then (if 0 ≤ a1 then (if (a1 : Int).toNat ≤ 281474976710656 then (octet_Put.l0 k a0 (List.replicate (a1 : Int).toNat 0) (wrap64 (a1 - 1))) else (none)) else (none)) else (some ((⟨#[]⟩ : ByteArray), false)))) = some (r1, r2) := h
 clear h
 replace H := Option.bind_eq_some_iff.mp H
 obtain ⟨ck, ma, H⟩ := H
 replace H : (if ck = true then (if 0 ≤ a1 then (if (a1 : Int).toNat ≤ 281474976710656 then (octet_Put.l0 k a0 (List.replicate (a1 : Int).toNat 0) (wrap64 (a1 - 1))) else (none)) else (none)) else (some ((⟨#[]⟩ : ByteArray), false))) = some (r1, r2) := H
 have A3 := Aside0.mk ma
 clear ma
 by_cases c4 : ck = true
 ·subst c4
  have H1 : (if 0 ≤ a1 then (if (a1 : Int).toNat ≤ 281474976710656 then (octet_Put.l0 k a0 (List.replicate (a1 : Int).toNat 0) (wrap64 (a1 - 1))) else (none)) else (none)) = some (r1, r2) := by rw [if_pos rfl] at H; exact H
  clear H
  have H := H1
  clear H1
  by_cases c5 : 0 ≤ a1
  ·rw [if_pos c5] at H
   have fM := eq_true c5
   have ib : decide (0 ≤ a1) = true := decide_eq_true c5
   clear c5
   by_cases c6 : (a1 : Int).toNat ≤ 281474976710656
   ·rw [if_pos c6] at H
    have fg := eq_true c6
    have fQ : decide ((a1 : Int).toNat ≤ 281474976710656) = true := decide_eq_true c6
    clear c6
    obtain ⟨qI, hy102⟩ : ∃ y_ : List Int, y_ = (List.replicate (a1 : Int).toNat 0) := ⟨_, rfl⟩
    replace H : (octet_Put.l0 k a0 qI (wrap64 (a1 - 1))) = some (r1, r2) := by first | (rw [hy102]; with_reducible exact H) | (have H2_ := (Option.bind_some _ _).symm.trans H; rw [hy102]; with_reducible exact H2_) | (have H2_ := (Option.bind_some _ _).symm.trans H; with_reducible exact H2_) | with_reducible exact H | (rw [hy102]; exact H) | exact H
    have Ny102 := Aside0.mk hy102
    clear hy102
    have H' := Aside0.mk H
    clear H
    go_enter Try.func67, Try.ntmps67
    go_wp2_with (first | ((with_reducible refine gate_callee (f := 54) rfl ?_); refine goesL_ (some 10) rfl rfl Try.func54 Z14 rfl #[.int .i64 a0, .int .i64 a1] rfl Z4 ?_; (with_reducible refine (octet_Fits.calls a0 a1 true _ A3.out).mono ?_); rintro e w' ⟨rfl, ⟨nd, rfl⟩⟩; refine ⟨_, rfl, ?_⟩) | ((with_reducible refine gate_dst (N := 13) rfl ?_); refine Kd.R_make (Kd.int .u8) _ 5 rfl (N := 13) rfl 51 _ _ rfl a1 rfl rfl Try.underlying51 (.int .u8 0) 1 info5 rfl Z29 Z40 0 (ok := fun _ => True) (okp := fun _ => True) rfl (fun _ hk => hk) trivial (of_decide_eq_true Z6) (Nat.le_trans (Nat.mul_le_mul_right _ (of_decide_eq_true Z6 : a1.toNat ≤ 281474976710656)) Z40) (Below.refl _ _) (Nat.le_refl _) ?_; intro sF w7 ho8 hb hg_ hnew_; clear hg_ hnew_; (first | rw [← Ny102.out] at ho8 | (simp only [Int.reduceToNat] at ho8; rw [← Ny102.out] at ho8)); have qJ := Aside0.mk (Kd.R_lower ho8 (below_size Z1)); replace HB := Aside0.mk (below_step Z1 hb); clear hb ho8))
    go_loopg [0, 7] k (fun kq v0 v7 w' => ∃ (jv : Int) (jw : List Int) (fO : Int), v0 = .int .i64 jv ∧ v7 = .int .i64 fO ∧ Aside0 (octet_Put.l0 kq jv jw fO = some (r1, r2)) ∧ Aside0 (kq ≤ k) ∧ Aside0 (Kd.R (Kd.int .u8) 5 w' w.heap.size (fun _ => True) sF jw) ∧ Aside0 (Below w.heap.size w w'))
    case atStart => exact ⟨(a0), (qI), (wrap64 (a1 - 1)), Z16, Z16, H', ⟨Nat.le_refl _⟩, ⟨by (with_reducible repeat (first | apply Kd.R_alloc | apply Kd.R_drewN | apply Kd.R_drew)); exact qJ.out⟩, ⟨Z1⟩⟩
    case round =>
     clear H'
     try clear p2
     try clear c4
     try clear c5
     try clear fM
     try clear ib
     try clear c6
     try clear fg
     try clear fQ
     try clear p6
     obtain ⟨jv, jw, fO, rfl, rfl, HA, HK1, HO_6, HB⟩ := hrel
     cases gk with
     | zero => exact absurd HA.out (by simp [octet_Put.l0])
     | succ k1 =>
      have H := HA.out
      clear HA
      simp only [octet_Put.l0] at H
      by_cases c9 : fO ≥ 0
      ·rw [if_pos c9] at H
       have ic : decide (0 ≤ fO) = true := decide_eq_true c9
       clear c9
       by_cases ey : 0 ≤ fO
       ·rw [if_pos ey] at H
        have eW : decide (0 ≤ fO) = true := decide_eq_true ey
        clear ey
        by_cases ee : fO < (jw.length : Int)
        ·rw [if_pos ee] at H
         have eX : decide (fO < (jw.length : Int)) = true := decide_eq_true ee
         clear ee
         obtain ⟨bZ, hy105⟩ : ∃ y_ : List Int, y_ = (jw.set (fO : Int).toNat ((jv) % 256)) := ⟨_, rfl⟩
         replace H : (octet_Put.l0 k1 (jv / 256) bZ (wrap64 (fO - 1))) = some (r1, r2) := by first | (rw [hy105]; with_reducible exact H) | (have H2_ := (Option.bind_some _ _).symm.trans H; rw [hy105]; with_reducible exact H2_) | (have H2_ := (Option.bind_some _ _).symm.trans H; with_reducible exact H2_) | with_reducible exact H | (rw [hy105]; exact H) | exact H
         have Ny105 := Aside0.mk hy105
         clear hy105
         have H' := Aside0.mk H
         clear H
         have p12 : 0 ≤ (fO : Int) := of_decide_eq_true Z6
         have q12 : (fO : Int) < ((jw.length : Int) : Int) := of_decide_eq_true Z6
         obtain ⟨go12, mw, eo12, qK, gl12, cl12, HG12⟩ := Kd.R_form HO_6.out Z40
         (first | cases eo12 | (injection eo12 with ea_ en_ ec_; (first | subst ea_ | (injection ea_ with ea_; subst ea_)); subst ec_; clear en_))
         have GB12 := Aside0.mk qK
         have GG12 := Aside0.mk HG12
         clear qK gl12 HG12
         obtain ⟨hx12_0, hf12_0⟩ := Kd.R_celln 0 HO_6.out (fO : Int) p12 q12
         replace p12 := eq_true p12
         replace q12 := eq_true q12
         have HP13 := Kd.R_putg HO_6.out (fO : Int) ((jv) % 256)
         go_wp2_with (first | ((with_reducible refine gate_store (t := 5) (p := 24) rfl ?_); refine store_event (t := 5) (p := 24) (v := ?vo_w14) (w1 := (wr.setCell ⟨go12, (fO : Int).toNat, none⟩ (.int .u8 ((jv) % 256)))) ?hg ?ho ?hn ?hr ?_; (case ho => rfl); (case hg => rfl); (case hn => rfl); (case hr => first | (go_simp; done) | (go_simp; rfl)); intro lr hw; have hg : wr.grownBy lr (some go12) := (by rw [hw]; exact HP13.2); have hp_ : Kd.R (Kd.int .u8) 5 lr w.heap.size (fun _ => True) (.slice (some ⟨go12, 0, none⟩) jw.length mw) bZ := (by rw [hw, Ny105.out]; exact HP13.1); clear HP13; replace HO_6 := Aside0.mk (hp_); replace HB := Aside0.mk ((by rw [hw]; exact below_set (HB.out) GB12.out : Below w.heap.size w lr)); clear hg hw hp_))
         go_roundg k1
         case measure => have := HK1.out; omega
         case rel => exact ⟨(jv / 256), (bZ), (wrap64 (fO - 1)), Z16, Z16, H', ⟨Z86⟩, ⟨by (with_reducible repeat (first | apply Kd.R_alloc | apply Kd.R_drewN | apply Kd.R_drew)); exact HO_6.out⟩, ⟨Z1⟩⟩
        ·rw [if_neg ee] at H
         exact absurd H Z71
       ·rw [if_neg ey] at H
        exact absurd H Z71
      ·rw [if_neg c9] at H
       have ic : decide (0 ≤ fO) = false := decide_eq_false c9
       clear c9
       simp only [Option.some.injEq, Prod.mk.injEq] at H
       obtain ⟨rfl, rfl⟩ := H
       have hcv15 := own_string (P := Try.prog) Try.underlying51 Try.underlying5 Try.underlying9 (Kd.own_of_R HO_6.out)
       go_wp2
       go_ret2
       exact ⟨Z5, Z1⟩
   ·rw [if_neg c6] at H
    exact absurd H Z71
  ·rw [if_neg c5] at H
   exact absurd H Z71
 ·replace c4 := Bool.eq_false_iff.mpr c4
  subst c4
  have H1 : (some ((⟨#[]⟩ : ByteArray), false)) = some (r1, r2) := by rw [if_neg (show ¬ (false = true) by decide)] at H; exact H
  clear H
  have H := H1
  clear H1
  simp only [Option.some.injEq, Prod.mk.injEq] at H
  obtain ⟨rfl, rfl⟩ := H
  go_enter Try.func67, Try.ntmps67
  go_wp2_with (first | ((with_reducible refine gate_callee (f := 54) rfl ?_); refine goesL_ (some 10) rfl rfl Try.func54 Z14 rfl #[.int .i64 a0, .int .i64 a1] rfl Z4 ?_; (with_reducible refine (octet_Fits.calls a0 a1 false _ A3.out).mono ?_); rintro e w' ⟨rfl, ⟨nd, rfl⟩⟩; refine ⟨_, rfl, ?_⟩))
  go_ret2
  exact ⟨Z5, Z1⟩

end Go.Proofs.Ytccjakjjaemmkaa.PAB
