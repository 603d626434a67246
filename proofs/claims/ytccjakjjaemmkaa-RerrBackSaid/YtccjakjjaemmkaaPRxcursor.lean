-- Written by mp.py, a program of this work (wip/tools), out of the translation; Lean checks it.
import Derived.Test.YtccjakjjaemmkaaPRxZ
import Derived.Test.YtccjakjjaemmkaaConv
import Derived.RegionTactic
import Derived.ChangeAlike
namespace Go.Proofs.Ytccjakjjaemmkaa.PR
open Go.RowKit Go.Proofs.YtccjakjjaemmkaaW.PrintWords Go.Proofs.YtccjakjjaemmkaaW.PrintLast Go.Proofs.YtccjakjjaemmkaaW.PrintMore
attribute [local go_sem] max2_int min2_int max_two min_two max_three min_three max_four min_four   -- for this text's walks alone
set_option linter.unusedVariables false
set_option linter.unusedSimpArgs false

/-! ### cursor_step: function 77 -/
def cursor_step.f (av : ByteArray) (au : Int) (aw : Int) (ay : Bool) (a1 : Int) : Option (ByteArray × Int × Int × Bool × Bool) := if ay = true then (some (av, au, aw, true, false)) else (if a1 < 0 then (some (av, au, aw, true, false)) else (if a1 > (wrap64 (aw - au)) then (some (av, au, aw, true, false)) else (some (av, wrap64 (au + a1), aw, ay, true))))
set_option maxHeartbeats 8000000 in
set_option maxRecDepth 100000 in
theorem cursor_step.calls (av : ByteArray) (au : Int) (aw : Int) (ay : Bool) (a1 : Int) (r1 : ByteArray) (r2 : Int) (r3 : Int) (r4 : Bool) (r5 : Bool) (w : World) (h : cursor_step.f av au aw ay a1 = some (r1, r2, r3, r4, r5)) :
  Calls Try.prog 77 #[.agg #[.string av, .int .i64 au, .int .i64 aw, .bool ay], .int .i64 a1] w fun e w' => e = .returned (.tuple #[.agg #[.string r1, .int .i64 r2, .int .i64 r3, .bool r4], .bool r5]) ∧ Below w.heap.size w w' := by
 have kZ := Try.underlying60
 have HB := Aside0.mk (Below.refl w.heap.size w)
 have H : (if ay = true then (some (av, au, aw, true, false)) else (if a1 < 0 then (some (av, au, aw, true, false)) else (if a1 > (wrap64 (aw - au)) then (some (av, au, aw, true, false)) else (some (av, wrap64 (au + a1), aw, ay, true))))) = some (r1, r2, r3, r4, r5) := h
 clear h
 by_cases c3 : ay = true
 ·subst c3
  have H1 : (some (av, au, aw, true, false)) = some (r1, r2, r3, r4, r5) := by rw [if_pos rfl] at H; exact H
  clear H
  have H := H1
  clear H1
  simp only [Option.some.injEq, Prod.mk.injEq] at H
  obtain ⟨rfl, rfl, rfl, rfl, rfl⟩ := H
  go_enter Try.func77, Try.ntmps77
  go_wp2_with (first | ((with_reducible refine gate_dst (N := 2) rfl ?_); refine box_event ?hg (N := 2) ?hd (cs := #[.string av, .int .i64 au, .int .i64 aw, .bool true]) (t := 60) ?hr ?_; (case hd => rfl); (case hg => rfl); (case hr => first | (go_simp; done) | (go_simp; rfl)); intro aa hg w4 hbox hb; have aG := Aside0.mk (below_step Z3 hb); have aH := Aside0.mk (hbox); have aI := Aside0.mk ((by rw [hg]; exact (below_size Z3) : w.heap.size ≤ aa)); have aZ := Aside0.mk ((by rw [hg]; exact (below_size Z3) : w.heap.size ≤ aa)); replace HB := aG; have ab := aH; have cl := aI; have bs := aZ; clear aG aH aI aZ; clear hb hbox hg) | ((with_reducible refine gate_dst (N := 4) rfl ?_); refine box_event ?hg (N := 4) ?hd (cs := #[.string ⟨#[]⟩, .int .i64 0, .int .i64 0, .bool false]) (t := 60) ?hr ?_; (case hd => rfl); (case hg => rfl); (case hr => first | (go_simp; done) | (go_simp; rfl)); intro aU hg w5 hbox hb; have aG := Aside0.mk (blk_below (g := aa) (o := .cells #[.string av, .int .i64 au, .int .i64 aw, .bool true] 60 (0, 0)) Z1 hb); have aH := Aside0.mk (below_step Z0 hb); have aI := Aside0.mk (hbox); have aZ := Aside0.mk ((by rw [hg]; exact (below_size Z0) : w.heap.size ≤ aU)); have bH := Aside0.mk ((by rw [hg]; exact (below_size Z0) : w.heap.size ≤ aU)); have cx := Aside0.mk ((by rw [hg]; exact Nat.ne_of_lt (blk_lt (g := aa) (o := .cells #[.string av, .int .i64 au, .int .i64 aw, .bool true] 60 (0, 0)) Z1) : aa ≠ aU)); have du := Aside0.mk ((by rw [hg]; exact Nat.ne_of_gt (blk_lt (g := aa) (o := .cells #[.string av, .int .i64 au, .int .i64 aw, .bool true] 60 (0, 0)) Z1) : aU ≠ aa)); replace ab := aG; replace HB := aH; have aX := aI; have iA := aZ; have gS := bH; have bo := cx; have cc := du; clear aG aH aI aZ bH cx du; clear hb hbox hg; have hnb6 := bo.out; have hnc6 := cc.out; have jy := cells_4 ab.out; have nC := cells_4 aX.out))
  refine bodyPost_ret (results_ct rfl _ _ aU 60 #[.string av, .int .i64 au, .int .i64 aw, .bool true] (0, 0) _ rfl Z58 Try.underlying60 rfl Z6) rfl ?_
  exact ⟨Z9, Z15⟩
 ·replace c3 := Bool.eq_false_iff.mpr c3
  subst c3
  have H1 : (if a1 < 0 then (some (av, au, aw, true, false)) else (if a1 > (wrap64 (aw - au)) then (some (av, au, aw, true, false)) else (some (av, wrap64 (au + a1), aw, false, true)))) = some (r1, r2, r3, r4, r5) := by rw [if_neg (show ¬ (false = true) by decide)] at H; exact H
  clear H
  have H := H1
  clear H1
  by_cases c9 : a1 < 0
  ·rw [if_pos c9] at H
   have ju : decide (a1 < 0) = true := decide_eq_true c9
   clear c9
   simp only [Option.some.injEq, Prod.mk.injEq] at H
   obtain ⟨rfl, rfl, rfl, rfl, rfl⟩ := H
   go_enter Try.func77, Try.ntmps77
   go_wp2_with (first | ((with_reducible refine gate_dst (N := 2) rfl ?_); refine box_event ?hg (N := 2) ?hd (cs := #[.string av, .int .i64 au, .int .i64 aw, .bool false]) (t := 60) ?hr ?_; (case hd => rfl); (case hg => rfl); (case hr => first | (go_simp; done) | (go_simp; rfl)); intro aa hg sg hbox hb; have aG := Aside0.mk (below_step Z3 hb); have aH := Aside0.mk (hbox); have aI := Aside0.mk ((by rw [hg]; exact (below_size Z3) : w.heap.size ≤ aa)); have aZ := Aside0.mk ((by rw [hg]; exact (below_size Z3) : w.heap.size ≤ aa)); replace HB := aG; have ab := aH; have cl := aI; have bs := aZ; clear aG aH aI aZ; clear hb hbox hg) | ((with_reducible refine gate_dst (N := 4) rfl ?_); refine box_event ?hg (N := 4) ?hd (cs := #[.string ⟨#[]⟩, .int .i64 0, .int .i64 0, .bool false]) (t := 60) ?hr ?_; (case hd => rfl); (case hg => rfl); (case hr => first | (go_simp; done) | (go_simp; rfl)); intro aU hg pA hbox hb; have aG := Aside0.mk (blk_below (g := aa) (o := .cells #[.string av, .int .i64 au, .int .i64 aw, .bool false] 60 (0, 0)) Z1 hb); have aH := Aside0.mk (below_step Z0 hb); have aI := Aside0.mk (hbox); have aZ := Aside0.mk ((by rw [hg]; exact (below_size Z0) : w.heap.size ≤ aU)); have bH := Aside0.mk ((by rw [hg]; exact (below_size Z0) : w.heap.size ≤ aU)); have cx := Aside0.mk ((by rw [hg]; exact Nat.ne_of_lt (blk_lt (g := aa) (o := .cells #[.string av, .int .i64 au, .int .i64 aw, .bool false] 60 (0, 0)) Z1) : aa ≠ aU)); have du := Aside0.mk ((by rw [hg]; exact Nat.ne_of_gt (blk_lt (g := aa) (o := .cells #[.string av, .int .i64 au, .int .i64 aw, .bool false] 60 (0, 0)) Z1) : aU ≠ aa)); replace ab := aG; replace HB := aH; have aX := aI; have iA := aZ; have gS := bH; have bo := cx; have cc := du; clear aG aH aI aZ bH cx du; clear hb hbox hg; have hnb12 := bo.out; have hnc12 := cc.out; have lF := cells_4 ab.out; have ji := cells_4 aX.out))
   refine bodyPost_ret (results_ct rfl _ _ aU 60 #[.string av, .int .i64 au, .int .i64 aw, .bool true] (0, 0) _ rfl Z58 Try.underlying60 rfl Z6) rfl ?_
   exact ⟨Z9, Z15⟩
  ·rw [if_neg c9] at H
   have ju : decide (a1 < 0) = false := decide_eq_false c9
   clear c9
   by_cases fd : a1 > (wrap64 (aw - au))
   ·rw [if_pos fd] at H
    have ix : decide ((wrap64 (aw - au)) < a1) = true := decide_eq_true fd
    clear fd
    simp only [Option.some.injEq, Prod.mk.injEq] at H
    obtain ⟨rfl, rfl, rfl, rfl, rfl⟩ := H
    go_enter Try.func77, Try.ntmps77
    go_wp2_with (first | ((with_reducible refine gate_dst (N := 2) rfl ?_); refine box_event ?hg (N := 2) ?hd (cs := #[.string av, .int .i64 au, .int .i64 aw, .bool false]) (t := 60) ?hr ?_; (case hd => rfl); (case hg => rfl); (case hr => first | (go_simp; done) | (go_simp; rfl)); intro aa hg lR hbox hb; have aG := Aside0.mk (below_step Z3 hb); have aH := Aside0.mk (hbox); have aI := Aside0.mk ((by rw [hg]; exact (below_size Z3) : w.heap.size ≤ aa)); have aZ := Aside0.mk ((by rw [hg]; exact (below_size Z3) : w.heap.size ≤ aa)); replace HB := aG; have ab := aH; have cl := aI; have bs := aZ; clear aG aH aI aZ; clear hb hbox hg) | ((with_reducible refine gate_dst (N := 4) rfl ?_); refine box_event ?hg (N := 4) ?hd (cs := #[.string ⟨#[]⟩, .int .i64 0, .int .i64 0, .bool false]) (t := 60) ?hr ?_; (case hd => rfl); (case hg => rfl); (case hr => first | (go_simp; done) | (go_simp; rfl)); intro aU hg kz hbox hb; have aG := Aside0.mk (blk_below (g := aa) (o := .cells #[.string av, .int .i64 au, .int .i64 aw, .bool false] 60 (0, 0)) Z1 hb); have aH := Aside0.mk (below_step Z0 hb); have aI := Aside0.mk (hbox); have aZ := Aside0.mk ((by rw [hg]; exact (below_size Z0) : w.heap.size ≤ aU)); have bH := Aside0.mk ((by rw [hg]; exact (below_size Z0) : w.heap.size ≤ aU)); have cx := Aside0.mk ((by rw [hg]; exact Nat.ne_of_lt (blk_lt (g := aa) (o := .cells #[.string av, .int .i64 au, .int .i64 aw, .bool false] 60 (0, 0)) Z1) : aa ≠ aU)); have du := Aside0.mk ((by rw [hg]; exact Nat.ne_of_gt (blk_lt (g := aa) (o := .cells #[.string av, .int .i64 au, .int .i64 aw, .bool false] 60 (0, 0)) Z1) : aU ≠ aa)); replace ab := aG; replace HB := aH; have aX := aI; have iA := aZ; have gS := bH; have bo := cx; have cc := du; clear aG aH aI aZ bH cx du; clear hb hbox hg; have uh := bo.out; have ui := cc.out; have jh := cells_4 ab.out; have iR := cells_4 aX.out))
    refine bodyPost_ret (results_ct rfl _ _ aU 60 #[.string av, .int .i64 au, .int .i64 aw, .bool true] (0, 0) _ rfl Z58 Try.underlying60 rfl Z6) rfl ?_
    exact ⟨Z9, Z15⟩
   ·rw [if_neg fd] at H
    have ix : decide ((wrap64 (aw - au)) < a1) = false := decide_eq_false fd
    clear fd
    simp only [Option.some.injEq, Prod.mk.injEq] at H
    obtain ⟨rfl, rfl, rfl, rfl, rfl⟩ := H
    go_enter Try.func77, Try.ntmps77
    go_wp2_with (first | ((with_reducible refine gate_dst (N := 2) rfl ?_); refine box_event ?hg (N := 2) ?hd (cs := #[.string av, .int .i64 au, .int .i64 aw, .bool false]) (t := 60) ?hr ?_; (case hd => rfl); (case hg => rfl); (case hr => first | (go_simp; done) | (go_simp; rfl)); intro aa hg mi hbox hb; have aG := Aside0.mk (below_step Z3 hb); have aH := Aside0.mk (hbox); have aI := Aside0.mk ((by rw [hg]; exact (below_size Z3) : w.heap.size ≤ aa)); have aZ := Aside0.mk ((by rw [hg]; exact (below_size Z3) : w.heap.size ≤ aa)); replace HB := aG; have ab := aH; have cl := aI; have bs := aZ; clear aG aH aI aZ; clear hb hbox hg) | ((with_reducible refine gate_dst (N := 4) rfl ?_); refine box_event ?hg (N := 4) ?hd (cs := #[.string ⟨#[]⟩, .int .i64 0, .int .i64 0, .bool false]) (t := 60) ?hr ?_; (case hd => rfl); (case hg => rfl); (case hr => first | (go_simp; done) | (go_simp; rfl)); intro aU hg ij hbox hb; have aG := Aside0.mk (blk_below (g := aa) (o := .cells #[.string av, .int .i64 au, .int .i64 aw, .bool false] 60 (0, 0)) Z1 hb); have aH := Aside0.mk (below_step Z0 hb); have aI := Aside0.mk (hbox); have aZ := Aside0.mk ((by rw [hg]; exact (below_size Z0) : w.heap.size ≤ aU)); have bH := Aside0.mk ((by rw [hg]; exact (below_size Z0) : w.heap.size ≤ aU)); have cx := Aside0.mk ((by rw [hg]; exact Nat.ne_of_lt (blk_lt (g := aa) (o := .cells #[.string av, .int .i64 au, .int .i64 aw, .bool false] 60 (0, 0)) Z1) : aa ≠ aU)); have du := Aside0.mk ((by rw [hg]; exact Nat.ne_of_gt (blk_lt (g := aa) (o := .cells #[.string av, .int .i64 au, .int .i64 aw, .bool false] 60 (0, 0)) Z1) : aU ≠ aa)); replace ab := aG; replace HB := aH; have aX := aI; have iA := aZ; have gS := bH; have bo := cx; have cc := du; clear aG aH aI aZ bH cx du; clear hb hbox hg; have hnb23 := bo.out; have hnc23 := cc.out; have me := cells_4 ab.out; have iv := cells_4 aX.out))
    refine bodyPost_ret (results_ct rfl _ _ aU 60 #[.string av, .int .i64 (wrap64 (au + a1)), .int .i64 aw, .bool false] (0, 0) _ rfl Z58 Try.underlying60 rfl Z6) rfl ?_
    exact ⟨Z9, Z15⟩

/-! ### cursor_Text: function 60 -/
def cursor_Text.f (av : ByteArray) (au : Int) (aw : Int) (ay : Bool) (a1 : Int) : Option (ByteArray × ByteArray × Int × Int × Bool) := (cursor_step.f av au aw ay a1).bind fun bW => (if bW.2.2.2.2 = true then (if 0 ≤ au then (if au ≤ bW.2.1 then (if bW.2.1 ≤ (av.size : Int) then (some (av.extract (au : Int).toNat (bW.2.1 : Int).toNat, bW.1, bW.2.1, bW.2.2.1, bW.2.2.2.1)) else (none)) else (none)) else (none)) else (some ((⟨#[]⟩ : ByteArray), bW.1, bW.2.1, bW.2.2.1, bW.2.2.2.1)))
def cursor_Text.T4 : Bool × List (List Nat × List Nat) := (true, [([], []), ([0], [0]), ([], []), ([2], [2]), ([], []), ([4], [4]), ([1, 3, 5], [1, 3, 5]), ([], []), ([6, 0, 1, 2, 3, 4, 5, 6], [6]), ([7, 8, 0, 1, 2, 3, 4, 5, 6, 7, 8], [7])])
def cursor_Text.B4 : List Nat := [0, 1, 0, 4, 0, 16, 63, 0, 127, 511]
theorem cursor_Text.tab4 : rtab .any (opsOf Try.f60 4) = cursor_Text.T4 := by kernel_rfl
theorem cursor_Text.bits4 : waitsOk cursor_Text.T4.2 cursor_Text.B4 = true := by kernel_rfl
set_option maxHeartbeats 8000000 in
set_option maxRecDepth 100000 in
theorem cursor_Text.calls (av : ByteArray) (au : Int) (aw : Int) (ay : Bool) (a1 : Int) (r1 : ByteArray) (r2 : ByteArray) (r3 : Int) (r4 : Int) (r5 : Bool) (w : World) (h : cursor_Text.f av au aw ay a1 = some (r1, r2, r3, r4, r5)) :
  Calls Try.prog 60 #[.agg #[.string av, .int .i64 au, .int .i64 aw, .bool ay], .int .i64 a1] w fun e w' => e = .returned (.tuple #[.string r1, .agg #[.string r2, .int .i64 r3, .int .i64 r4, .bool r5]]) ∧ Below w.heap.size w w' := by
 have kZ := Try.underlying60
 have HB := Aside0.mk (Below.refl w.heap.size w)
 have H : ((cursor_step.f av au aw ay a1).bind fun bW => (if bW.2.2.2.2 = true then (if 0 ≤ au then (if au ≤ bW.2.1 then (if bW.2.1 ≤ (av.size : Int) then (some (av.extract (au : Int).toNat (bW.2.1 : Int).toNat, bW.1, bW.2.1, bW.2.2.1, bW.2.2.2.1)) else (none)) else (none)) else (none)) else (some ((⟨#[]⟩ : ByteArray), bW.1, bW.2.1, bW.2.2.1, bW.2.2.2.1)))) = some (r1, r2, r3, r4, r5) := h
 clear h
 replace H := Option.bind_eq_some_iff.mp H
 obtain ⟨⟨bf, bc, bk, bm, bp⟩, ky, H⟩ := H
 replace H : (if bp = true then (if 0 ≤ au then (if au ≤ bc then (if bc ≤ (av.size : Int) then (some (av.extract (au : Int).toNat (bc : Int).toNat, bf, bc, bk, bm)) else (none)) else (none)) else (none)) else (some ((⟨#[]⟩ : ByteArray), bf, bc, bk, bm))) = some (r1, r2, r3, r4, r5) := H
 have A3 := Aside0.mk ky
 clear ky
 by_cases c4 : bp = true
 ·subst c4
  have H1 : (if 0 ≤ au then (if au ≤ bc then (if bc ≤ (av.size : Int) then (some (av.extract (au : Int).toNat (bc : Int).toNat, bf, bc, bk, bm)) else (none)) else (none)) else (none)) = some (r1, r2, r3, r4, r5) := by rw [if_pos rfl] at H; exact H
  clear H
  have H := H1
  clear H1
  by_cases c5 : 0 ≤ au
  ·rw [if_pos c5] at H
   have hm := eq_true c5
   have jC : decide (0 ≤ au) = true := decide_eq_true c5
   clear c5
   by_cases c6 : au ≤ bc
   ·rw [if_pos c6] at H
    have gZ := eq_true c6
    have ii : decide (au ≤ bc) = true := decide_eq_true c6
    clear c6
    by_cases c7 : bc ≤ (av.size : Int)
    ·rw [if_pos c7] at H
     have ib := eq_true c7
     have lL : decide (bc ≤ (av.size : Int)) = true := decide_eq_true c7
     clear c7
     simp only [Option.some.injEq, Prod.mk.injEq] at H
     obtain ⟨rfl, rfl, rfl, rfl, rfl⟩ := H
     go_enter Try.func60, Try.ntmps60
     try go_wp2_with (first | ((with_reducible refine gate_dst (N := 2) rfl ?_); refine box_event ?hg (N := 2) ?hd (cs := #[.string av, .int .i64 au, .int .i64 aw, .bool ay]) (t := 60) ?hr ?_; (case hd => rfl); (case hg => rfl); (case hr => first | (go_simp; done) | (go_simp; rfl)); intro aa hg w8 hbox hb; have aG := Aside0.mk (below_step Z3 hb); have aH := Aside0.mk (hbox); have aI := Aside0.mk ((by rw [hg]; exact (below_size Z3) : w.heap.size ≤ aa)); have aZ := Aside0.mk ((by rw [hg]; exact (below_size Z3) : w.heap.size ≤ aa)); replace HB := aG; have ab := aH; have cl := aI; have bs := aZ; clear aG aH aI aZ; clear hb hbox hg) | ((with_reducible refine gate_dst (N := 5) rfl ?_); refine box_event ?hg (N := 5) ?hd (cs := #[.string ⟨#[]⟩, .int .i64 0, .int .i64 0, .bool false]) (t := 60) ?hr ?_; (case hd => rfl); (case hg => rfl); (case hr => first | (go_simp; done) | (go_simp; rfl)); intro aU hg w9 hbox hb; have aG := Aside0.mk (blk_below (g := aa) (o := .cells #[.string av, .int .i64 au, .int .i64 aw, .bool ay] 60 (0, 0)) Z1 hb); have aH := Aside0.mk (below_step Z0 hb); have aI := Aside0.mk (hbox); have aZ := Aside0.mk ((by rw [hg]; exact (below_size Z0) : w.heap.size ≤ aU)); have bH := Aside0.mk ((by rw [hg]; exact (below_size Z0) : w.heap.size ≤ aU)); have cx := Aside0.mk ((by rw [hg]; exact Nat.ne_of_lt (blk_lt (g := aa) (o := .cells #[.string av, .int .i64 au, .int .i64 aw, .bool ay] 60 (0, 0)) Z1) : aa ≠ aU)); have du := Aside0.mk ((by rw [hg]; exact Nat.ne_of_gt (blk_lt (g := aa) (o := .cells #[.string av, .int .i64 au, .int .i64 aw, .bool ay] 60 (0, 0)) Z1) : aU ≠ aa)); replace ab := aG; replace HB := aH; have aX := aI; have iA := aZ; have gS := bH; have bo := cx; have cc := du; clear aG aH aI aZ bH cx du; clear hb hbox hg; have hnb10 := bo.out; have hnc10 := cc.out; have mg := cells_4 ab.out) | ((with_reducible refine gate_callee (f := 77) rfl ?_); refine goesL_ (some 11) rfl rfl Try.func77 Z6 rfl #[.agg #[.string av, .int .i64 au, .int .i64 aw, .bool ay], .int .i64 a1] rfl Z5 ?_; (with_reducible refine (cursor_step.calls av au aw ay a1 bf bc bk bm true _ A3.out).mono ?_); rintro e rc ⟨rfl, hb⟩; refine ⟨_, rfl, ?_⟩; have aG := Aside0.mk (blk_below (g := aa) (o := .cells #[.string av, .int .i64 au, .int .i64 aw, .bool ay] 60 (0, 0)) Z1 hb); have aH := Aside0.mk (blk_below (g := aU) (o := .cells #[.string ⟨#[]⟩, .int .i64 0, .int .i64 0, .bool false] 60 (0, 0)) Z26 hb); have aI := Aside0.mk (below_step Z15 hb); replace ab := aG; replace aX := aH; replace HB := aI; clear aG aH aI; (try clear hb); (try clear hb2); (try clear hk); (try clear hi)) | ((with_reducible refine gate_dst (N := 6) rfl ?_); refine box_event ?hg (N := 6) ?hd (cs := #[.string ⟨#[]⟩, .int .i64 0, .int .i64 0, .bool false]) (t := 60) ?hr ?_; (case hd => rfl); (case hg => rfl); (case hr => first | (go_simp; done) | (go_simp; rfl)); intro cv hg lb hbox hb; have aG := Aside0.mk (blk_below (g := aa) (o := .cells #[.string av, .int .i64 au, .int .i64 aw, .bool ay] 60 (0, 0)) Z1 hb); have aH := Aside0.mk (blk_below (g := aU) (o := .cells #[.string ⟨#[]⟩, .int .i64 0, .int .i64 0, .bool false] 60 (0, 0)) Z26 hb); have aI := Aside0.mk (below_step Z15 hb); have aZ := Aside0.mk (hbox); have bH := Aside0.mk ((by rw [hg]; exact (below_size Z15) : w.heap.size ≤ cv)); have cx := Aside0.mk ((by rw [hg]; exact (below_size Z15) : w.heap.size ≤ cv)); have du := Aside0.mk ((by rw [hg]; exact Nat.ne_of_lt (blk_lt (g := aa) (o := .cells #[.string av, .int .i64 au, .int .i64 aw, .bool ay] 60 (0, 0)) Z1) : aa ≠ cv)); have gE := Aside0.mk ((by rw [hg]; exact Nat.ne_of_gt (blk_lt (g := aa) (o := .cells #[.string av, .int .i64 au, .int .i64 aw, .bool ay] 60 (0, 0)) Z1) : cv ≠ aa)); have hC := Aside0.mk ((by rw [hg]; exact Nat.ne_of_lt (blk_lt (g := aU) (o := .cells #[.string ⟨#[]⟩, .int .i64 0, .int .i64 0, .bool false] 60 (0, 0)) Z26) : aU ≠ cv)); have jL := Aside0.mk ((by rw [hg]; exact Nat.ne_of_gt (blk_lt (g := aU) (o := .cells #[.string ⟨#[]⟩, .int .i64 0, .int .i64 0, .bool false] 60 (0, 0)) Z26) : cv ≠ aU)); replace ab := aG; replace aX := aH; replace HB := aI; have gz := aZ; have uA := bH; have qN := cx; have hJ := du; have km := gE; have eg := hC; have bV := jL; clear aG aH aI aZ bH cx du gE hC jL; clear hb hbox hg; have hnb14 := km.out; have hnc14 := hJ.out; have hnb15 := bV.out; have hnc15 := eg.out; have ir := cells_4 gz.out))
     have aG : Aside0 (((((lb.setCell ⟨cv, 0, none⟩ (.string bf)).setCell ⟨cv, 1, none⟩ (.int .i64 bc)).setCell ⟨cv, 2, none⟩ (.int .i64 bk)).setCell ⟨cv, 3, none⟩ (.bool bm)).heap[aa]? = some (.cells #[.string av, .int .i64 au, .int .i64 aw, .bool ay] 60 (0, 0))) := ⟨Z94⟩
     have aH : Aside0 (((((lb.setCell ⟨cv, 0, none⟩ (.string bf)).setCell ⟨cv, 1, none⟩ (.int .i64 bc)).setCell ⟨cv, 2, none⟩ (.int .i64 bk)).setCell ⟨cv, 3, none⟩ (.bool bm)).heap[aU]? = some (.cells #[.string ⟨#[]⟩, .int .i64 0, .int .i64 0, .bool false] 60 (0, 0))) := ⟨Z93⟩
     have aI : Aside0 (((((lb.setCell ⟨cv, 0, none⟩ (.string bf)).setCell ⟨cv, 1, none⟩ (.int .i64 bc)).setCell ⟨cv, 2, none⟩ (.int .i64 bk)).setCell ⟨cv, 3, none⟩ (.bool bm)).heap[cv]? = some (.cells #[.string bf, .int .i64 bc, .int .i64 bk, .bool bm] 60 (0, 0))) := ⟨Z115⟩
     have aZ : Aside0 (Below w.heap.size w ((((lb.setCell ⟨cv, 0, none⟩ (.string bf)).setCell ⟨cv, 1, none⟩ (.int .i64 bc)).setCell ⟨cv, 2, none⟩ (.int .i64 bk)).setCell ⟨cv, 3, none⟩ (.bool bm))) := ⟨Z91⟩
     (try clear ab)
     (try clear aX)
     (try clear gz)
     (try clear HB)
     generalize ((((lb.setCell ⟨cv, 0, none⟩ (.string bf)).setCell ⟨cv, 1, none⟩ (.int .i64 bc)).setCell ⟨cv, 2, none⟩ (.int .i64 bk)).setCell ⟨cv, 3, none⟩ (.bool bm)) = kz at aG aH aI aZ ⊢
     have ab := aG
     have aX := aH
     have gz := aI
     have HB := aZ
     clear aG aH aI aZ
     have aG := Aside0.mk (blk_drew ab.out)
     have aH := Aside0.mk (blk_drew aX.out)
     have aI := Aside0.mk (blk_drew gz.out)
     have aZ := Aside0.mk (below_drew1 HB.out)
     clear ab
     clear aX
     clear gz
     clear HB
     have ab := aG
     have aX := aH
     have gz := aI
     have HB := aZ
     clear aG aH aI aZ
     refine start_ (n := 10) (S := fun w' => w'.cell? ⟨aa, 0, none⟩ = some (.string av) ∧ w'.cell? ⟨aa, 1, none⟩ = some (.int .i64 au) ∧ w'.cell? ⟨aa, 2, none⟩ = some (.int .i64 aw) ∧ w'.cell? ⟨aa, 3, none⟩ = some (.bool ay) ∧ w'.cell? ⟨cv, 0, none⟩ = some (.string bf) ∧ w'.cell? ⟨cv, 1, none⟩ = some (.int .i64 bc) ∧ w'.cell? ⟨cv, 2, none⟩ = some (.int .i64 bk) ∧ w'.cell? ⟨cv, 3, none⟩ = some (.bool bm)) (ds := []) #[false, false, false, false, false, false, false, false, false, false] Z6 rfl rfl ⟨(blk_cell ab.out 0).trans rfl, (blk_cell ab.out 1).trans rfl, (blk_cell ab.out 2).trans rfl, (blk_cell ab.out 3).trans rfl, (blk_cell gz.out 0).trans rfl, (blk_cell gz.out 1).trans rfl, (blk_cell gz.out 2).trans rfl, (blk_cell gz.out 3).trans rfl⟩ (fun hHeld => ?_); refine with_tabW cursor_Text.tab4 cursor_Text.bits4 (fun HT_ HW_ => ?_)
     generalize kz.drew = kh at ab aX gz HB hHeld ⊢
     refine pure_ (i := 0) (N := some 17) (v := ?_) (a' := ?_) #[true, false, false, false, false, false, false, false, false, false] rfl rfl (any_of HT_.out Z6) (fun _ _ _ h => h) (Or.inl ⟨Z13, ?_⟩) ?_ ?_
     rotate_left
     ·intro w'
      go_simp
      with_reducible rfl
     rotate_left
     ·simp only [Act.put, List.setIfInBounds_toArray, List.set_cons_zero, List.set_cons_succ, i64_w, i32_w]
      rfl
     refine pure_ (i := 2) (N := some 19) (v := ?_) (a' := ?_) #[true, false, true, false, false, false, false, false, false, false] rfl rfl (any_of HT_.out Z6) (fun _ _ _ h => h) (Or.inl ⟨Z13, ?_⟩) ?_ ?_
     rotate_left
     ·intro w'
      go_simp
      with_reducible rfl
     rotate_left
     ·simp only [Act.put, List.setIfInBounds_toArray, List.set_cons_zero, List.set_cons_succ, i64_w, i32_w]
      rfl
     refine pure_ (i := 4) (N := some 21) (v := ?_) (a' := ?_) #[true, false, true, false, true, false, false, false, false, false] rfl rfl (any_of HT_.out Z6) (fun _ _ _ h => h) (Or.inl ⟨Z13, ?_⟩) ?_ ?_
     rotate_left
     ·intro w'
      go_simp
      with_reducible rfl
     rotate_left
     ·simp only [Act.put, List.setIfInBounds_toArray, List.set_cons_zero, List.set_cons_succ, i64_w, i32_w]
      rfl
     refine take_ (i := 1) (N := some 18) (v := ?_) (a' := ?_) #[true, true, true, false, true, false, false, false, false, false] rfl rfl (take_ofW HT_.out HW_.out Z6) (fun _ _ _ h => h) (Or.inl ⟨Z13, ?_⟩) hHeld ?_ ?_
     rotate_left
     ·rintro w' ⟨s0, s1, s2, s3, s4, s5, s6, s7⟩
      go_simp
      with_reducible rfl
     rotate_left
     ·simp only [Act.put, List.setIfInBounds_toArray, List.set_cons_zero, List.set_cons_succ, i64_w, i32_w]
      rfl
     refine take_ (i := 3) (N := some 20) (v := ?_) (a' := ?_) #[true, true, true, true, true, false, false, false, false, false] rfl rfl (take_ofW HT_.out HW_.out Z6) (fun _ _ _ h => h) (Or.inl ⟨Z13, ?_⟩) hHeld ?_ ?_
     rotate_left
     ·rintro w' ⟨s0, s1, s2, s3, s4, s5, s6, s7⟩
      go_simp
      with_reducible rfl
     rotate_left
     ·simp only [Act.put, List.setIfInBounds_toArray, List.set_cons_zero, List.set_cons_succ, i64_w, i32_w]
      rfl
     refine take_ (i := 5) (N := some 22) (v := ?_) (a' := ?_) #[true, true, true, true, true, true, false, false, false, false] rfl rfl (take_ofW HT_.out HW_.out Z6) (fun _ _ _ h => h) (Or.inl ⟨Z13, ?_⟩) hHeld ?_ ?_
     rotate_left
     ·rintro w' ⟨s0, s1, s2, s3, s4, s5, s6, s7⟩
      go_simp
      with_reducible rfl
     rotate_left
     ·simp only [Act.put, List.setIfInBounds_toArray, List.set_cons_zero, List.set_cons_succ, i64_w, i32_w]
      rfl
     refine pure_ (i := 6) (N := some 23) (v := ?_) (a' := ?_) #[true, true, true, true, true, true, true, false, false, false] rfl rfl (any_of HT_.out Z6) (fun _ _ _ h => h) (Or.inl ⟨Z13, ?_⟩) ?_ ?_
     rotate_left
     ·intro w'
      go_simp
      with_reducible rfl
     rotate_left
     ·simp only [Act.put, List.setIfInBounds_toArray, List.set_cons_zero, List.set_cons_succ, i64_w, i32_w]
      rfl
     refine pure_ (i := 8) (N := some 4) (v := ?_) (a' := ?_) #[true, true, true, true, true, true, true, false, true, false] rfl rfl (any_of HT_.out Z6) (fun _ _ _ h => h) (Or.inl ⟨Z13, ?_⟩) ?_ ?_
     rotate_left
     ·intro w'
      go_simp
      with_reducible rfl
     rotate_left
     ·simp only [Act.put, List.setIfInBounds_toArray, List.set_cons_zero, List.set_cons_succ, i64_w, i32_w]
      rfl
     refine take_ (i := 7) (N := some 24) (v := ?_) (a' := ?_) #[true, true, true, true, true, true, true, true, true, false] rfl rfl (take_ofW HT_.out HW_.out Z6) (fun _ _ _ h => h) (Or.inl ⟨Z13, ?_⟩) hHeld ?_ ?_
     rotate_left
     ·rintro w' ⟨s0, s1, s2, s3, s4, s5, s6, s7⟩
      go_simp
      with_reducible rfl
     rotate_left
     ·simp only [Act.put, List.setIfInBounds_toArray, List.set_cons_zero, List.set_cons_succ, i64_w, i32_w]
      rfl
     refine one_ (i := 9) (N := none) #[true, true, true, true, true, true, true, true, true, true] rfl rfl (one_of HT_.out Z6) Z32 (fun K hK => ?_)
     have hs19 : kh.cell? ⟨aU, 0, none⟩ = some (.string ⟨#[]⟩) := (blk_cell aX.out 0).trans rfl
     have hfs19 := blk_frozen aX.out 0
     have hns19_0 := bo.out
     have hns19_2 := bV.out
     have hms19_0 := cc.out
     have hms19_2 := eg.out
     have hs20 : kh.cell? ⟨aU, 1, none⟩ = some (.int .i64 0) := (blk_cell aX.out 1).trans rfl
     have hfs20 := blk_frozen aX.out 1
     have hns20_0 := bo.out
     have hns20_2 := bV.out
     have hms20_0 := cc.out
     have hms20_2 := eg.out
     have hs21 : kh.cell? ⟨aU, 2, none⟩ = some (.int .i64 0) := (blk_cell aX.out 2).trans rfl
     have hfs21 := blk_frozen aX.out 2
     have hns21_0 := bo.out
     have hns21_2 := bV.out
     have hms21_0 := cc.out
     have hms21_2 := eg.out
     have hs22 : kh.cell? ⟨aU, 3, none⟩ = some (.bool false) := (blk_cell aX.out 3).trans rfl
     have hfs22 := blk_frozen aX.out 3
     have hns22_0 := bo.out
     have hns22_2 := bV.out
     have hms22_0 := cc.out
     have hms22_2 := eg.out
     refine skip_ (w1 := ?_) Z13 rfl ?_ ?_
     rotate_left
     ·go_simp
      rfl
     refine hK.out _ _ ⟨((cell_far (p := ⟨aU, _, none⟩) bo.out _).trans (((cell_far (p := ⟨aU, _, none⟩) bo.out _).trans (((cell_far (p := ⟨aU, _, none⟩) bo.out _).trans (((cell_far (p := ⟨aU, _, none⟩) bo.out _).trans (hHeld.1)))))))), ((cell_far (p := ⟨aU, _, none⟩) bo.out _).trans (((cell_far (p := ⟨aU, _, none⟩) bo.out _).trans (((cell_far (p := ⟨aU, _, none⟩) bo.out _).trans (((cell_far (p := ⟨aU, _, none⟩) bo.out _).trans (hHeld.2.1)))))))), ((cell_far (p := ⟨aU, _, none⟩) bo.out _).trans (((cell_far (p := ⟨aU, _, none⟩) bo.out _).trans (((cell_far (p := ⟨aU, _, none⟩) bo.out _).trans (((cell_far (p := ⟨aU, _, none⟩) bo.out _).trans (hHeld.2.2.1)))))))), ((cell_far (p := ⟨aU, _, none⟩) bo.out _).trans (((cell_far (p := ⟨aU, _, none⟩) bo.out _).trans (((cell_far (p := ⟨aU, _, none⟩) bo.out _).trans (((cell_far (p := ⟨aU, _, none⟩) bo.out _).trans (hHeld.2.2.2.1)))))))), ((cell_far (p := ⟨aU, _, none⟩) bV.out _).trans (((cell_far (p := ⟨aU, _, none⟩) bV.out _).trans (((cell_far (p := ⟨aU, _, none⟩) bV.out _).trans (((cell_far (p := ⟨aU, _, none⟩) bV.out _).trans (hHeld.2.2.2.2.1)))))))), ((cell_far (p := ⟨aU, _, none⟩) bV.out _).trans (((cell_far (p := ⟨aU, _, none⟩) bV.out _).trans (((cell_far (p := ⟨aU, _, none⟩) bV.out _).trans (((cell_far (p := ⟨aU, _, none⟩) bV.out _).trans (hHeld.2.2.2.2.2.1)))))))), ((cell_far (p := ⟨aU, _, none⟩) bV.out _).trans (((cell_far (p := ⟨aU, _, none⟩) bV.out _).trans (((cell_far (p := ⟨aU, _, none⟩) bV.out _).trans (((cell_far (p := ⟨aU, _, none⟩) bV.out _).trans (hHeld.2.2.2.2.2.2.1)))))))), ((cell_far (p := ⟨aU, _, none⟩) bV.out _).trans (((cell_far (p := ⟨aU, _, none⟩) bV.out _).trans (((cell_far (p := ⟨aU, _, none⟩) bV.out _).trans (((cell_far (p := ⟨aU, _, none⟩) bV.out _).trans (hHeld.2.2.2.2.2.2.2))))))))⟩ (fun hHeld => ?_)
     clear hK K
     refine done_ (done_of HT_.out Z6) ?_
     try go_wp2
     refine bodyPost_ret (results_tc rfl _ _ aU 60 #[.string bf, .int .i64 bc, .int .i64 bk, .bool bm] (0, 0) _ rfl Z116 Try.underlying60 rfl Z6) rfl ?_
     exact ⟨Z9, Z91⟩
    ·rw [if_neg c7] at H
     exact absurd H Z73
   ·rw [if_neg c6] at H
    exact absurd H Z73
  ·rw [if_neg c5] at H
   exact absurd H Z73
 ·replace c4 := Bool.eq_false_iff.mpr c4
  subst c4
  have H1 : (some ((⟨#[]⟩ : ByteArray), bf, bc, bk, bm)) = some (r1, r2, r3, r4, r5) := by rw [if_neg (show ¬ (false = true) by decide)] at H; exact H
  clear H
  have H := H1
  clear H1
  simp only [Option.some.injEq, Prod.mk.injEq] at H
  obtain ⟨rfl, rfl, rfl, rfl, rfl⟩ := H
  go_enter Try.func60, Try.ntmps60
  try go_wp2_with (first | ((with_reducible refine gate_dst (N := 2) rfl ?_); refine box_event ?hg (N := 2) ?hd (cs := #[.string av, .int .i64 au, .int .i64 aw, .bool ay]) (t := 60) ?hr ?_; (case hd => rfl); (case hg => rfl); (case hr => first | (go_simp; done) | (go_simp; rfl)); intro aa hg gn hbox hb; have aG := Aside0.mk (below_step Z3 hb); have aH := Aside0.mk (hbox); have aI := Aside0.mk ((by rw [hg]; exact (below_size Z3) : w.heap.size ≤ aa)); have aZ := Aside0.mk ((by rw [hg]; exact (below_size Z3) : w.heap.size ≤ aa)); replace HB := aG; have ab := aH; have cl := aI; have bs := aZ; clear aG aH aI aZ; clear hb hbox hg) | ((with_reducible refine gate_dst (N := 5) rfl ?_); refine box_event ?hg (N := 5) ?hd (cs := #[.string ⟨#[]⟩, .int .i64 0, .int .i64 0, .bool false]) (t := 60) ?hr ?_; (case hd => rfl); (case hg => rfl); (case hr => first | (go_simp; done) | (go_simp; rfl)); intro aU hg ed hbox hb; have aG := Aside0.mk (blk_below (g := aa) (o := .cells #[.string av, .int .i64 au, .int .i64 aw, .bool ay] 60 (0, 0)) Z1 hb); have aH := Aside0.mk (below_step Z0 hb); have aI := Aside0.mk (hbox); have aZ := Aside0.mk ((by rw [hg]; exact (below_size Z0) : w.heap.size ≤ aU)); have bH := Aside0.mk ((by rw [hg]; exact (below_size Z0) : w.heap.size ≤ aU)); have cx := Aside0.mk ((by rw [hg]; exact Nat.ne_of_lt (blk_lt (g := aa) (o := .cells #[.string av, .int .i64 au, .int .i64 aw, .bool ay] 60 (0, 0)) Z1) : aa ≠ aU)); have du := Aside0.mk ((by rw [hg]; exact Nat.ne_of_gt (blk_lt (g := aa) (o := .cells #[.string av, .int .i64 au, .int .i64 aw, .bool ay] 60 (0, 0)) Z1) : aU ≠ aa)); replace ab := aG; replace HB := aH; have aX := aI; have iA := aZ; have gS := bH; have bo := cx; have cc := du; clear aG aH aI aZ bH cx du; clear hb hbox hg; have pd := bo.out; have pe := cc.out; have iO := cells_4 ab.out) | ((with_reducible refine gate_callee (f := 77) rfl ?_); refine goesL_ (some 11) rfl rfl Try.func77 Z6 rfl #[.agg #[.string av, .int .i64 au, .int .i64 aw, .bool ay], .int .i64 a1] rfl Z5 ?_; (with_reducible refine (cursor_step.calls av au aw ay a1 bf bc bk bm false _ A3.out).mono ?_); rintro e iy ⟨rfl, hb⟩; refine ⟨_, rfl, ?_⟩; have aG := Aside0.mk (blk_below (g := aa) (o := .cells #[.string av, .int .i64 au, .int .i64 aw, .bool ay] 60 (0, 0)) Z1 hb); have aH := Aside0.mk (blk_below (g := aU) (o := .cells #[.string ⟨#[]⟩, .int .i64 0, .int .i64 0, .bool false] 60 (0, 0)) Z26 hb); have aI := Aside0.mk (below_step Z15 hb); replace ab := aG; replace aX := aH; replace HB := aI; clear aG aH aI; (try clear hb); (try clear hb2); (try clear hk); (try clear hi)) | ((with_reducible refine gate_dst (N := 6) rfl ?_); refine box_event ?hg (N := 6) ?hd (cs := #[.string ⟨#[]⟩, .int .i64 0, .int .i64 0, .bool false]) (t := 60) ?hr ?_; (case hd => rfl); (case hg => rfl); (case hr => first | (go_simp; done) | (go_simp; rfl)); intro cv hg nl hbox hb; have aG := Aside0.mk (blk_below (g := aa) (o := .cells #[.string av, .int .i64 au, .int .i64 aw, .bool ay] 60 (0, 0)) Z1 hb); have aH := Aside0.mk (blk_below (g := aU) (o := .cells #[.string ⟨#[]⟩, .int .i64 0, .int .i64 0, .bool false] 60 (0, 0)) Z26 hb); have aI := Aside0.mk (below_step Z15 hb); have aZ := Aside0.mk (hbox); have bH := Aside0.mk ((by rw [hg]; exact (below_size Z15) : w.heap.size ≤ cv)); have cx := Aside0.mk ((by rw [hg]; exact (below_size Z15) : w.heap.size ≤ cv)); have du := Aside0.mk ((by rw [hg]; exact Nat.ne_of_lt (blk_lt (g := aa) (o := .cells #[.string av, .int .i64 au, .int .i64 aw, .bool ay] 60 (0, 0)) Z1) : aa ≠ cv)); have gE := Aside0.mk ((by rw [hg]; exact Nat.ne_of_gt (blk_lt (g := aa) (o := .cells #[.string av, .int .i64 au, .int .i64 aw, .bool ay] 60 (0, 0)) Z1) : cv ≠ aa)); have hC := Aside0.mk ((by rw [hg]; exact Nat.ne_of_lt (blk_lt (g := aU) (o := .cells #[.string ⟨#[]⟩, .int .i64 0, .int .i64 0, .bool false] 60 (0, 0)) Z26) : aU ≠ cv)); have jL := Aside0.mk ((by rw [hg]; exact Nat.ne_of_gt (blk_lt (g := aU) (o := .cells #[.string ⟨#[]⟩, .int .i64 0, .int .i64 0, .bool false] 60 (0, 0)) Z26) : cv ≠ aU)); replace ab := aG; replace aX := aH; replace HB := aI; have gz := aZ; have uA := bH; have qN := cx; have hJ := du; have km := gE; have eg := hC; have bV := jL; clear aG aH aI aZ bH cx du gE hC jL; clear hb hbox hg; have hnb29 := km.out; have hnc29 := hJ.out; have hnb30 := bV.out; have hnc30 := eg.out; have mc := cells_4 gz.out))
  have aG : Aside0 (((((nl.setCell ⟨cv, 0, none⟩ (.string bf)).setCell ⟨cv, 1, none⟩ (.int .i64 bc)).setCell ⟨cv, 2, none⟩ (.int .i64 bk)).setCell ⟨cv, 3, none⟩ (.bool bm)).heap[aa]? = some (.cells #[.string av, .int .i64 au, .int .i64 aw, .bool ay] 60 (0, 0))) := ⟨Z94⟩
  have aH : Aside0 (((((nl.setCell ⟨cv, 0, none⟩ (.string bf)).setCell ⟨cv, 1, none⟩ (.int .i64 bc)).setCell ⟨cv, 2, none⟩ (.int .i64 bk)).setCell ⟨cv, 3, none⟩ (.bool bm)).heap[aU]? = some (.cells #[.string ⟨#[]⟩, .int .i64 0, .int .i64 0, .bool false] 60 (0, 0))) := ⟨Z93⟩
  have aI : Aside0 (((((nl.setCell ⟨cv, 0, none⟩ (.string bf)).setCell ⟨cv, 1, none⟩ (.int .i64 bc)).setCell ⟨cv, 2, none⟩ (.int .i64 bk)).setCell ⟨cv, 3, none⟩ (.bool bm)).heap[cv]? = some (.cells #[.string bf, .int .i64 bc, .int .i64 bk, .bool bm] 60 (0, 0))) := ⟨Z115⟩
  have aZ : Aside0 (Below w.heap.size w ((((nl.setCell ⟨cv, 0, none⟩ (.string bf)).setCell ⟨cv, 1, none⟩ (.int .i64 bc)).setCell ⟨cv, 2, none⟩ (.int .i64 bk)).setCell ⟨cv, 3, none⟩ (.bool bm))) := ⟨Z91⟩
  (try clear ab)
  (try clear aX)
  (try clear gz)
  (try clear HB)
  generalize ((((nl.setCell ⟨cv, 0, none⟩ (.string bf)).setCell ⟨cv, 1, none⟩ (.int .i64 bc)).setCell ⟨cv, 2, none⟩ (.int .i64 bk)).setCell ⟨cv, 3, none⟩ (.bool bm)) = gX at aG aH aI aZ ⊢
  have ab := aG
  have aX := aH
  have gz := aI
  have HB := aZ
  clear aG aH aI aZ
  have aG := Aside0.mk (blk_drew ab.out)
  have aH := Aside0.mk (blk_drew aX.out)
  have aI := Aside0.mk (blk_drew gz.out)
  have aZ := Aside0.mk (below_drew1 HB.out)
  clear ab
  clear aX
  clear gz
  clear HB
  have ab := aG
  have aX := aH
  have gz := aI
  have HB := aZ
  clear aG aH aI aZ
  refine start_ (n := 3) (S := fun w' => w'.cell? ⟨cv, 0, none⟩ = some (.string bf) ∧ w'.cell? ⟨cv, 1, none⟩ = some (.int .i64 bc) ∧ w'.cell? ⟨cv, 2, none⟩ = some (.int .i64 bk) ∧ w'.cell? ⟨cv, 3, none⟩ = some (.bool bm)) (ds := []) #[false, false, false] Z6 rfl rfl ⟨(blk_cell gz.out 0).trans rfl, (blk_cell gz.out 1).trans rfl, (blk_cell gz.out 2).trans rfl, (blk_cell gz.out 3).trans rfl⟩ (fun hHeld => ?_)
  generalize gX.drew = iH at ab aX gz HB hHeld ⊢
  refine pure_ (i := 1) (N := some 4) (v := ?_) (a' := ?_) #[false, true, false] rfl rfl Z6 (fun _ _ _ h => h) (Or.inl ⟨Z13, ?_⟩) ?_ ?_
  rotate_left
  ·intro w'
   go_simp
   with_reducible rfl
  rotate_left
  ·simp only [Act.put, List.setIfInBounds_toArray, List.set_cons_zero, List.set_cons_succ, i64_w, i32_w]
   rfl
  refine take_ (i := 0) (N := some 16) (v := ?_) (a' := ?_) #[true, true, false] rfl rfl Z6 (fun _ _ _ h => h) (Or.inl ⟨Z13, ?_⟩) hHeld ?_ ?_
  rotate_left
  ·rintro w' ⟨s0, s1, s2, s3⟩
   go_simp
   with_reducible rfl
  rotate_left
  ·simp only [Act.put, List.setIfInBounds_toArray, List.set_cons_zero, List.set_cons_succ, i64_w, i32_w]
   rfl
  refine one_ (i := 2) (N := none) #[true, true, true] rfl rfl Z6 Z32 (fun K hK => ?_)
  have hs34 : iH.cell? ⟨aU, 0, none⟩ = some (.string ⟨#[]⟩) := (blk_cell aX.out 0).trans rfl
  have hfs34 := blk_frozen aX.out 0
  have hns34_0 := bo.out
  have hns34_2 := bV.out
  have hms34_0 := cc.out
  have hms34_2 := eg.out
  have hs35 : iH.cell? ⟨aU, 1, none⟩ = some (.int .i64 0) := (blk_cell aX.out 1).trans rfl
  have hfs35 := blk_frozen aX.out 1
  have hns35_0 := bo.out
  have hns35_2 := bV.out
  have hms35_0 := cc.out
  have hms35_2 := eg.out
  have hs36 : iH.cell? ⟨aU, 2, none⟩ = some (.int .i64 0) := (blk_cell aX.out 2).trans rfl
  have hfs36 := blk_frozen aX.out 2
  have hns36_0 := bo.out
  have hns36_2 := bV.out
  have hms36_0 := cc.out
  have hms36_2 := eg.out
  have hs37 : iH.cell? ⟨aU, 3, none⟩ = some (.bool false) := (blk_cell aX.out 3).trans rfl
  have hfs37 := blk_frozen aX.out 3
  have hns37_0 := bo.out
  have hns37_2 := bV.out
  have hms37_0 := cc.out
  have hms37_2 := eg.out
  refine skip_ (w1 := ?_) Z13 rfl ?_ ?_
  rotate_left
  ·go_simp
   rfl
  refine hK.out _ _ ⟨((cell_far (p := ⟨aU, _, none⟩) bV.out _).trans (((cell_far (p := ⟨aU, _, none⟩) bV.out _).trans (((cell_far (p := ⟨aU, _, none⟩) bV.out _).trans (((cell_far (p := ⟨aU, _, none⟩) bV.out _).trans (hHeld.1)))))))), ((cell_far (p := ⟨aU, _, none⟩) bV.out _).trans (((cell_far (p := ⟨aU, _, none⟩) bV.out _).trans (((cell_far (p := ⟨aU, _, none⟩) bV.out _).trans (((cell_far (p := ⟨aU, _, none⟩) bV.out _).trans (hHeld.2.1)))))))), ((cell_far (p := ⟨aU, _, none⟩) bV.out _).trans (((cell_far (p := ⟨aU, _, none⟩) bV.out _).trans (((cell_far (p := ⟨aU, _, none⟩) bV.out _).trans (((cell_far (p := ⟨aU, _, none⟩) bV.out _).trans (hHeld.2.2.1)))))))), ((cell_far (p := ⟨aU, _, none⟩) bV.out _).trans (((cell_far (p := ⟨aU, _, none⟩) bV.out _).trans (((cell_far (p := ⟨aU, _, none⟩) bV.out _).trans (((cell_far (p := ⟨aU, _, none⟩) bV.out _).trans (hHeld.2.2.2))))))))⟩ (fun hHeld => ?_)
  clear hK K
  refine done_ Z6 ?_
  try go_wp2
  refine bodyPost_ret (results_tc rfl _ _ aU 60 #[.string bf, .int .i64 bc, .int .i64 bk, .bool bm] (0, 0) _ rfl Z116 Try.underlying60 rfl Z6) rfl ?_
  exact ⟨Z9, Z91⟩

/-! ### cursor_New: function 61 -/
def cursor_New.f (a0 : ByteArray) : Option (ByteArray × Int × Int × Bool) := some (a0, 0, (a0.size : Int), false)
set_option maxHeartbeats 8000000 in
set_option maxRecDepth 100000 in
theorem cursor_New.calls (a0 : ByteArray) (r1 : ByteArray) (r2 : Int) (r3 : Int) (r4 : Bool) (w : World) (h : cursor_New.f a0 = some (r1, r2, r3, r4)) :
  Calls Try.prog 61 #[.string a0] w fun e w' => e = .returned (.agg #[.string r1, .int .i64 r2, .int .i64 r3, .bool r4]) ∧ Below w.heap.size w w' := by
 have kZ := Try.underlying60
 have HB := Aside0.mk (Below.refl w.heap.size w)
 have H : (some (a0, 0, (a0.size : Int), false)) = some (r1, r2, r3, r4) := h
 clear h
 simp only [Option.some.injEq, Prod.mk.injEq] at H
 obtain ⟨rfl, rfl, rfl, rfl⟩ := H
 go_enter Try.func61, Try.ntmps61
 go_wp2_with (first | ((with_reducible refine gate_dst (N := 2) rfl ?_); refine box_event ?hg (N := 2) ?hd (cs := #[.string ⟨#[]⟩, .int .i64 0, .int .i64 0, .bool false]) (t := 60) ?hr ?_; (case hd => rfl); (case hg => rfl); (case hr => first | (go_simp; done) | (go_simp; rfl)); intro aa hg w2 hbox hb; have aG := Aside0.mk (below_step Z3 hb); have aH := Aside0.mk (hbox); have aI := Aside0.mk ((by rw [hg]; exact (below_size Z3) : w.heap.size ≤ aa)); have aZ := Aside0.mk ((by rw [hg]; exact (below_size Z3) : w.heap.size ≤ aa)); replace HB := aG; have ab := aH; have cl := aI; have bs := aZ; clear aG aH aI aZ; clear hb hbox hg; have hcz3 := cells_4 ab.out))
 refine bodyPost_ret (results_cell_row rfl _ _ aa 60 #[.string a0, .int .i64 0, .int .i64 (a0.size : Int), .bool false] (0, 0) _ rfl (by (with_reducible repeat (first | refine blk_drewN ?_ _ | refine blk_drew ?_ | refine blk_alloc ?_ _)); apply blk_puts4; (with_reducible repeat (first | refine blk_drewN ?_ _ | refine blk_drew ?_ | refine blk_alloc ?_ _)); exact ab.out) Try.underlying60 rfl Z6) rfl ?_
 exact ⟨Z9, Z0⟩

/-! ### cursor_Num: function 62 -/
def cursor_Num.f (av : ByteArray) (au : Int) (aw : Int) (ay : Bool) (a1 : Int) : Option (Int × ByteArray × Int × Int × Bool) :=
 if a1 < 1 ∨ 7 < a1 then some (0, av, au, aw, true)
 else (cursor_step.f av au aw ay a1).bind fun b =>
  if b.2.2.2.2 = true then (if 0 ≤ au ∧ au ≤ b.2.1 ∧ b.2.1 ≤ (av.size : Int) ∧ b.2.1 - au ≤ 7 then some (Pre.numOf (av.extract au.toNat b.2.1.toNat), b.1, b.2.1, b.2.2.1, b.2.2.2.1) else none)
  else some (0, b.1, b.2.1, b.2.2.1, b.2.2.2.1)
set_option maxHeartbeats 8000000 in
set_option maxRecDepth 100000 in
theorem cursor_Num.bad (av : ByteArray) (au : Int) (aw : Int) (ay : Bool) (a1 : Int) (w : World) (h : a1 < 1 ∨ 7 < a1) :
  Calls Try.prog 62 #[.agg #[.string av, .int .i64 au, .int .i64 aw, .bool ay], .int .i64 a1] w fun e w' => e = .returned (.tuple #[.int .i64 0, .agg #[.string av, .int .i64 au, .int .i64 aw, .bool true]]) ∧ Below w.heap.size w w' := by
 have kZ := Try.underlying60
 have HB := Aside0.mk (Below.refl w.heap.size w)
 rcases h with h | h
 all_goals
  go_enter Try.func62, Try.ntmps62
  go_wp2
  go_region
  go_wp2
  exact bodyPost_ret (v := .tuple #[.int .i64 0, .agg #[.string av, .int .i64 au, .int .i64 aw, .bool true]]) (by simp [results, Try.results62, go_sem]) rfl ⟨rfl, by repeat (first | exact HB.out | apply below_alloc | apply below_drew1)⟩
set_option maxHeartbeats 8000000 in
set_option maxRecDepth 100000 in
theorem cursor_Num.no (av : ByteArray) (au : Int) (aw : Int) (ay : Bool) (a1 : Int) (w : World) (h0 : 1 ≤ a1) (h1 : a1 ≤ 7) (r1 : ByteArray) (r2 r3 : Int) (r4 : Bool) (hs : cursor_step.f av au aw ay a1 = some (r1, r2, r3, r4, false)) :
  Calls Try.prog 62 #[.agg #[.string av, .int .i64 au, .int .i64 aw, .bool ay], .int .i64 a1] w fun e w' => e = .returned (.tuple #[.int .i64 0, .agg #[.string r1, .int .i64 r2, .int .i64 r3, .bool r4]]) ∧ Below w.heap.size w w' := by
 have kZ := Try.underlying60
 have HB := Aside0.mk (Below.refl w.heap.size w)
 have HS := Aside0.mk hs
 clear hs
 go_enter Try.func62, Try.ntmps62
 go_wp2_with (first | (go_at_call 77; refine (cursor_step.calls _ _ _ _ _ _ _ _ _ _ _ HS.out).mono ?_; rintro e w1 ⟨rfl, hb⟩; have HB1 := Aside0.mk hb; have hz : w.heap.size + 1 < w1.heap.size := (by have := hb.size; simp at this; omega); have hz0 : w.heap.size < w1.heap.size := Z55; have b5 : w1.heap[w.heap.size + 1]? = some (.cells #[.string ⟨#[]⟩, .int .i64 0, .int .i64 0, .bool false] 60 (0, 0)) := (hb.block _ Z73).trans Z120; have c0 : w1.cell? ⟨w.heap.size + 1, 0, none⟩ = some (.string ⟨#[]⟩) := (blk_cell b5 0).trans rfl; have c1 : w1.cell? ⟨w.heap.size + 1, 1, none⟩ = some (.int .i64 0) := (blk_cell b5 1).trans rfl; have c2 : w1.cell? ⟨w.heap.size + 1, 2, none⟩ = some (.int .i64 0) := (blk_cell b5 2).trans rfl; have c3 : w1.cell? ⟨w.heap.size + 1, 3, none⟩ = some (.bool false) := (blk_cell b5 3).trans rfl; have f0 := blk_frozen b5 0; have f1 := blk_frozen b5 1; have f2 := blk_frozen b5 2; have f3 := blk_frozen b5 3; have HB5 := Aside0.mk b5; clear hb b5))
 have HBw := Aside0.mk ((below_alloc (below_alloc (Below.refl w.heap.size w) (.cells #[.string av, .int .i64 au, .int .i64 aw, .bool ay] 60)) (.cells #[.string ⟨#[]⟩, .int .i64 0, .int .i64 0, .bool false] 60)).trans (HB1.out.mono (by simp; omega)))
 go_region
 go_wp2
 exact bodyPost_ret (v := .tuple #[.int .i64 0, .agg #[.string r1, .int .i64 r2, .int .i64 r3, .bool r4]]) (by simp [results, Try.results62, go_sem, hz, hz0, c0, c1, c2, c3]) rfl ⟨rfl, by repeat (first | exact HBw.out | apply below_alloc | apply below_drew1 | (refine Below.setCell ?_ Z73 _))⟩
set_option maxHeartbeats 8000000 in
set_option maxRecDepth 100000 in
theorem cursor_Num.yes (av : ByteArray) (au : Int) (aw : Int) (ay : Bool) (a1 : Int) (w : World) (h0 : 1 ≤ a1) (h1 : a1 ≤ 7) (r1 : ByteArray) (r2 r3 : Int) (r4 : Bool) (hs : cursor_step.f av au aw ay a1 = some (r1, r2, r3, r4, true)) (p0 : 0 ≤ au) (p1 : au ≤ r2) (p2 : r2 ≤ av.size) (p3 : r2 - au ≤ 7) :
  Calls Try.prog 62 #[.agg #[.string av, .int .i64 au, .int .i64 aw, .bool ay], .int .i64 a1] w fun e w' => e = .returned (.tuple #[.int .i64 (Pre.numOf (av.extract au.toNat r2.toNat)), .agg #[.string r1, .int .i64 r2, .int .i64 r3, .bool r4]]) ∧ Below w.heap.size w w' := by
 have kZ := Try.underlying60
 have HB := Aside0.mk (Below.refl w.heap.size w)
 have HS := Aside0.mk hs
 clear hs
 have hconv := fun W s => Lib.run_convert_string_bytes (P := Try.prog) W 9 51 5 s Try.underlying9 Try.underlying51 Try.underlying5
 go_enter Try.func62, Try.ntmps62
 go_wp2_with (first | (go_at_call 77; refine (cursor_step.calls _ _ _ _ _ _ _ _ _ _ _ HS.out).mono ?_; rintro e w1 ⟨rfl, hb⟩; have HB1 := Aside0.mk hb; have hz : w.heap.size + 1 < w1.heap.size := (by have := hb.size; simp at this; omega); have hz0 : w.heap.size < w1.heap.size := Z55; have b5 : w1.heap[w.heap.size + 1]? = some (.cells #[.string ⟨#[]⟩, .int .i64 0, .int .i64 0, .bool false] 60 (0, 0)) := (hb.block _ Z73).trans Z120; have b2 : w1.heap[w.heap.size]? = some (.cells #[.string av, .int .i64 au, .int .i64 aw, .bool ay] 60 (0, 0)) := (hb.block _ (by simp; omega)).trans (Pre.two_blocks w _ _).1; have c0 : w1.cell? ⟨w.heap.size, 0, none⟩ = some (.string av) := (blk_cell b2 0).trans rfl; have c1 : w1.cell? ⟨w.heap.size, 1, none⟩ = some (.int .i64 au) := (blk_cell b2 1).trans rfl; have HB5 := Aside0.mk b5; clear hb b5 b2))
 obtain ⟨sub, hsub⟩ : ∃ s, s = av.extract au.toNat r2.toNat := ⟨_, rfl⟩
 have hsz : sub.size = r2.toNat - au.toNat := by rw [hsub, ByteArray.size_extract]; omega
 rw [← hsub, ← hsz]
 have HS2 := Aside0.mk hsub
 have hz7 : sub.size ≤ 7 := by omega
 clear hsub
 obtain ⟨W2, hW2⟩ : ∃ W, W = w1.alloc (.cells #[.string r1, .int .i64 r2, .int .i64 r3, .bool r4] 60) := ⟨_, rfl⟩
 have e2 : W2.heap.size = w1.heap.size + 1 := by rw [hW2]; simp
 obtain ⟨W3, hW3⟩ : ∃ W, W = Lib.bytesWorld W2 5 sub := ⟨_, rfl⟩
 have hcell : ∀ k : Nat, k < sub.size → W3.cell? ⟨w1.heap.size + 1, k, none⟩ = some (.int .u8 (sub.data.toList.getD k 0).toNat) := fun k hk => by rw [hW3, ← e2]; exact Lib.bytesWorld_cell W2 5 sub k hk
 have b6 : W3.heap[w1.heap.size]? = some (.cells #[.string r1, .int .i64 r2, .int .i64 r3, .bool r4] 60 (0, 0)) := by
  rw [hW3, Lib.bytesWorld_at_old _ _ _ _ Z55, hW2]; exact heap_alloc_new _ _
 have b5 : W3.heap[w.heap.size + 1]? = some (.cells #[.string ⟨#[]⟩, .int .i64 0, .int .i64 0, .bool false] 60 (0, 0)) := by
  rw [hW3, Lib.bytesWorld_at_old _ _ _ _ Z55, hW2, (Below.block (below_alloc (Below.refl w1.heap.size w1) _) (w.heap.size + 1) hz)]; exact HB5.out
 have HBw := Aside0.mk (((below_alloc (below_alloc (Below.refl w.heap.size w) (.cells #[.string av, .int .i64 au, .int .i64 aw, .bool ay] 60)) (.cells #[.string ⟨#[]⟩, .int .i64 0, .int .i64 0, .bool false] 60)).trans (HB1.out.mono (by simp; omega))).trans (((below_alloc (Below.refl w1.heap.size w1) (.cells #[.string r1, .int .i64 r2, .int .i64 r3, .bool r4] 60)).trans ((Pre.below_bytes _ 5 sub).mono Z73)).mono Z55))
 rw [← hW2, ← hW3] at HBw
 rw [← hW2, ← hW3]
 have g0 : W3.cell? ⟨w1.heap.size, 0, none⟩ = some (.string r1) := (blk_cell b6 0).trans rfl
 have g1 : W3.cell? ⟨w1.heap.size, 1, none⟩ = some (.int .i64 r2) := (blk_cell b6 1).trans rfl
 have g2 : W3.cell? ⟨w1.heap.size, 2, none⟩ = some (.int .i64 r3) := (blk_cell b6 2).trans rfl
 have g3 : W3.cell? ⟨w1.heap.size, 3, none⟩ = some (.bool r4) := (blk_cell b6 3).trans rfl
 have k0 : W3.cell? ⟨w.heap.size + 1, 0, none⟩ = some (.string ⟨#[]⟩) := (blk_cell b5 0).trans rfl
 have k1 : W3.cell? ⟨w.heap.size + 1, 1, none⟩ = some (.int .i64 0) := (blk_cell b5 1).trans rfl
 have k2 : W3.cell? ⟨w.heap.size + 1, 2, none⟩ = some (.int .i64 0) := (blk_cell b5 2).trans rfl
 have k3 : W3.cell? ⟨w.heap.size + 1, 3, none⟩ = some (.bool false) := (blk_cell b5 3).trans rfl
 have f0 := blk_frozen b5 0
 have f1 := blk_frozen b5 1
 have f2 := blk_frozen b5 2
 have f3 := blk_frozen b5 3
 have hne : ¬ w1.heap.size = w.heap.size + 1 := by omega
 have hne2 : ¬ w.heap.size + 1 = w1.heap.size := by omega
 have HC := Aside0.mk hcell
 clear hcell hW3 hW2 e2 c0 c1 b5 b6 hconv
 go_loop [8, 37] (fun n i => ∃ (k : Nat) (v : Int), k ≤ sub.size ∧ i = .int .i64 k ∧ n = .int .i64 v ∧ Aside0 (v = ((bytesOf sub).take k).foldl (fun a b => a * 256 + b) 0) ∧ 0 ≤ v ∧ v < 256 ^ k) (fun _ i => sub.size - (intOf i).toNat)
 case atStart => exact ⟨0, 0, Nat.zero_le _, rfl, rfl, ⟨rfl⟩, Z32, Z32⟩
 case round =>
  obtain ⟨k, v, hk, rfl, rfl, HV, hv0, hv1⟩ := hrel
  have hv2 : v < 72057594037927936 := Int.lt_of_lt_of_le hv1 (Pre.pow_le7_ k Z55)
  by_cases hlt : k < sub.size
  ·have hc := HC.out k hlt
   obtain ⟨x, hx⟩ : ∃ x : Int, ((sub.data.toList.getD k 0).toNat : Int) = x := ⟨_, rfl⟩
   rw [hx] at hc
   have hx0 : 0 ≤ x ∧ x ≤ 255 := by have := (sub.data.toList.getD k 0).toNat_lt; omega
   obtain ⟨hxl, hxh⟩ := hx0
   have hv3 : v < 281474976710656 := Int.lt_of_lt_of_le hv1 (Pre.pow_le6_ k Z55)
   have hor : Go.bits .or .i64 (v * 256) x = v * 256 + x := Pre.or_byte hv0 hv3 hxl hxh
   have HX := Aside0.mk hx
   have HV1 := Aside0.mk hv1
   clear hx hv1 hv2
   go_wp2
   go_round
   case rel =>
    refine ⟨k + 1, v * 256 + x, Z55, by go_num, rfl, ⟨?_⟩, Z55, ?_⟩
    ·rw [Pre.fold_take _ k (by rw [bytesOf, List.length_map, data_length]; exact hlt), ← HV.out]
     congr 1
     rw [← HX.out, ← Pre.bt_getD_, ← rd_bytesOf, rd]; simp
    ·rw [Int.pow_succ]; have := HV1.out; omega
   case measure => simp [intOf]; omega
  ·have e : k = sub.size := by omega
   have e2 : v = Pre.numOf sub := by
    rw [HV.out, e, List.take_of_length_le (by rw [bytesOf, List.length_map, data_length]; exact Nat.le_refl _)]; rfl
   have E2 := Aside0.mk e2
   clear e e2 hv1 hv2
   go_wp2
   go_region
   go_wp2
   refine bodyPost_ret (v := .tuple #[.int .i64 v, .agg #[.string r1, .int .i64 r2, .int .i64 r3, .bool r4]]) (by simp [results, Try.results62, go_sem, hz, hz0, g0, g1, g2, g3, k0, k1, k2, k3]) rfl ⟨?_, by repeat (first | exact HBw.out | apply below_alloc | apply below_drew1 | (refine Below.setCell ?_ Z73 _))⟩
   rw [← HS2.out, E2.out]
theorem cursor_Num.calls (av : ByteArray) (au : Int) (aw : Int) (ay : Bool) (a1 : Int) (r1 : Int) (r2 : ByteArray) (r3 : Int) (r4 : Int) (r5 : Bool) (w : World) (h : cursor_Num.f av au aw ay a1 = some (r1, r2, r3, r4, r5)) :
  Calls Try.prog 62 #[.agg #[.string av, .int .i64 au, .int .i64 aw, .bool ay], .int .i64 a1] w fun e w' => e = .returned (.tuple #[.int .i64 r1, .agg #[.string r2, .int .i64 r3, .int .i64 r4, .bool r5]]) ∧ Below w.heap.size w w' := by
 unfold cursor_Num.f at h
 by_cases c : a1 < 1 ∨ 7 < a1
 ·rw [if_pos c] at h
  simp only [Option.some.injEq, Prod.mk.injEq] at h
  obtain ⟨rfl, rfl, rfl, rfl, rfl⟩ := h
  exact cursor_Num.bad _ _ _ _ _ w c
 ·rw [if_neg c] at h
  obtain ⟨⟨s1, s2, s3, s4, s5⟩, hs, h⟩ := Option.bind_eq_some_iff.mp h
  dsimp only at h
  cases s5 with
  | false =>
   rw [if_neg Z32] at h
   simp only [Option.some.injEq, Prod.mk.injEq] at h
   obtain ⟨rfl, rfl, rfl, rfl, rfl⟩ := h
   exact cursor_Num.no _ _ _ _ _ w Z55 Z55 _ _ _ _ hs
  | true =>
   rw [if_pos rfl] at h
   by_cases p : 0 ≤ au ∧ au ≤ s2 ∧ s2 ≤ (av.size : Int) ∧ s2 - au ≤ 7
   ·rw [if_pos p] at h
    simp only [Option.some.injEq, Prod.mk.injEq] at h
    obtain ⟨rfl, rfl, rfl, rfl, rfl⟩ := h
    exact cursor_Num.yes _ _ _ _ _ w Z55 Z55 _ _ _ _ hs p.1 p.2.1 p.2.2.1 p.2.2.2
   ·rw [if_neg p] at h; cases h

/-! ### cursor_Left: function 76 -/
def cursor_Left.f (av : ByteArray) (au : Int) (aw : Int) (ay : Bool) : Option (Int) := if ay = true then (some 0) else (some (wrap64 (aw - au)))
set_option maxHeartbeats 8000000 in
set_option maxRecDepth 100000 in
theorem cursor_Left.calls (av : ByteArray) (au : Int) (aw : Int) (ay : Bool) (r : Int) (w : World) (h : cursor_Left.f av au aw ay = some r) :
  Calls Try.prog 76 #[.agg #[.string av, .int .i64 au, .int .i64 aw, .bool ay]] w fun e w' => e = .returned (.int .i64 r) ∧ Below w.heap.size w w' := by
 have kZ := Try.underlying60
 have HB := Aside0.mk (Below.refl w.heap.size w)
 have H : (if ay = true then (some 0) else (some (wrap64 (aw - au)))) = some r := h
 clear h
 by_cases c2 : ay = true
 ·subst c2
  replace H := Sq.itT H
  obtain rfl := Option.some.inj H
  go_enter Try.func76, Try.ntmps76
  go_wp2_with (first | ((with_reducible refine gate_dst (N := 1) rfl ?_); refine box_event ?hg (N := 1) ?hd (cs := #[.string av, .int .i64 au, .int .i64 aw, .bool true]) (t := 60) ?hr ?_; (case hd => rfl); (case hg => rfl); (case hr => first | (go_simp; done) | (go_simp; rfl)); intro aa hg w3 hbox hb; have aG := Aside0.mk (below_step Z3 hb); have aH := Aside0.mk (hbox); have aI := Aside0.mk ((by rw [hg]; exact (below_size Z3) : w.heap.size ≤ aa)); have aZ := Aside0.mk ((by rw [hg]; exact (below_size Z3) : w.heap.size ≤ aa)); replace HB := aG; have ab := aH; have cl := aI; have bs := aZ; clear aG aH aI aZ; clear hb hbox hg; have lK := cells_4 ab.out))
  go_ret
  exact ⟨Z9, Z0⟩
 ·replace c2 := Bool.eq_false_iff.mpr c2
  subst c2
  replace H := Sq.itF H
  obtain rfl := Option.some.inj H
  go_enter Try.func76, Try.ntmps76
  go_wp2_with (first | ((with_reducible refine gate_dst (N := 1) rfl ?_); refine box_event ?hg (N := 1) ?hd (cs := #[.string av, .int .i64 au, .int .i64 aw, .bool false]) (t := 60) ?hr ?_; (case hd => rfl); (case hg => rfl); (case hr => first | (go_simp; done) | (go_simp; rfl)); intro aa hg w5 hbox hb; have aG := Aside0.mk (below_step Z3 hb); have aH := Aside0.mk (hbox); have aI := Aside0.mk ((by rw [hg]; exact (below_size Z3) : w.heap.size ≤ aa)); have aZ := Aside0.mk ((by rw [hg]; exact (below_size Z3) : w.heap.size ≤ aa)); replace HB := aG; have ab := aH; have cl := aI; have bs := aZ; clear aG aH aI aZ; clear hb hbox hg; have rq := cells_4 ab.out))
  go_ret
  exact ⟨Z9, Z0⟩

end Go.Proofs.Ytccjakjjaemmkaa.PR
