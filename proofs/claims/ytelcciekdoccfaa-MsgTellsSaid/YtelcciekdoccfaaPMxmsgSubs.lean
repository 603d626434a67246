-- Written by mp.py, a program of this work (wip/tools), out of the translation; Lean checks it.
import Derived.Test.YtelcciekdoccfaaPMxZ
namespace Go.Proofs.Ytelcciekdoccfaa.PM
open Go.RowKit Go.Proofs.YtelcciekdoccfaaW.PrintWords Go.Proofs.YtelcciekdoccfaaW.PrintLast Go.Proofs.YtelcciekdoccfaaW.PrintMore
attribute [local go_sem] max2_int min2_int max_two min_two max_three min_three max_four min_four   -- for this text's walks alone
set_option linter.unusedVariables false
set_option linter.unusedSimpArgs false

/-! ### msg_Subs: function 55 -/
def msg_Subs.l0 : Nat → Int → Int → List (S63) → Int → Int → Option (Bool)
 | 0, _, _, _, _, _ => none
 | k + 1, x1, x2, x9, hH, fM => if fM < hH then (if 0 ≤ fM then (if fM < (x9.length : Int) then (if ((rd_T63 x9 fM).f0) < x1 then (some false) else (if ((rd_T63 x9 fM).f0) > x2 then (some false) else (if (((rd_T63 x9 fM).f1).size : Int) > 255 then (some false) else (msg_Subs.l0 k x1 x2 x9 hH (wrap64 (fM + 1)))))) else (none)) else (none)) else (some true)
def msg_Subs.f (k : Nat) (l0 : List (S63)) (a1 : Int) (a2 : Int) : Option (Bool) := msg_Subs.l0 k a1 a2 l0 (l0.length : Int) 0
theorem msg_Subs.mono_l : ∀ k, (∀ y0 y1 y2 y3 y4, LeO (msg_Subs.l0 k y0 y1 y2 y3 y4) (msg_Subs.l0 (k + 1) y0 y1 y2 y3 y4))
 | 0 => fun _ _ _ _ _ r h => by simp [msg_Subs.l0] at h
 | k + 1 => by
  have ih0 := msg_Subs.mono_l k
  ·intro y0 y1 y2 y3 y4
   unfold msg_Subs.l0
   repeat' first
   | (with_reducible exact ih0 ..)
   | (with_reducible exact LeO.refl _)
   | (with_reducible exact LeO.none _)
   | (with_reducible refine LeO.ite ?_ ?_)
   | (with_reducible refine LeO.bind ?_ (fun _ => ?_))
   | exact ih0 ..
   | exact LeO.none _
   | refine LeO.ite ?_ ?_
   | refine LeO.bind ?_ (fun _ => ?_)
theorem msg_Subs.mono : ∀ a0 a1 a2 k, LeO (msg_Subs.f k a0 a1 a2) (msg_Subs.f (k + 1) a0 a1 a2) := by
 intro a0 a1 a2 k
 have ih0 := msg_Subs.mono_l k
 unfold msg_Subs.f
 repeat' first
   | (with_reducible exact ih0 ..)
   | (with_reducible exact LeO.refl _)
   | (with_reducible exact LeO.none _)
   | (with_reducible refine LeO.ite ?_ ?_)
   | (with_reducible refine LeO.bind ?_ (fun _ => ?_))
   | exact ih0 ..
   | exact LeO.none _
   | refine LeO.ite ?_ ?_
   | refine LeO.bind ?_ (fun _ => ?_)
set_option maxHeartbeats 8000000 in
set_option maxRecDepth 100000 in
theorem msg_Subs.calls (k : Nat) (A0 : Option Addr) (c0 : Nat) (l0 : List (S63)) (a1 : Int) (a2 : Int) (r : Bool) (w : World) (dm : Kd.C k63 w A0 l0.length l0) (cU : l0.length ≤ c0) (h : msg_Subs.f k l0 a1 a2 = some r) :
  Calls Try.prog 55 #[.slice A0 l0.length c0, .int .i64 a1, .int .i64 a2] w fun e w' => e = .returned (.bool r) ∧ Below w.heap.size w w' := by
 have fO := Try.underlying63
 have df := Aside0.mk dm
 have fP := Aside0.mk cU
 clear dm cU
 have HB := Aside0.mk (Below.refl w.heap.size w)
 have H : (msg_Subs.l0 k a1 a2 l0 (l0.length : Int) 0) = some r := h
 clear h
 have H' := Aside0.mk H
 clear H
 go_enter Try.func55, Try.ntmps55
 go_wp2
 go_loopg [11] k (fun kq fN w' => ∃ (bT : Int), fN = .int .i64 bT ∧ Aside0 (msg_Subs.l0 kq a1 a2 l0 (l0.length : Int) bT = some r) ∧ Aside0 (kq ≤ k) ∧ Aside0 (Below w.heap.size w w'))
 case atStart => exact ⟨(0), Z7, H', ⟨Nat.le_refl _⟩, ⟨Z0⟩⟩
 case round =>
  clear H'
  try clear p2
  obtain ⟨bT, rfl, HA, HK1, HB⟩ := hrel
  cases gk with
  | zero => exact absurd HA.out (by simp [msg_Subs.l0])
  | succ k1 =>
   have H := HA.out
   clear HA
   simp only [msg_Subs.l0] at H
   by_cases c4 : bT < (l0.length : Int)
   ·rw [if_pos c4] at H
    have cL : decide (bT < (l0.length : Int)) = true := decide_eq_true c4
    clear c4
    by_cases c5 : 0 ≤ bT
    ·rw [if_pos c5] at H
     have ec : decide (0 ≤ bT) = true := decide_eq_true c5
     clear c5
     by_cases c6 : bT < (l0.length : Int)
     ·rw [if_pos c6] at H
      have dC : decide (bT < (l0.length : Int)) = true := decide_eq_true c6
      clear c6
      by_cases c7 : ((rd_T63 l0 bT).f0) < a1
      ·rw [if_pos c7] at H
       have eT : decide (((rd_T63 l0 bT).f0) < a1) = true := decide_eq_true c7
       clear c7
       obtain rfl := Option.some.inj H
       have p101 : 0 ≤ (bT : Int) := of_decide_eq_true Z2
       have q101 : bT < (l0.length : Int) := of_decide_eq_true Z2
       obtain ⟨ad101, e101, hx101_0, hx101_1⟩ := at_T63 df.out bT p101 q101
       cases e101
       replace hx101_0 := (HB.out.cell (World.block_lt_of_cell? w _ hx101_0)).trans hx101_0
       replace hx101_1 := (HB.out.cell (World.block_lt_of_cell? w _ hx101_1)).trans hx101_1
       replace p101 := eq_true p101
       replace q101 := eq_true q101
       go_wp2_with (first | ((with_reducible refine gate_dst (N := 8) rfl ?_); (try (refine gate_guard Z13 ?_; dsimp only)); refine box_event ?hg (N := 8) ?hd (cs := #[.int .i64 0, .string ⟨#[]⟩]) (t := 63) ?hr ?_; (case hd => rfl); (case hg => rfl); (case hr => first | (go_simp; done) | (go_simp; rfl)); intro aE hg w8 hbox hb; have aH := Aside0.mk (below_step Z0 hb); have aK := Aside0.mk (hbox); have aL := Aside0.mk ((by rw [hg]; exact (below_size Z0) : w.heap.size ≤ aE)); have cQ := Aside0.mk ((by rw [hg]; exact (below_size Z0) : w.heap.size ≤ aE)); replace HB := aH; have ac := aK; have dl := aL; have dd := cQ; clear aH aK aL cQ; clear hb hbox hg; have hcz9_0 : w8.cell? ⟨aE, 0, none⟩ = some (.int .i64 0) := (blk_cell ac.out 0).trans rfl; have hcz9_1 : w8.cell? ⟨aE, 1, none⟩ = some (.string ⟨#[]⟩) := (blk_cell ac.out 1).trans rfl; have hfz9_0 := blk_frozen ac.out 0; have hfz9_1 := blk_frozen ac.out 1))
       go_ret
       exact ⟨Z8, Z22⟩
      ·rw [if_neg c7] at H
       have eT : decide (((rd_T63 l0 bT).f0) < a1) = false := decide_eq_false c7
       clear c7
       by_cases dx : ((rd_T63 l0 bT).f0) > a2
       ·rw [if_pos dx] at H
        have fl : decide (a2 < ((rd_T63 l0 bT).f0)) = true := decide_eq_true dx
        clear dx
        obtain rfl := Option.some.inj H
        have p101 : 0 ≤ (bT : Int) := of_decide_eq_true Z2
        have q101 : bT < (l0.length : Int) := of_decide_eq_true Z2
        obtain ⟨ad101, e101, hx101_0, hx101_1⟩ := at_T63 df.out bT p101 q101
        cases e101
        replace hx101_0 := (HB.out.cell (World.block_lt_of_cell? w _ hx101_0)).trans hx101_0
        replace hx101_1 := (HB.out.cell (World.block_lt_of_cell? w _ hx101_1)).trans hx101_1
        replace p101 := eq_true p101
        replace q101 := eq_true q101
        go_wp2_with (first | ((with_reducible refine gate_dst (N := 8) rfl ?_); (try (refine gate_guard Z13 ?_; dsimp only)); refine box_event ?hg (N := 8) ?hd (cs := #[.int .i64 0, .string ⟨#[]⟩]) (t := 63) ?hr ?_; (case hd => rfl); (case hg => rfl); (case hr => first | (go_simp; done) | (go_simp; rfl)); intro aE hg hG hbox hb; have aH := Aside0.mk (below_step Z0 hb); have aK := Aside0.mk (hbox); have aL := Aside0.mk ((by rw [hg]; exact (below_size Z0) : w.heap.size ≤ aE)); have cQ := Aside0.mk ((by rw [hg]; exact (below_size Z0) : w.heap.size ≤ aE)); replace HB := aH; have ac := aK; have dl := aL; have dd := cQ; clear aH aK aL cQ; clear hb hbox hg; have hcz12_0 : hG.cell? ⟨aE, 0, none⟩ = some (.int .i64 0) := (blk_cell ac.out 0).trans rfl; have hcz12_1 : hG.cell? ⟨aE, 1, none⟩ = some (.string ⟨#[]⟩) := (blk_cell ac.out 1).trans rfl; have hfz12_0 := blk_frozen ac.out 0; have hfz12_1 := blk_frozen ac.out 1))
        go_ret
        exact ⟨Z8, Z22⟩
       ·rw [if_neg dx] at H
        have fl : decide (a2 < ((rd_T63 l0 bT).f0)) = false := decide_eq_false dx
        clear dx
        by_cases eV : (((rd_T63 l0 bT).f1).size : Int) > 255
        ·rw [if_pos eV] at H
         have ib : decide (255 < (((rd_T63 l0 bT).f1).size : Int)) = true := decide_eq_true eV
         have ic : decide (255 < ((rd_T63 l0 bT).f1).size) = true := decide_eq_true Z27
         clear eV
         obtain rfl := Option.some.inj H
         have p101 : 0 ≤ (bT : Int) := of_decide_eq_true Z2
         have q101 : bT < (l0.length : Int) := of_decide_eq_true Z2
         obtain ⟨ad101, e101, hx101_0, hx101_1⟩ := at_T63 df.out bT p101 q101
         cases e101
         replace hx101_0 := (HB.out.cell (World.block_lt_of_cell? w _ hx101_0)).trans hx101_0
         replace hx101_1 := (HB.out.cell (World.block_lt_of_cell? w _ hx101_1)).trans hx101_1
         replace p101 := eq_true p101
         replace q101 := eq_true q101
         go_wp2_with (first | ((with_reducible refine gate_dst (N := 8) rfl ?_); (try (refine gate_guard Z13 ?_; dsimp only)); refine box_event ?hg (N := 8) ?hd (cs := #[.int .i64 0, .string ⟨#[]⟩]) (t := 63) ?hr ?_; (case hd => rfl); (case hg => rfl); (case hr => first | (go_simp; done) | (go_simp; rfl)); intro aE hg ie hbox hb; have aH := Aside0.mk (below_step Z0 hb); have aK := Aside0.mk (hbox); have aL := Aside0.mk ((by rw [hg]; exact (below_size Z0) : w.heap.size ≤ aE)); have cQ := Aside0.mk ((by rw [hg]; exact (below_size Z0) : w.heap.size ≤ aE)); replace HB := aH; have ac := aK; have dl := aL; have dd := cQ; clear aH aK aL cQ; clear hb hbox hg; have hcz15_0 : ie.cell? ⟨aE, 0, none⟩ = some (.int .i64 0) := (blk_cell ac.out 0).trans rfl; have hcz15_1 : ie.cell? ⟨aE, 1, none⟩ = some (.string ⟨#[]⟩) := (blk_cell ac.out 1).trans rfl; have hfz15_0 := blk_frozen ac.out 0; have hfz15_1 := blk_frozen ac.out 1))
         go_ret
         exact ⟨Z8, Z22⟩
        ·rw [if_neg eV] at H
         have ib : decide (255 < (((rd_T63 l0 bT).f1).size : Int)) = false := decide_eq_false eV
         have ic : decide (255 < ((rd_T63 l0 bT).f1).size) = false := decide_eq_false Z27
         clear eV
         have H' := Aside0.mk H
         clear H
         have p101 : 0 ≤ (bT : Int) := of_decide_eq_true Z2
         have q101 : bT < (l0.length : Int) := of_decide_eq_true Z2
         obtain ⟨ad101, e101, hx101_0, hx101_1⟩ := at_T63 df.out bT p101 q101
         cases e101
         replace hx101_0 := (HB.out.cell (World.block_lt_of_cell? w _ hx101_0)).trans hx101_0
         replace hx101_1 := (HB.out.cell (World.block_lt_of_cell? w _ hx101_1)).trans hx101_1
         replace p101 := eq_true p101
         replace q101 := eq_true q101
         go_wp2_with (first | ((with_reducible refine gate_dst (N := 8) rfl ?_); (try (refine gate_guard Z13 ?_; dsimp only)); refine box_event ?hg (N := 8) ?hd (cs := #[.int .i64 0, .string ⟨#[]⟩]) (t := 63) ?hr ?_; (case hd => rfl); (case hg => rfl); (case hr => first | (go_simp; done) | (go_simp; rfl)); intro aE hg im hbox hb; have aH := Aside0.mk (below_step Z0 hb); have aK := Aside0.mk (hbox); have aL := Aside0.mk ((by rw [hg]; exact (below_size Z0) : w.heap.size ≤ aE)); have cQ := Aside0.mk ((by rw [hg]; exact (below_size Z0) : w.heap.size ≤ aE)); replace HB := aH; have ac := aK; have dl := aL; have dd := cQ; clear aH aK aL cQ; clear hb hbox hg; have hcz17_0 : im.cell? ⟨aE, 0, none⟩ = some (.int .i64 0) := (blk_cell ac.out 0).trans rfl; have hcz17_1 : im.cell? ⟨aE, 1, none⟩ = some (.string ⟨#[]⟩) := (blk_cell ac.out 1).trans rfl; have hfz17_0 := blk_frozen ac.out 0; have hfz17_1 := blk_frozen ac.out 1))
         go_roundg k1
         case measure => have := HK1.out; omega
         case rel => exact ⟨(wrap64 (bT + 1)), Z7, H', ⟨Z30⟩, ⟨Z22⟩⟩
     ·rw [if_neg c6] at H
      exact absurd H (by simp)
    ·rw [if_neg c5] at H
     exact absurd H (by simp)
   ·rw [if_neg c4] at H
    have cL : decide (bT < (l0.length : Int)) = false := decide_eq_false c4
    clear c4
    obtain rfl := Option.some.inj H
    go_wp2
    go_ret
    exact ⟨Z8, Z0⟩

end Go.Proofs.Ytelcciekdoccfaa.PM
