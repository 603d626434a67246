-- Written by mp.py, a program of this work (wip/tools), out of the translation; Lean checks it.
import Derived.Test.YtelcciekdoccfaaPMxZ
import Derived.Test.YtelcciekdoccfaaPMxmsgSame
import Derived.Test.YtelcciekdoccfaaLoad
namespace Go.Proofs.Ytelcciekdoccfaa.PM
open Go.RowKit Go.Proofs.YtelcciekdoccfaaW.PrintWords Go.Proofs.YtelcciekdoccfaaW.PrintLast Go.Proofs.YtelcciekdoccfaaW.PrintMore
attribute [local go_sem] max2_int min2_int max_two min_two max_three min_three max_four min_four   -- for this text's walks alone
set_option linter.unusedVariables false
set_option linter.unusedSimpArgs false

/-! ### api_Msg: function 80 -/
def api_Msg.l0 : Nat → List (S58) → List (S58) → Int → Int → Option (Bool)
 | 0, _, _, _, _ => none
 | k + 1, x1, iD, iE, iF => if iF < iE then (if 0 ≤ iF then (if iF < (iD.length : Int) then (if iF < (x1.length : Int) then ((msg_Same.f k ((rd_T58 iD iF).f0) ((rd_T58 iD iF).f1) ((rd_T58 iD iF).f2) ((rd_T58 iD iF).f3) ((rd_T58 iD iF).f4) ((rd_T58 iD iF).f5) ((rd_T58 iD iF).f6) ((rd_T58 iD iF).f7) ((rd_T58 iD iF).f8) ((rd_T58 iD iF).f9) ((rd_T58 iD iF).f10) ((rd_T58 iD iF).f11) ((rd_T58 iD iF).f12) ((rd_T58 iD iF).f13) ((rd_T58 iD iF).f14) ((rd_T58 iD iF).f15) ((rd_T58 iD iF).f16) ((rd_T58 iD iF).f17) ((rd_T58 iD iF).f18) ((rd_T58 iD iF).f19) ((rd_T58 iD iF).f20) ((rd_T58 iD iF).f21) ((rd_T58 iD iF).f22) ((rd_T58 iD iF).f23) ((rd_T58 iD iF).f24) ((rd_T58 x1 iF).f0) ((rd_T58 x1 iF).f1) ((rd_T58 x1 iF).f2) ((rd_T58 x1 iF).f3) ((rd_T58 x1 iF).f4) ((rd_T58 x1 iF).f5) ((rd_T58 x1 iF).f6) ((rd_T58 x1 iF).f7) ((rd_T58 x1 iF).f8) ((rd_T58 x1 iF).f9) ((rd_T58 x1 iF).f10) ((rd_T58 x1 iF).f11) ((rd_T58 x1 iF).f12) ((rd_T58 x1 iF).f13) ((rd_T58 x1 iF).f14) ((rd_T58 x1 iF).f15) ((rd_T58 x1 iF).f16) ((rd_T58 x1 iF).f17) ((rd_T58 x1 iF).f18) ((rd_T58 x1 iF).f19) ((rd_T58 x1 iF).f20) ((rd_T58 x1 iF).f21) ((rd_T58 x1 iF).f22) ((rd_T58 x1 iF).f23) ((rd_T58 x1 iF).f24)).bind fun dI => (if dI = true then (api_Msg.l0 k x1 iD iE (wrap64 (iF + 1))) else (some false))) else (none)) else (none)) else (none)) else (some true)
def api_Msg.f (k : Nat) (l0 : List (S58)) (l1 : List (S58)) (a2 : Bool) : Option (Bool) := if (l0.length : Int) = (l1.length : Int) then (api_Msg.l0 k l1 l0 (l0.length : Int) 0) else (some false)
theorem api_Msg.mono_l : ∀ k, (∀ y0 y1 y2 y3, LeO (api_Msg.l0 k y0 y1 y2 y3) (api_Msg.l0 (k + 1) y0 y1 y2 y3))
 | 0 => fun _ _ _ _ r h => by simp [api_Msg.l0] at h
 | k + 1 => by
  have ih0 := api_Msg.mono_l k
  ·intro y0 y1 y2 y3
   unfold api_Msg.l0
   repeat' first
   | (with_reducible exact ih0 ..)
   | (with_reducible exact msg_Same.mono _ _ _ _ _ _ _ _ _ _ _ _ _ _ _ _ _ _ _ _ _ _ _ _ _ _ _ _ _ _ _ _ _ _ _ _ _ _ _ _ _ _ _ _ _ _ _ _ _ _ _)
   | (with_reducible exact LeO.refl _)
   | (with_reducible exact LeO.none _)
   | (with_reducible refine LeO.ite ?_ ?_)
   | (with_reducible refine LeO.bind ?_ (fun _ => ?_))
   | exact ih0 ..
   | exact msg_Same.mono _ _ _ _ _ _ _ _ _ _ _ _ _ _ _ _ _ _ _ _ _ _ _ _ _ _ _ _ _ _ _ _ _ _ _ _ _ _ _ _ _ _ _ _ _ _ _ _ _ _ _
   | exact LeO.none _
   | refine LeO.ite ?_ ?_
   | refine LeO.bind ?_ (fun _ => ?_)
theorem api_Msg.mono : ∀ a0 a1 a2 k, LeO (api_Msg.f k a0 a1 a2) (api_Msg.f (k + 1) a0 a1 a2) := by
 intro a0 a1 a2 k
 have ih0 := api_Msg.mono_l k
 unfold api_Msg.f
 repeat' first
   | (with_reducible exact ih0 ..)
   | (with_reducible exact msg_Same.mono _ _ _ _ _ _ _ _ _ _ _ _ _ _ _ _ _ _ _ _ _ _ _ _ _ _ _ _ _ _ _ _ _ _ _ _ _ _ _ _ _ _ _ _ _ _ _ _ _ _ _)
   | (with_reducible exact LeO.refl _)
   | (with_reducible exact LeO.none _)
   | (with_reducible refine LeO.ite ?_ ?_)
   | (with_reducible refine LeO.bind ?_ (fun _ => ?_))
   | exact ih0 ..
   | exact msg_Same.mono _ _ _ _ _ _ _ _ _ _ _ _ _ _ _ _ _ _ _ _ _ _ _ _ _ _ _ _ _ _ _ _ _ _ _ _ _ _ _ _ _ _ _ _ _ _ _ _ _ _ _
   | exact LeO.none _
   | refine LeO.ite ?_ ?_
   | refine LeO.bind ?_ (fun _ => ?_)

set_option maxHeartbeats 8000000 in
set_option maxRecDepth 100000 in
theorem api_Msg.calls (k : Nat) (A0 : Option Addr) (c0 : Nat) (l0 : List (S58)) (A1 : Option Addr) (c1 : Nat) (l1 : List (S58)) (a2 : Bool) (r : Bool) (w : World) (dm : Kd.C k58 w A0 l0.length l0) (cU : l0.length ≤ c0) (fh : Kd.C k58 w A1 l1.length l1) (fi : l1.length ≤ c1) (h : api_Msg.f k l0 l1 a2 = some r) :
  Calls Try.prog 80 #[.slice A0 l0.length c0, .slice A1 l1.length c1, .func (.func 50) #[] #[]] w fun e w' => e = .returned (.bool r) ∧ Below w.heap.size w w' := by
 have fp := Try.underlying58
 have df := Aside0.mk dm
 have fP := Aside0.mk cU
 clear dm cU
 have fj := Aside0.mk fh
 have ig := Aside0.mk fi
 clear fh fi
 have HB := Aside0.mk (Below.refl w.heap.size w)
 have H : (if (l0.length : Int) = (l1.length : Int) then (api_Msg.l0 k l1 l0 (l0.length : Int) 0) else (some false)) = some r := h
 clear h
 by_cases c4 : (l0.length : Int) = (l1.length : Int)
 ·rw [if_pos c4] at H
  have cL : ((l0.length : Int) == (l1.length : Int)) = true := beq_iff_eq.mpr c4
  have gK : ((l0.length : Int) != (l1.length : Int)) = false := bne_eq_false_iff_eq.mpr c4
  have c4b2 : (l0.length == l1.length) = true := by first | simpa using c4 | (simp at c4 ⊢; omega)
  clear c4
  have H' := Aside0.mk H
  clear H
  go_enter Try.func80, Try.ntmps80
  go_wp2_with (first | ((with_reducible refine Pre.gate_load 58 rfl ?_); (try (refine gate_guard Z13 ?_; dsimp only)); refine Pre.load_event rfl rfl rfl Z13 (by first | ((with_reducible repeat (first | refine blk_drewN ?_ _ | refine blk_drew ?_ | refine blk_alloc ?_ _)); (with_reducible first | exact ac.out | exact BK104.out)) | (apply Pre.heap_norm; ((with_reducible repeat (first | refine blk_drewN ?_ _ | refine blk_drew ?_ | refine blk_alloc ?_ _ | apply Pre.blk_set_)); (with_reducible first | exact ac.out | exact BK104.out)); (first | (simp only [List.setIfInBounds_toArray, List.set_cons_zero, List.set_cons_succ]; done) | (simp only [List.setIfInBounds_toArray, List.set_cons_zero, List.set_cons_succ]; rfl) | rfl))) Try.underlying58 rfl Z5 ?_) | ((with_reducible refine Pre.gate_load 58 rfl ?_); (try (refine gate_guard Z13 ?_; dsimp only)); refine Pre.load_event_a rfl rfl rfl Z13 Pre.range25 Try.underlying58 rfl Z5 ?_))
  go_loopg [17] k (fun kq ft w' => ∃ (x17_1 : Int), ft = .int .i64 x17_1 ∧ Aside0 (api_Msg.l0 kq l1 l0 (l0.length : Int) x17_1 = some r) ∧ Aside0 (kq ≤ k) ∧ Aside0 (Below w.heap.size w w'))
  case atStart => exact ⟨(0), Z7, H', ⟨Nat.le_refl _⟩, ⟨Z0⟩⟩
  case round =>
   clear H'
   try clear c1
   try clear p2
   try clear c4
   try clear cL
   try clear gK
   try clear c4b2
   obtain ⟨x17_1, rfl, HA, HK1, HB⟩ := hrel
   cases gk with
   | zero => exact absurd HA.out (by simp [api_Msg.l0])
   | succ k1 =>
    have H := HA.out
    clear HA
    simp only [api_Msg.l0] at H
    by_cases c5 : x17_1 < (l0.length : Int)
    ·rw [if_pos c5] at H
     have ec : decide (x17_1 < (l0.length : Int)) = true := decide_eq_true c5
     clear c5
     by_cases c6 : 0 ≤ x17_1
     ·rw [if_pos c6] at H
      have dC : decide (0 ≤ x17_1) = true := decide_eq_true c6
      clear c6
      by_cases c7 : x17_1 < (l0.length : Int)
      ·rw [if_pos c7] at H
       have eT : decide (x17_1 < (l0.length : Int)) = true := decide_eq_true c7
       clear c7
       by_cases c8 : x17_1 < (l1.length : Int)
       ·rw [if_pos c8] at H
        have fc : decide (x17_1 < (l1.length : Int)) = true := decide_eq_true c8
        clear c8
        replace H := Option.bind_eq_some_iff.mp H
        obtain ⟨dI, A90, H⟩ := H
        replace H : (if dI = true then (api_Msg.l0 k1 l1 l0 (l0.length : Int) (wrap64 (x17_1 + 1))) else (some false)) = some r := H
        have A9 := Aside0.mk A90
        clear A90
        by_cases dx : dI = true
        ·subst dx
         replace H := Sq.itT H
         have H' := Aside0.mk H
         clear H
         have p101 : 0 ≤ (x17_1 : Int) := of_decide_eq_true Z2
         have q101 : x17_1 < (l0.length : Int) := of_decide_eq_true Z2
         obtain ⟨ad101, cM, cN, cO, cP, e101, hx101_0, hx101_1, hx101_2, hx101_3, hx101_4, hx101_5, hx101_6, hx101_7, hx101_8, hx101_9, hx101_10, hx101_11, hx101_12, hx101_13, hx101_14, hx101_15, hx101_16, hx101_17, hx101_18, hx101_19, hx101_20, hx101_21, hx101_22, hx101_23, hx101_24, hl101_21, hi101_21, hl101_24, hi101_24⟩ := at_T58 df.out x17_1 p101 q101
         cases e101
         replace hx101_0 := (HB.out.cell (World.block_lt_of_cell? w _ hx101_0)).trans hx101_0
         replace hx101_1 := (HB.out.cell (World.block_lt_of_cell? w _ hx101_1)).trans hx101_1
         replace hx101_2 := (HB.out.cell (World.block_lt_of_cell? w _ hx101_2)).trans hx101_2
         replace hx101_3 := (HB.out.cell (World.block_lt_of_cell? w _ hx101_3)).trans hx101_3
         replace hx101_4 := (HB.out.cell (World.block_lt_of_cell? w _ hx101_4)).trans hx101_4
         replace hx101_5 := (HB.out.cell (World.block_lt_of_cell? w _ hx101_5)).trans hx101_5
         replace hx101_6 := (HB.out.cell (World.block_lt_of_cell? w _ hx101_6)).trans hx101_6
         replace hx101_7 := (HB.out.cell (World.block_lt_of_cell? w _ hx101_7)).trans hx101_7
         replace hx101_8 := (HB.out.cell (World.block_lt_of_cell? w _ hx101_8)).trans hx101_8
         replace hx101_9 := (HB.out.cell (World.block_lt_of_cell? w _ hx101_9)).trans hx101_9
         replace hx101_10 := (HB.out.cell (World.block_lt_of_cell? w _ hx101_10)).trans hx101_10
         replace hx101_11 := (HB.out.cell (World.block_lt_of_cell? w _ hx101_11)).trans hx101_11
         replace hx101_12 := (HB.out.cell (World.block_lt_of_cell? w _ hx101_12)).trans hx101_12
         replace hx101_13 := (HB.out.cell (World.block_lt_of_cell? w _ hx101_13)).trans hx101_13
         replace hx101_14 := (HB.out.cell (World.block_lt_of_cell? w _ hx101_14)).trans hx101_14
         replace hx101_15 := (HB.out.cell (World.block_lt_of_cell? w _ hx101_15)).trans hx101_15
         replace hx101_16 := (HB.out.cell (World.block_lt_of_cell? w _ hx101_16)).trans hx101_16
         replace hx101_17 := (HB.out.cell (World.block_lt_of_cell? w _ hx101_17)).trans hx101_17
         replace hx101_18 := (HB.out.cell (World.block_lt_of_cell? w _ hx101_18)).trans hx101_18
         replace hx101_19 := (HB.out.cell (World.block_lt_of_cell? w _ hx101_19)).trans hx101_19
         replace hx101_20 := (HB.out.cell (World.block_lt_of_cell? w _ hx101_20)).trans hx101_20
         replace hx101_21 := (HB.out.cell (World.block_lt_of_cell? w _ hx101_21)).trans hx101_21
         replace hx101_22 := (HB.out.cell (World.block_lt_of_cell? w _ hx101_22)).trans hx101_22
         replace hx101_23 := (HB.out.cell (World.block_lt_of_cell? w _ hx101_23)).trans hx101_23
         replace hx101_24 := (HB.out.cell (World.block_lt_of_cell? w _ hx101_24)).trans hx101_24
         have cX := Aside0.mk hi101_21
         have cR := Aside0.mk hl101_21
         clear hi101_21 hl101_21
         have cY := Aside0.mk hi101_24
         have cS := Aside0.mk hl101_24
         clear hi101_24 hl101_24
         replace p101 := eq_true p101
         replace q101 := eq_true q101
         go_wp2_with (first | ((with_reducible refine Pre.gate_load 58 rfl ?_); (try (refine gate_guard Z13 ?_; dsimp only)); refine Pre.load_event rfl rfl rfl Z13 (by first | ((with_reducible repeat (first | refine blk_drewN ?_ _ | refine blk_drew ?_ | refine blk_alloc ?_ _)); (with_reducible first | exact ac.out | exact BK104.out)) | (apply Pre.heap_norm; ((with_reducible repeat (first | refine blk_drewN ?_ _ | refine blk_drew ?_ | refine blk_alloc ?_ _ | apply Pre.blk_set_)); (with_reducible first | exact ac.out | exact BK104.out)); (first | (simp only [List.setIfInBounds_toArray, List.set_cons_zero, List.set_cons_succ]; done) | (simp only [List.setIfInBounds_toArray, List.set_cons_zero, List.set_cons_succ]; rfl) | rfl))) Try.underlying58 rfl Z5 ?_) | ((with_reducible refine Pre.gate_load 58 rfl ?_); (try (refine gate_guard Z13 ?_; dsimp only)); refine Pre.load_event_a rfl rfl rfl Z13 Pre.range25 Try.underlying58 rfl Z5 ?_) | ((with_reducible refine gate_dst (N := 8) rfl ?_); refine box_event ?hg (N := 8) ?hd (cs := #[.int .i64 0, .int .i64 0, .int .i64 0, .string ⟨#[]⟩, .int .i64 0, .int .i64 0, .string ⟨#[]⟩, .int .i64 0, .int .i64 0, .string ⟨#[]⟩, .int .i64 0, .string ⟨#[]⟩, .int .i64 0, .int .i64 0, .int .i64 0, .int .i64 0, .int .i64 0, .int .i64 0, .int .i64 0, .string ⟨#[]⟩, .string ⟨#[]⟩, .slice none 0 0, .int .i64 0, .string ⟨#[]⟩, .slice none 0 0]) (t := 58) ?hr ?_; (case hd => rfl); (case hg => rfl); (case hr => first | (go_simp; done) | (go_simp; rfl)); intro aE hg hG hbox hb; have aH := Aside0.mk (below_step Z0 hb); have aK := Aside0.mk (hbox); have aL := Aside0.mk ((by rw [hg]; exact (below_size Z0) : w.heap.size ≤ aE)); have cQ := Aside0.mk ((by rw [hg]; exact (below_size Z0) : w.heap.size ≤ aE)); replace HB := aH; have ac := aK; have dl := aL; have dd := cQ; clear aH aK aL cQ; clear hb hbox hg; have hcz12 := cells_25 ac.out) | ((with_reducible refine Pre.gate_store 58 rfl ?_); refine Pre.store_abs (cur := #[.int .i64 0, .int .i64 0, .int .i64 0, .string ⟨#[]⟩, .int .i64 0, .int .i64 0, .string ⟨#[]⟩, .int .i64 0, .int .i64 0, .string ⟨#[]⟩, .int .i64 0, .string ⟨#[]⟩, .int .i64 0, .int .i64 0, .int .i64 0, .int .i64 0, .int .i64 0, .int .i64 0, .int .i64 0, .string ⟨#[]⟩, .string ⟨#[]⟩, .slice none 0 0, .int .i64 0, .string ⟨#[]⟩, .slice none 0 0]) (e := 58) rfl rfl rfl Z13 Z13 Z19 Z5 Z13 Z13 ?_; intro w13 hbS_ sS_; have aH : Aside0 (w13.heap[aE]? = some (.cells #[.int .i64 ((rd_T58 l0 x17_1).f0), .int .i64 ((rd_T58 l0 x17_1).f1), .int .i64 ((rd_T58 l0 x17_1).f2), .string ((rd_T58 l0 x17_1).f3), .int .i64 ((rd_T58 l0 x17_1).f4), .int .i64 ((rd_T58 l0 x17_1).f5), .string ((rd_T58 l0 x17_1).f6), .int .i64 ((rd_T58 l0 x17_1).f7), .int .i64 ((rd_T58 l0 x17_1).f8), .string ((rd_T58 l0 x17_1).f9), .int .i64 ((rd_T58 l0 x17_1).f10), .string ((rd_T58 l0 x17_1).f11), .int .i64 ((rd_T58 l0 x17_1).f12), .int .i64 ((rd_T58 l0 x17_1).f13), .int .i64 ((rd_T58 l0 x17_1).f14), .int .i64 ((rd_T58 l0 x17_1).f15), .int .i64 ((rd_T58 l0 x17_1).f16), .int .i64 ((rd_T58 l0 x17_1).f17), .int .i64 ((rd_T58 l0 x17_1).f18), .string ((rd_T58 l0 x17_1).f19), .string ((rd_T58 l0 x17_1).f20), .slice cM ((rd_T58 l0 x17_1).f21).length cN, .int .i64 ((rd_T58 l0 x17_1).f22), .string ((rd_T58 l0 x17_1).f23), .slice cO ((rd_T58 l0 x17_1).f24).length cP] 58 (0, 0))) := ⟨hbS_⟩; have aK : Aside0 (Below w.heap.size w w13) := ⟨sS_.below Z22 dd.out⟩; clear hbS_ sS_; replace ac := aH; replace HB := aK; clear aH aK; have p103 : 0 ≤ (x17_1 : Int) := of_decide_eq_true Z2; have q103 : x17_1 < (l1.length : Int) := of_decide_eq_true Z2; obtain ⟨ad103, A103_21, c103_21, A103_24, c103_24, e103, hx103_0, hx103_1, hx103_2, hx103_3, hx103_4, hx103_5, hx103_6, hx103_7, hx103_8, hx103_9, hx103_10, hx103_11, hx103_12, hx103_13, hx103_14, hx103_15, hx103_16, hx103_17, hx103_18, hx103_19, hx103_20, hx103_21, hx103_22, hx103_23, hx103_24, hl103_21, hi103_21, hl103_24, hi103_24⟩ := at_T58 fj.out x17_1 p103 q103; cases e103; replace hx103_0 := (HB.out.cell (World.block_lt_of_cell? w _ hx103_0)).trans hx103_0; replace hx103_1 := (HB.out.cell (World.block_lt_of_cell? w _ hx103_1)).trans hx103_1; replace hx103_2 := (HB.out.cell (World.block_lt_of_cell? w _ hx103_2)).trans hx103_2; replace hx103_3 := (HB.out.cell (World.block_lt_of_cell? w _ hx103_3)).trans hx103_3; replace hx103_4 := (HB.out.cell (World.block_lt_of_cell? w _ hx103_4)).trans hx103_4; replace hx103_5 := (HB.out.cell (World.block_lt_of_cell? w _ hx103_5)).trans hx103_5; replace hx103_6 := (HB.out.cell (World.block_lt_of_cell? w _ hx103_6)).trans hx103_6; replace hx103_7 := (HB.out.cell (World.block_lt_of_cell? w _ hx103_7)).trans hx103_7; replace hx103_8 := (HB.out.cell (World.block_lt_of_cell? w _ hx103_8)).trans hx103_8; replace hx103_9 := (HB.out.cell (World.block_lt_of_cell? w _ hx103_9)).trans hx103_9; replace hx103_10 := (HB.out.cell (World.block_lt_of_cell? w _ hx103_10)).trans hx103_10; replace hx103_11 := (HB.out.cell (World.block_lt_of_cell? w _ hx103_11)).trans hx103_11; replace hx103_12 := (HB.out.cell (World.block_lt_of_cell? w _ hx103_12)).trans hx103_12; replace hx103_13 := (HB.out.cell (World.block_lt_of_cell? w _ hx103_13)).trans hx103_13; replace hx103_14 := (HB.out.cell (World.block_lt_of_cell? w _ hx103_14)).trans hx103_14; replace hx103_15 := (HB.out.cell (World.block_lt_of_cell? w _ hx103_15)).trans hx103_15; replace hx103_16 := (HB.out.cell (World.block_lt_of_cell? w _ hx103_16)).trans hx103_16; replace hx103_17 := (HB.out.cell (World.block_lt_of_cell? w _ hx103_17)).trans hx103_17; replace hx103_18 := (HB.out.cell (World.block_lt_of_cell? w _ hx103_18)).trans hx103_18; replace hx103_19 := (HB.out.cell (World.block_lt_of_cell? w _ hx103_19)).trans hx103_19; replace hx103_20 := (HB.out.cell (World.block_lt_of_cell? w _ hx103_20)).trans hx103_20; replace hx103_21 := (HB.out.cell (World.block_lt_of_cell? w _ hx103_21)).trans hx103_21; replace hx103_22 := (HB.out.cell (World.block_lt_of_cell? w _ hx103_22)).trans hx103_22; replace hx103_23 := (HB.out.cell (World.block_lt_of_cell? w _ hx103_23)).trans hx103_23; replace hx103_24 := (HB.out.cell (World.block_lt_of_cell? w _ hx103_24)).trans hx103_24; have HR103_21 := Aside0.mk hi103_21; have HC103_21 := Aside0.mk hl103_21; clear hi103_21 hl103_21; have HR103_24 := Aside0.mk hi103_24; have HC103_24 := Aside0.mk hl103_24; clear hi103_24 hl103_24; replace p103 := eq_true p103; replace q103 := eq_true q103) | ((with_reducible refine gate_dst (N := 9) rfl ?_); refine box_event ?hg (N := 9) ?hd (cs := #[.int .i64 0, .int .i64 0, .int .i64 0, .string ⟨#[]⟩, .int .i64 0, .int .i64 0, .string ⟨#[]⟩, .int .i64 0, .int .i64 0, .string ⟨#[]⟩, .int .i64 0, .string ⟨#[]⟩, .int .i64 0, .int .i64 0, .int .i64 0, .int .i64 0, .int .i64 0, .int .i64 0, .int .i64 0, .string ⟨#[]⟩, .string ⟨#[]⟩, .slice none 0 0, .int .i64 0, .string ⟨#[]⟩, .slice none 0 0]) (t := 58) ?hr ?_; (case hd => rfl); (case hg => rfl); (case hr => first | (go_simp; done) | (go_simp; rfl)); intro gb104 hg ie hbox hb; have aH := Aside0.mk (blk_below (g := aE) Z19 hb); have aK := Aside0.mk (below_step Z22 hb); have aL := Aside0.mk (hbox); have cQ := Aside0.mk ((by rw [hg]; exact (below_size Z22) : w.heap.size ≤ gb104)); have fe := Aside0.mk ((by rw [hg]; exact (below_size Z22) : w.heap.size ≤ gb104)); have ff := Aside0.mk ((by rw [hg]; exact Nat.ne_of_lt (blk_lt (g := aE) Z19) : aE ≠ gb104)); have fg := Aside0.mk ((by rw [hg]; exact Nat.ne_of_gt (blk_lt (g := aE) Z19) : gb104 ≠ aE)); replace ac := aH; replace HB := aK; have BK104 := aL; have GW104 := cQ; have GE104 := fe; have NB102_104 := ff; have NB104_102 := fg; clear aH aK aL cQ fe ff fg; clear hb hbox hg; have hnb15 := NB104_102.out; have hnc15 := NB102_104.out; have hcz16 := cells_25 BK104.out) | ((with_reducible refine Pre.gate_store 58 rfl ?_); refine Pre.store_abs (cur := #[.int .i64 0, .int .i64 0, .int .i64 0, .string ⟨#[]⟩, .int .i64 0, .int .i64 0, .string ⟨#[]⟩, .int .i64 0, .int .i64 0, .string ⟨#[]⟩, .int .i64 0, .string ⟨#[]⟩, .int .i64 0, .int .i64 0, .int .i64 0, .int .i64 0, .int .i64 0, .int .i64 0, .int .i64 0, .string ⟨#[]⟩, .string ⟨#[]⟩, .slice none 0 0, .int .i64 0, .string ⟨#[]⟩, .slice none 0 0]) (e := 58) rfl rfl rfl Z13 Z13 (by (with_reducible repeat (first | refine blk_drewN ?_ _ | refine blk_drew ?_ | refine blk_alloc ?_ _)); exact BK104.out) Z5 Z13 Z13 ?_; intro w17 hbS_ sS_; have aH : Aside0 (w17.heap[aE]? = some (.cells #[.int .i64 ((rd_T58 l0 x17_1).f0), .int .i64 ((rd_T58 l0 x17_1).f1), .int .i64 ((rd_T58 l0 x17_1).f2), .string ((rd_T58 l0 x17_1).f3), .int .i64 ((rd_T58 l0 x17_1).f4), .int .i64 ((rd_T58 l0 x17_1).f5), .string ((rd_T58 l0 x17_1).f6), .int .i64 ((rd_T58 l0 x17_1).f7), .int .i64 ((rd_T58 l0 x17_1).f8), .string ((rd_T58 l0 x17_1).f9), .int .i64 ((rd_T58 l0 x17_1).f10), .string ((rd_T58 l0 x17_1).f11), .int .i64 ((rd_T58 l0 x17_1).f12), .int .i64 ((rd_T58 l0 x17_1).f13), .int .i64 ((rd_T58 l0 x17_1).f14), .int .i64 ((rd_T58 l0 x17_1).f15), .int .i64 ((rd_T58 l0 x17_1).f16), .int .i64 ((rd_T58 l0 x17_1).f17), .int .i64 ((rd_T58 l0 x17_1).f18), .string ((rd_T58 l0 x17_1).f19), .string ((rd_T58 l0 x17_1).f20), .slice cM ((rd_T58 l0 x17_1).f21).length cN, .int .i64 ((rd_T58 l0 x17_1).f22), .string ((rd_T58 l0 x17_1).f23), .slice cO ((rd_T58 l0 x17_1).f24).length cP] 58 (0, 0))) := ⟨sS_.blk Z19 NB102_104.out⟩; have aK : Aside0 (w17.heap[gb104]? = some (.cells #[.int .i64 ((rd_T58 l1 x17_1).f0), .int .i64 ((rd_T58 l1 x17_1).f1), .int .i64 ((rd_T58 l1 x17_1).f2), .string ((rd_T58 l1 x17_1).f3), .int .i64 ((rd_T58 l1 x17_1).f4), .int .i64 ((rd_T58 l1 x17_1).f5), .string ((rd_T58 l1 x17_1).f6), .int .i64 ((rd_T58 l1 x17_1).f7), .int .i64 ((rd_T58 l1 x17_1).f8), .string ((rd_T58 l1 x17_1).f9), .int .i64 ((rd_T58 l1 x17_1).f10), .string ((rd_T58 l1 x17_1).f11), .int .i64 ((rd_T58 l1 x17_1).f12), .int .i64 ((rd_T58 l1 x17_1).f13), .int .i64 ((rd_T58 l1 x17_1).f14), .int .i64 ((rd_T58 l1 x17_1).f15), .int .i64 ((rd_T58 l1 x17_1).f16), .int .i64 ((rd_T58 l1 x17_1).f17), .int .i64 ((rd_T58 l1 x17_1).f18), .string ((rd_T58 l1 x17_1).f19), .string ((rd_T58 l1 x17_1).f20), .slice A103_21 ((rd_T58 l1 x17_1).f21).length c103_21, .int .i64 ((rd_T58 l1 x17_1).f22), .string ((rd_T58 l1 x17_1).f23), .slice A103_24 ((rd_T58 l1 x17_1).f24).length c103_24] 58 (0, 0))) := ⟨hbS_⟩; have aL : Aside0 (Below w.heap.size w w17) := ⟨sS_.below (by repeat (first | (with_reducible first | exact HB.out | apply below_alloc | apply pw_below_drewN | apply below_drew1 | refine below_set ?_ dd.out | refine below_set ?_ GE104.out) | exact HB.out)) GE104.out⟩; clear hbS_ sS_; replace ac := aH; replace BK104 := aK; replace HB := aL; clear aH aK aL; have hcz18 := cells_25 ac.out; have hcz19 := cells_25 BK104.out) | (go_at_call 50; (with_reducible refine (msg_Same.calls k1 ((rd_T58 l0 x17_1).f0) ((rd_T58 l0 x17_1).f1) ((rd_T58 l0 x17_1).f2) ((rd_T58 l0 x17_1).f3) ((rd_T58 l0 x17_1).f4) ((rd_T58 l0 x17_1).f5) ((rd_T58 l0 x17_1).f6) ((rd_T58 l0 x17_1).f7) ((rd_T58 l0 x17_1).f8) ((rd_T58 l0 x17_1).f9) ((rd_T58 l0 x17_1).f10) ((rd_T58 l0 x17_1).f11) ((rd_T58 l0 x17_1).f12) ((rd_T58 l0 x17_1).f13) ((rd_T58 l0 x17_1).f14) ((rd_T58 l0 x17_1).f15) ((rd_T58 l0 x17_1).f16) ((rd_T58 l0 x17_1).f17) ((rd_T58 l0 x17_1).f18) ((rd_T58 l0 x17_1).f19) ((rd_T58 l0 x17_1).f20) _ _ ((rd_T58 l0 x17_1).f21) ((rd_T58 l0 x17_1).f22) ((rd_T58 l0 x17_1).f23) _ _ ((rd_T58 l0 x17_1).f24) ((rd_T58 l1 x17_1).f0) ((rd_T58 l1 x17_1).f1) ((rd_T58 l1 x17_1).f2) ((rd_T58 l1 x17_1).f3) ((rd_T58 l1 x17_1).f4) ((rd_T58 l1 x17_1).f5) ((rd_T58 l1 x17_1).f6) ((rd_T58 l1 x17_1).f7) ((rd_T58 l1 x17_1).f8) ((rd_T58 l1 x17_1).f9) ((rd_T58 l1 x17_1).f10) ((rd_T58 l1 x17_1).f11) ((rd_T58 l1 x17_1).f12) ((rd_T58 l1 x17_1).f13) ((rd_T58 l1 x17_1).f14) ((rd_T58 l1 x17_1).f15) ((rd_T58 l1 x17_1).f16) ((rd_T58 l1 x17_1).f17) ((rd_T58 l1 x17_1).f18) ((rd_T58 l1 x17_1).f19) ((rd_T58 l1 x17_1).f20) _ _ ((rd_T58 l1 x17_1).f21) ((rd_T58 l1 x17_1).f22) ((rd_T58 l1 x17_1).f23) _ _ ((rd_T58 l1 x17_1).f24) true _ ?side1 ?side2 ?side3 ?side4 ?side5 ?side6 ?side7 ?side8 A9.out).mono ?_); (case side1 => exact Z24); (case side2 => exact cR.out); (case side3 => exact Z23); (case side4 => exact cS.out); (case side5 => exact (by repeat (first | exact (Kd.C_below HR103_21.out HB.out) | (with_reducible refine Kd.C_alloc ?_ _) | (with_reducible refine Kd.C_drewN ?_ _) | (with_reducible refine Kd.C_drew ?_)))); (case side6 => exact HC103_21.out); (case side7 => exact (by repeat (first | exact (Kd.C_below HR103_24.out HB.out) | (with_reducible refine Kd.C_alloc ?_ _) | (with_reducible refine Kd.C_drewN ?_ _) | (with_reducible refine Kd.C_drew ?_)))); (case side8 => exact HC103_24.out); rintro e iR ⟨rfl, hb⟩; have aH := Aside0.mk (blk_below (g := aE) Z19 hb); have aK := Aside0.mk (blk_below (g := gb104) (by (with_reducible repeat (first | refine blk_drewN ?_ _ | refine blk_drew ?_ | refine blk_alloc ?_ _)); exact BK104.out) hb); have aL := Aside0.mk (below_step (by repeat (first | (with_reducible first | exact HB.out | apply below_alloc | apply pw_below_drewN | apply below_drew1 | refine below_set ?_ dd.out | refine below_set ?_ GE104.out) | exact HB.out)) hb); replace ac := aH; replace BK104 := aK; replace HB := aL; clear aH aK aL; (try clear hb); (try clear hb2); (try clear hk); (try clear hi)))
         go_roundg k1
         case measure => have := HK1.out; omega
         case rel => exact ⟨(wrap64 (x17_1 + 1)), Z7, H', ⟨Z30⟩, ⟨by repeat (first | (with_reducible first | exact HB.out | apply below_alloc | apply pw_below_drewN | apply below_drew1 | refine below_set ?_ dd.out | refine below_set ?_ GE104.out) | exact HB.out)⟩⟩
        ·replace dx := Bool.eq_false_iff.mpr dx
         subst dx
         replace H := Sq.itF H
         obtain rfl := Option.some.inj H
         have p101 : 0 ≤ (x17_1 : Int) := of_decide_eq_true Z2
         have q101 : x17_1 < (l0.length : Int) := of_decide_eq_true Z2
         obtain ⟨ad101, cM, cN, cO, cP, e101, hx101_0, hx101_1, hx101_2, hx101_3, hx101_4, hx101_5, hx101_6, hx101_7, hx101_8, hx101_9, hx101_10, hx101_11, hx101_12, hx101_13, hx101_14, hx101_15, hx101_16, hx101_17, hx101_18, hx101_19, hx101_20, hx101_21, hx101_22, hx101_23, hx101_24, hl101_21, hi101_21, hl101_24, hi101_24⟩ := at_T58 df.out x17_1 p101 q101
         cases e101
         replace hx101_0 := (HB.out.cell (World.block_lt_of_cell? w _ hx101_0)).trans hx101_0
         replace hx101_1 := (HB.out.cell (World.block_lt_of_cell? w _ hx101_1)).trans hx101_1
         replace hx101_2 := (HB.out.cell (World.block_lt_of_cell? w _ hx101_2)).trans hx101_2
         replace hx101_3 := (HB.out.cell (World.block_lt_of_cell? w _ hx101_3)).trans hx101_3
         replace hx101_4 := (HB.out.cell (World.block_lt_of_cell? w _ hx101_4)).trans hx101_4
         replace hx101_5 := (HB.out.cell (World.block_lt_of_cell? w _ hx101_5)).trans hx101_5
         replace hx101_6 := (HB.out.cell (World.block_lt_of_cell? w _ hx101_6)).trans hx101_6
         replace hx101_7 := (HB.out.cell (World.block_lt_of_cell? w _ hx101_7)).trans hx101_7
         replace hx101_8 := (HB.out.cell (World.block_lt_of_cell? w _ hx101_8)).trans hx101_8
         replace hx101_9 := (HB.out.cell (World.block_lt_of_cell? w _ hx101_9)).trans hx101_9
         replace hx101_10 := (HB.out.cell (World.block_lt_of_cell? w _ hx101_10)).trans hx101_10
         replace hx101_11 := (HB.out.cell (World.block_lt_of_cell? w _ hx101_11)).trans hx101_11
         replace hx101_12 := (HB.out.cell (World.block_lt_of_cell? w _ hx101_12)).trans hx101_12
         replace hx101_13 := (HB.out.cell (World.block_lt_of_cell? w _ hx101_13)).trans hx101_13
         replace hx101_14 := (HB.out.cell (World.block_lt_of_cell? w _ hx101_14)).trans hx101_14
         replace hx101_15 := (HB.out.cell (World.block_lt_of_cell? w _ hx101_15)).trans hx101_15
         replace hx101_16 := (HB.out.cell (World.block_lt_of_cell? w _ hx101_16)).trans hx101_16
         replace hx101_17 := (HB.out.cell (World.block_lt_of_cell? w _ hx101_17)).trans hx101_17
         replace hx101_18 := (HB.out.cell (World.block_lt_of_cell? w _ hx101_18)).trans hx101_18
         replace hx101_19 := (HB.out.cell (World.block_lt_of_cell? w _ hx101_19)).trans hx101_19
         replace hx101_20 := (HB.out.cell (World.block_lt_of_cell? w _ hx101_20)).trans hx101_20
         replace hx101_21 := (HB.out.cell (World.block_lt_of_cell? w _ hx101_21)).trans hx101_21
         replace hx101_22 := (HB.out.cell (World.block_lt_of_cell? w _ hx101_22)).trans hx101_22
         replace hx101_23 := (HB.out.cell (World.block_lt_of_cell? w _ hx101_23)).trans hx101_23
         replace hx101_24 := (HB.out.cell (World.block_lt_of_cell? w _ hx101_24)).trans hx101_24
         have cX := Aside0.mk hi101_21
         have cR := Aside0.mk hl101_21
         clear hi101_21 hl101_21
         have cY := Aside0.mk hi101_24
         have cS := Aside0.mk hl101_24
         clear hi101_24 hl101_24
         replace p101 := eq_true p101
         replace q101 := eq_true q101
         go_wp2_with (first | ((with_reducible refine Pre.gate_load 58 rfl ?_); (try (refine gate_guard Z13 ?_; dsimp only)); refine Pre.load_event rfl rfl rfl Z13 (by first | ((with_reducible repeat (first | refine blk_drewN ?_ _ | refine blk_drew ?_ | refine blk_alloc ?_ _)); (with_reducible first | exact ac.out | exact BK104.out)) | (apply Pre.heap_norm; ((with_reducible repeat (first | refine blk_drewN ?_ _ | refine blk_drew ?_ | refine blk_alloc ?_ _ | apply Pre.blk_set_)); (with_reducible first | exact ac.out | exact BK104.out)); (first | (simp only [List.setIfInBounds_toArray, List.set_cons_zero, List.set_cons_succ]; done) | (simp only [List.setIfInBounds_toArray, List.set_cons_zero, List.set_cons_succ]; rfl) | rfl))) Try.underlying58 rfl Z5 ?_) | ((with_reducible refine Pre.gate_load 58 rfl ?_); (try (refine gate_guard Z13 ?_; dsimp only)); refine Pre.load_event_a rfl rfl rfl Z13 Pre.range25 Try.underlying58 rfl Z5 ?_) | ((with_reducible refine gate_dst (N := 8) rfl ?_); refine box_event ?hg (N := 8) ?hd (cs := #[.int .i64 0, .int .i64 0, .int .i64 0, .string ⟨#[]⟩, .int .i64 0, .int .i64 0, .string ⟨#[]⟩, .int .i64 0, .int .i64 0, .string ⟨#[]⟩, .int .i64 0, .string ⟨#[]⟩, .int .i64 0, .int .i64 0, .int .i64 0, .int .i64 0, .int .i64 0, .int .i64 0, .int .i64 0, .string ⟨#[]⟩, .string ⟨#[]⟩, .slice none 0 0, .int .i64 0, .string ⟨#[]⟩, .slice none 0 0]) (t := 58) ?hr ?_; (case hd => rfl); (case hg => rfl); (case hr => first | (go_simp; done) | (go_simp; rfl)); intro aE hg w21 hbox hb; have aH := Aside0.mk (below_step Z0 hb); have aK := Aside0.mk (hbox); have aL := Aside0.mk ((by rw [hg]; exact (below_size Z0) : w.heap.size ≤ aE)); have cQ := Aside0.mk ((by rw [hg]; exact (below_size Z0) : w.heap.size ≤ aE)); replace HB := aH; have ac := aK; have dl := aL; have dd := cQ; clear aH aK aL cQ; clear hb hbox hg; have hcz22 := cells_25 ac.out) | ((with_reducible refine Pre.gate_store 58 rfl ?_); refine Pre.store_abs (cur := #[.int .i64 0, .int .i64 0, .int .i64 0, .string ⟨#[]⟩, .int .i64 0, .int .i64 0, .string ⟨#[]⟩, .int .i64 0, .int .i64 0, .string ⟨#[]⟩, .int .i64 0, .string ⟨#[]⟩, .int .i64 0, .int .i64 0, .int .i64 0, .int .i64 0, .int .i64 0, .int .i64 0, .int .i64 0, .string ⟨#[]⟩, .string ⟨#[]⟩, .slice none 0 0, .int .i64 0, .string ⟨#[]⟩, .slice none 0 0]) (e := 58) rfl rfl rfl Z13 Z13 Z19 Z5 Z13 Z13 ?_; intro w23 hbS_ sS_; have aH : Aside0 (w23.heap[aE]? = some (.cells #[.int .i64 ((rd_T58 l0 x17_1).f0), .int .i64 ((rd_T58 l0 x17_1).f1), .int .i64 ((rd_T58 l0 x17_1).f2), .string ((rd_T58 l0 x17_1).f3), .int .i64 ((rd_T58 l0 x17_1).f4), .int .i64 ((rd_T58 l0 x17_1).f5), .string ((rd_T58 l0 x17_1).f6), .int .i64 ((rd_T58 l0 x17_1).f7), .int .i64 ((rd_T58 l0 x17_1).f8), .string ((rd_T58 l0 x17_1).f9), .int .i64 ((rd_T58 l0 x17_1).f10), .string ((rd_T58 l0 x17_1).f11), .int .i64 ((rd_T58 l0 x17_1).f12), .int .i64 ((rd_T58 l0 x17_1).f13), .int .i64 ((rd_T58 l0 x17_1).f14), .int .i64 ((rd_T58 l0 x17_1).f15), .int .i64 ((rd_T58 l0 x17_1).f16), .int .i64 ((rd_T58 l0 x17_1).f17), .int .i64 ((rd_T58 l0 x17_1).f18), .string ((rd_T58 l0 x17_1).f19), .string ((rd_T58 l0 x17_1).f20), .slice cM ((rd_T58 l0 x17_1).f21).length cN, .int .i64 ((rd_T58 l0 x17_1).f22), .string ((rd_T58 l0 x17_1).f23), .slice cO ((rd_T58 l0 x17_1).f24).length cP] 58 (0, 0))) := ⟨hbS_⟩; have aK : Aside0 (Below w.heap.size w w23) := ⟨sS_.below Z22 dd.out⟩; clear hbS_ sS_; replace ac := aH; replace HB := aK; clear aH aK; have p103 : 0 ≤ (x17_1 : Int) := of_decide_eq_true Z2; have q103 : x17_1 < (l1.length : Int) := of_decide_eq_true Z2; obtain ⟨ad103, A103_21, c103_21, A103_24, c103_24, e103, hx103_0, hx103_1, hx103_2, hx103_3, hx103_4, hx103_5, hx103_6, hx103_7, hx103_8, hx103_9, hx103_10, hx103_11, hx103_12, hx103_13, hx103_14, hx103_15, hx103_16, hx103_17, hx103_18, hx103_19, hx103_20, hx103_21, hx103_22, hx103_23, hx103_24, hl103_21, hi103_21, hl103_24, hi103_24⟩ := at_T58 fj.out x17_1 p103 q103; cases e103; replace hx103_0 := (HB.out.cell (World.block_lt_of_cell? w _ hx103_0)).trans hx103_0; replace hx103_1 := (HB.out.cell (World.block_lt_of_cell? w _ hx103_1)).trans hx103_1; replace hx103_2 := (HB.out.cell (World.block_lt_of_cell? w _ hx103_2)).trans hx103_2; replace hx103_3 := (HB.out.cell (World.block_lt_of_cell? w _ hx103_3)).trans hx103_3; replace hx103_4 := (HB.out.cell (World.block_lt_of_cell? w _ hx103_4)).trans hx103_4; replace hx103_5 := (HB.out.cell (World.block_lt_of_cell? w _ hx103_5)).trans hx103_5; replace hx103_6 := (HB.out.cell (World.block_lt_of_cell? w _ hx103_6)).trans hx103_6; replace hx103_7 := (HB.out.cell (World.block_lt_of_cell? w _ hx103_7)).trans hx103_7; replace hx103_8 := (HB.out.cell (World.block_lt_of_cell? w _ hx103_8)).trans hx103_8; replace hx103_9 := (HB.out.cell (World.block_lt_of_cell? w _ hx103_9)).trans hx103_9; replace hx103_10 := (HB.out.cell (World.block_lt_of_cell? w _ hx103_10)).trans hx103_10; replace hx103_11 := (HB.out.cell (World.block_lt_of_cell? w _ hx103_11)).trans hx103_11; replace hx103_12 := (HB.out.cell (World.block_lt_of_cell? w _ hx103_12)).trans hx103_12; replace hx103_13 := (HB.out.cell (World.block_lt_of_cell? w _ hx103_13)).trans hx103_13; replace hx103_14 := (HB.out.cell (World.block_lt_of_cell? w _ hx103_14)).trans hx103_14; replace hx103_15 := (HB.out.cell (World.block_lt_of_cell? w _ hx103_15)).trans hx103_15; replace hx103_16 := (HB.out.cell (World.block_lt_of_cell? w _ hx103_16)).trans hx103_16; replace hx103_17 := (HB.out.cell (World.block_lt_of_cell? w _ hx103_17)).trans hx103_17; replace hx103_18 := (HB.out.cell (World.block_lt_of_cell? w _ hx103_18)).trans hx103_18; replace hx103_19 := (HB.out.cell (World.block_lt_of_cell? w _ hx103_19)).trans hx103_19; replace hx103_20 := (HB.out.cell (World.block_lt_of_cell? w _ hx103_20)).trans hx103_20; replace hx103_21 := (HB.out.cell (World.block_lt_of_cell? w _ hx103_21)).trans hx103_21; replace hx103_22 := (HB.out.cell (World.block_lt_of_cell? w _ hx103_22)).trans hx103_22; replace hx103_23 := (HB.out.cell (World.block_lt_of_cell? w _ hx103_23)).trans hx103_23; replace hx103_24 := (HB.out.cell (World.block_lt_of_cell? w _ hx103_24)).trans hx103_24; have HR103_21 := Aside0.mk hi103_21; have HC103_21 := Aside0.mk hl103_21; clear hi103_21 hl103_21; have HR103_24 := Aside0.mk hi103_24; have HC103_24 := Aside0.mk hl103_24; clear hi103_24 hl103_24; replace p103 := eq_true p103; replace q103 := eq_true q103) | ((with_reducible refine gate_dst (N := 9) rfl ?_); refine box_event ?hg (N := 9) ?hd (cs := #[.int .i64 0, .int .i64 0, .int .i64 0, .string ⟨#[]⟩, .int .i64 0, .int .i64 0, .string ⟨#[]⟩, .int .i64 0, .int .i64 0, .string ⟨#[]⟩, .int .i64 0, .string ⟨#[]⟩, .int .i64 0, .int .i64 0, .int .i64 0, .int .i64 0, .int .i64 0, .int .i64 0, .int .i64 0, .string ⟨#[]⟩, .string ⟨#[]⟩, .slice none 0 0, .int .i64 0, .string ⟨#[]⟩, .slice none 0 0]) (t := 58) ?hr ?_; (case hd => rfl); (case hg => rfl); (case hr => first | (go_simp; done) | (go_simp; rfl)); intro gb104 hg w24 hbox hb; have aH := Aside0.mk (blk_below (g := aE) Z19 hb); have aK := Aside0.mk (below_step Z22 hb); have aL := Aside0.mk (hbox); have cQ := Aside0.mk ((by rw [hg]; exact (below_size Z22) : w.heap.size ≤ gb104)); have fe := Aside0.mk ((by rw [hg]; exact (below_size Z22) : w.heap.size ≤ gb104)); have ff := Aside0.mk ((by rw [hg]; exact Nat.ne_of_lt (blk_lt (g := aE) Z19) : aE ≠ gb104)); have fg := Aside0.mk ((by rw [hg]; exact Nat.ne_of_gt (blk_lt (g := aE) Z19) : gb104 ≠ aE)); replace ac := aH; replace HB := aK; have BK104 := aL; have GW104 := cQ; have GE104 := fe; have NB102_104 := ff; have NB104_102 := fg; clear aH aK aL cQ fe ff fg; clear hb hbox hg; have hnb25 := NB104_102.out; have hnc25 := NB102_104.out; have hcz26 := cells_25 BK104.out) | ((with_reducible refine Pre.gate_store 58 rfl ?_); refine Pre.store_abs (cur := #[.int .i64 0, .int .i64 0, .int .i64 0, .string ⟨#[]⟩, .int .i64 0, .int .i64 0, .string ⟨#[]⟩, .int .i64 0, .int .i64 0, .string ⟨#[]⟩, .int .i64 0, .string ⟨#[]⟩, .int .i64 0, .int .i64 0, .int .i64 0, .int .i64 0, .int .i64 0, .int .i64 0, .int .i64 0, .string ⟨#[]⟩, .string ⟨#[]⟩, .slice none 0 0, .int .i64 0, .string ⟨#[]⟩, .slice none 0 0]) (e := 58) rfl rfl rfl Z13 Z13 (by (with_reducible repeat (first | refine blk_drewN ?_ _ | refine blk_drew ?_ | refine blk_alloc ?_ _)); exact BK104.out) Z5 Z13 Z13 ?_; intro w27 hbS_ sS_; have aH : Aside0 (w27.heap[aE]? = some (.cells #[.int .i64 ((rd_T58 l0 x17_1).f0), .int .i64 ((rd_T58 l0 x17_1).f1), .int .i64 ((rd_T58 l0 x17_1).f2), .string ((rd_T58 l0 x17_1).f3), .int .i64 ((rd_T58 l0 x17_1).f4), .int .i64 ((rd_T58 l0 x17_1).f5), .string ((rd_T58 l0 x17_1).f6), .int .i64 ((rd_T58 l0 x17_1).f7), .int .i64 ((rd_T58 l0 x17_1).f8), .string ((rd_T58 l0 x17_1).f9), .int .i64 ((rd_T58 l0 x17_1).f10), .string ((rd_T58 l0 x17_1).f11), .int .i64 ((rd_T58 l0 x17_1).f12), .int .i64 ((rd_T58 l0 x17_1).f13), .int .i64 ((rd_T58 l0 x17_1).f14), .int .i64 ((rd_T58 l0 x17_1).f15), .int .i64 ((rd_T58 l0 x17_1).f16), .int .i64 ((rd_T58 l0 x17_1).f17), .int .i64 ((rd_T58 l0 x17_1).f18), .string ((rd_T58 l0 x17_1).f19), .string ((rd_T58 l0 x17_1).f20), .slice cM ((rd_T58 l0 x17_1).f21).length cN, .int .i64 ((rd_T58 l0 x17_1).f22), .string ((rd_T58 l0 x17_1).f23), .slice cO ((rd_T58 l0 x17_1).f24).length cP] 58 (0, 0))) := ⟨sS_.blk Z19 NB102_104.out⟩; have aK : Aside0 (w27.heap[gb104]? = some (.cells #[.int .i64 ((rd_T58 l1 x17_1).f0), .int .i64 ((rd_T58 l1 x17_1).f1), .int .i64 ((rd_T58 l1 x17_1).f2), .string ((rd_T58 l1 x17_1).f3), .int .i64 ((rd_T58 l1 x17_1).f4), .int .i64 ((rd_T58 l1 x17_1).f5), .string ((rd_T58 l1 x17_1).f6), .int .i64 ((rd_T58 l1 x17_1).f7), .int .i64 ((rd_T58 l1 x17_1).f8), .string ((rd_T58 l1 x17_1).f9), .int .i64 ((rd_T58 l1 x17_1).f10), .string ((rd_T58 l1 x17_1).f11), .int .i64 ((rd_T58 l1 x17_1).f12), .int .i64 ((rd_T58 l1 x17_1).f13), .int .i64 ((rd_T58 l1 x17_1).f14), .int .i64 ((rd_T58 l1 x17_1).f15), .int .i64 ((rd_T58 l1 x17_1).f16), .int .i64 ((rd_T58 l1 x17_1).f17), .int .i64 ((rd_T58 l1 x17_1).f18), .string ((rd_T58 l1 x17_1).f19), .string ((rd_T58 l1 x17_1).f20), .slice A103_21 ((rd_T58 l1 x17_1).f21).length c103_21, .int .i64 ((rd_T58 l1 x17_1).f22), .string ((rd_T58 l1 x17_1).f23), .slice A103_24 ((rd_T58 l1 x17_1).f24).length c103_24] 58 (0, 0))) := ⟨hbS_⟩; have aL : Aside0 (Below w.heap.size w w27) := ⟨sS_.below (by repeat (first | (with_reducible first | exact HB.out | apply below_alloc | apply pw_below_drewN | apply below_drew1 | refine below_set ?_ dd.out | refine below_set ?_ GE104.out) | exact HB.out)) GE104.out⟩; clear hbS_ sS_; replace ac := aH; replace BK104 := aK; replace HB := aL; clear aH aK aL; have hcz28 := cells_25 ac.out; have hcz29 := cells_25 BK104.out) | (go_at_call 50; (with_reducible refine (msg_Same.calls k1 ((rd_T58 l0 x17_1).f0) ((rd_T58 l0 x17_1).f1) ((rd_T58 l0 x17_1).f2) ((rd_T58 l0 x17_1).f3) ((rd_T58 l0 x17_1).f4) ((rd_T58 l0 x17_1).f5) ((rd_T58 l0 x17_1).f6) ((rd_T58 l0 x17_1).f7) ((rd_T58 l0 x17_1).f8) ((rd_T58 l0 x17_1).f9) ((rd_T58 l0 x17_1).f10) ((rd_T58 l0 x17_1).f11) ((rd_T58 l0 x17_1).f12) ((rd_T58 l0 x17_1).f13) ((rd_T58 l0 x17_1).f14) ((rd_T58 l0 x17_1).f15) ((rd_T58 l0 x17_1).f16) ((rd_T58 l0 x17_1).f17) ((rd_T58 l0 x17_1).f18) ((rd_T58 l0 x17_1).f19) ((rd_T58 l0 x17_1).f20) _ _ ((rd_T58 l0 x17_1).f21) ((rd_T58 l0 x17_1).f22) ((rd_T58 l0 x17_1).f23) _ _ ((rd_T58 l0 x17_1).f24) ((rd_T58 l1 x17_1).f0) ((rd_T58 l1 x17_1).f1) ((rd_T58 l1 x17_1).f2) ((rd_T58 l1 x17_1).f3) ((rd_T58 l1 x17_1).f4) ((rd_T58 l1 x17_1).f5) ((rd_T58 l1 x17_1).f6) ((rd_T58 l1 x17_1).f7) ((rd_T58 l1 x17_1).f8) ((rd_T58 l1 x17_1).f9) ((rd_T58 l1 x17_1).f10) ((rd_T58 l1 x17_1).f11) ((rd_T58 l1 x17_1).f12) ((rd_T58 l1 x17_1).f13) ((rd_T58 l1 x17_1).f14) ((rd_T58 l1 x17_1).f15) ((rd_T58 l1 x17_1).f16) ((rd_T58 l1 x17_1).f17) ((rd_T58 l1 x17_1).f18) ((rd_T58 l1 x17_1).f19) ((rd_T58 l1 x17_1).f20) _ _ ((rd_T58 l1 x17_1).f21) ((rd_T58 l1 x17_1).f22) ((rd_T58 l1 x17_1).f23) _ _ ((rd_T58 l1 x17_1).f24) false _ ?side1 ?side2 ?side3 ?side4 ?side5 ?side6 ?side7 ?side8 A9.out).mono ?_); (case side1 => exact Z24); (case side2 => exact cR.out); (case side3 => exact Z23); (case side4 => exact cS.out); (case side5 => exact (by repeat (first | exact (Kd.C_below HR103_21.out HB.out) | (with_reducible refine Kd.C_alloc ?_ _) | (with_reducible refine Kd.C_drewN ?_ _) | (with_reducible refine Kd.C_drew ?_)))); (case side6 => exact HC103_21.out); (case side7 => exact (by repeat (first | exact (Kd.C_below HR103_24.out HB.out) | (with_reducible refine Kd.C_alloc ?_ _) | (with_reducible refine Kd.C_drewN ?_ _) | (with_reducible refine Kd.C_drew ?_)))); (case side8 => exact HC103_24.out); rintro e w30 ⟨rfl, hb⟩; have aH := Aside0.mk (blk_below (g := aE) Z19 hb); have aK := Aside0.mk (blk_below (g := gb104) (by (with_reducible repeat (first | refine blk_drewN ?_ _ | refine blk_drew ?_ | refine blk_alloc ?_ _)); exact BK104.out) hb); have aL := Aside0.mk (below_step (by repeat (first | (with_reducible first | exact HB.out | apply below_alloc | apply pw_below_drewN | apply below_drew1 | refine below_set ?_ dd.out | refine below_set ?_ GE104.out) | exact HB.out)) hb); replace ac := aH; replace BK104 := aK; replace HB := aL; clear aH aK aL; (try clear hb); (try clear hb2); (try clear hk); (try clear hi)))
         go_ret
         exact ⟨Z8, by repeat (first | (with_reducible first | exact HB.out | apply below_alloc | apply pw_below_drewN | apply below_drew1 | refine below_set ?_ dd.out | refine below_set ?_ GE104.out) | exact HB.out)⟩
       ·rw [if_neg c8] at H
        exact absurd H (by simp)
      ·rw [if_neg c7] at H
       exact absurd H (by simp)
     ·rw [if_neg c6] at H
      exact absurd H (by simp)
    ·rw [if_neg c5] at H
     have ec : decide (x17_1 < (l0.length : Int)) = false := decide_eq_false c5
     clear c5
     obtain rfl := Option.some.inj H
     go_wp2_with (first | ((with_reducible refine Pre.gate_load 58 rfl ?_); (try (refine gate_guard Z13 ?_; dsimp only)); refine Pre.load_event rfl rfl rfl Z13 (by first | ((with_reducible repeat (first | refine blk_drewN ?_ _ | refine blk_drew ?_ | refine blk_alloc ?_ _)); (with_reducible first | exact ac.out | exact BK104.out)) | (apply Pre.heap_norm; ((with_reducible repeat (first | refine blk_drewN ?_ _ | refine blk_drew ?_ | refine blk_alloc ?_ _ | apply Pre.blk_set_)); (with_reducible first | exact ac.out | exact BK104.out)); (first | (simp only [List.setIfInBounds_toArray, List.set_cons_zero, List.set_cons_succ]; done) | (simp only [List.setIfInBounds_toArray, List.set_cons_zero, List.set_cons_succ]; rfl) | rfl))) Try.underlying58 rfl Z5 ?_) | ((with_reducible refine Pre.gate_load 58 rfl ?_); (try (refine gate_guard Z13 ?_; dsimp only)); refine Pre.load_event_a rfl rfl rfl Z13 Pre.range25 Try.underlying58 rfl Z5 ?_))
     go_ret
     exact ⟨Z8, Z0⟩
 ·rw [if_neg c4] at H
  have cL : ((l0.length : Int) == (l1.length : Int)) = false := beq_eq_false_iff_ne.mpr c4
  have gK : ((l0.length : Int) != (l1.length : Int)) = true := bne_iff_ne.mpr c4
  have c4b2 : (l0.length == l1.length) = false := by first | simpa using c4 | (simp at c4 ⊢; omega)
  obtain rfl := Option.some.inj H
  go_enter Try.func80, Try.ntmps80
  go_wp2_with (first | ((with_reducible refine Pre.gate_load 58 rfl ?_); (try (refine gate_guard Z13 ?_; dsimp only)); refine Pre.load_event rfl rfl rfl Z13 (by first | ((with_reducible repeat (first | refine blk_drewN ?_ _ | refine blk_drew ?_ | refine blk_alloc ?_ _)); (with_reducible first | exact ac.out | exact BK104.out)) | (apply Pre.heap_norm; ((with_reducible repeat (first | refine blk_drewN ?_ _ | refine blk_drew ?_ | refine blk_alloc ?_ _ | apply Pre.blk_set_)); (with_reducible first | exact ac.out | exact BK104.out)); (first | (simp only [List.setIfInBounds_toArray, List.set_cons_zero, List.set_cons_succ]; done) | (simp only [List.setIfInBounds_toArray, List.set_cons_zero, List.set_cons_succ]; rfl) | rfl))) Try.underlying58 rfl Z5 ?_) | ((with_reducible refine Pre.gate_load 58 rfl ?_); (try (refine gate_guard Z13 ?_; dsimp only)); refine Pre.load_event_a rfl rfl rfl Z13 Pre.range25 Try.underlying58 rfl Z5 ?_))
  go_ret
  exact ⟨Z8, Z0⟩

end Go.Proofs.Ytelcciekdoccfaa.PM
