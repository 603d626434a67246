-- Written by mp.py, a program of this work (wip/tools), out of the translation; Lean checks it.
import Derived.Test.YtccjakjjaemmkaaPAExZ
import Derived.Test.YtccjakjjaemmkaaPAExrerr
import Derived.Test.YtccjakjjaemmkaaPAExrrep
import Derived.Test.YtccjakjjaemmkaaPAExrreq
namespace Go.Proofs.Ytccjakjjaemmkaa.PAE
open Go.RowKit Go.Proofs.YtccjakjjaemmkaaW.PrintWords Go.Proofs.YtccjakjjaemmkaaW.PrintLast Go.Proofs.YtccjakjjaemmkaaW.PrintMore
attribute [local go_sem] max2_int min2_int max_two min_two max_three min_three max_four min_four   -- for this text's walks alone
set_option linter.unusedVariables false
set_option linter.unusedSimpArgs false

/-! ### aodv_get: function 69 -/
def aodv_get.f (k : Nat) (a0 : ByteArray) : Option (Int × Int × Int × ByteArray × Int × Int × ByteArray × Int × Int × ByteArray × Int × ByteArray × Int × Int × Int × Int × Int × Int × Int × ByteArray × ByteArray × (List (S46)) × Int × ByteArray × (List (S48)) × Int × Int) := if 0 < (a0.size : Int) then (if (bt a0 0) = 1 then (none) else (if (bt a0 0) = 3 then (none) else ((rrep_Get.f k a0).bind fun aX => (some (aX.1, aX.2.1, aX.2.2.1, aX.2.2.2.1, aX.2.2.2.2.1, aX.2.2.2.2.2.1, aX.2.2.2.2.2.2.1, aX.2.2.2.2.2.2.2.1, aX.2.2.2.2.2.2.2.2.1, aX.2.2.2.2.2.2.2.2.2.1, aX.2.2.2.2.2.2.2.2.2.2.1, aX.2.2.2.2.2.2.2.2.2.2.2.1, aX.2.2.2.2.2.2.2.2.2.2.2.2.1, aX.2.2.2.2.2.2.2.2.2.2.2.2.2.1, aX.2.2.2.2.2.2.2.2.2.2.2.2.2.2.1, aX.2.2.2.2.2.2.2.2.2.2.2.2.2.2.2.1, aX.2.2.2.2.2.2.2.2.2.2.2.2.2.2.2.2.1, aX.2.2.2.2.2.2.2.2.2.2.2.2.2.2.2.2.2.1, aX.2.2.2.2.2.2.2.2.2.2.2.2.2.2.2.2.2.2.1, aX.2.2.2.2.2.2.2.2.2.2.2.2.2.2.2.2.2.2.2.1, aX.2.2.2.2.2.2.2.2.2.2.2.2.2.2.2.2.2.2.2.2.1, aX.2.2.2.2.2.2.2.2.2.2.2.2.2.2.2.2.2.2.2.2.2.1, aX.2.2.2.2.2.2.2.2.2.2.2.2.2.2.2.2.2.2.2.2.2.2.1, aX.2.2.2.2.2.2.2.2.2.2.2.2.2.2.2.2.2.2.2.2.2.2.2.1, aX.2.2.2.2.2.2.2.2.2.2.2.2.2.2.2.2.2.2.2.2.2.2.2.2.1, aX.2.2.2.2.2.2.2.2.2.2.2.2.2.2.2.2.2.2.2.2.2.2.2.2.2.1, aX.2.2.2.2.2.2.2.2.2.2.2.2.2.2.2.2.2.2.2.2.2.2.2.2.2.2))))) else (none)
theorem aodv_get.mono : ∀ a0 k, LeO (aodv_get.f k a0) (aodv_get.f (k + 1) a0) := by
 intro a0 k
 unfold aodv_get.f
 have m0 := rrep_Get.mono
 exact Sq.mo
set_option maxHeartbeats 8000000 in
set_option maxRecDepth 100000 in
theorem aodv_get.calls (k : Nat) (a0 : ByteArray) (r1 : Int) (r2 : Int) (r3 : Int) (r4 : ByteArray) (r5 : Int) (r6 : Int) (r7 : ByteArray) (r8 : Int) (r9 : Int) (r10 : ByteArray) (r11 : Int) (r12 : ByteArray) (r13 : Int) (r14 : Int) (r15 : Int) (r16 : Int) (r17 : Int) (r18 : Int) (r19 : Int) (r20 : ByteArray) (r21 : ByteArray) (r22 : List (S46)) (r23 : Int) (r24 : ByteArray) (r25 : List (S48)) (r26 : Int) (r27 : Int) (w : World) (h : aodv_get.f k a0 = some (r1, r2, r3, r4, r5, r6, r7, r8, r9, r10, r11, r12, r13, r14, r15, r16, r17, r18, r19, r20, r21, r22, r23, r24, r25, r26, r27)) :
  Calls Try.prog 69 #[.string a0] w fun e w' => ∃ v21_ v24_ : Value, e = .returned (.tuple #[.agg #[.int .i64 r1, .int .i64 r2, .int .i64 r3, .string r4, .int .i64 r5, .int .i64 r6, .string r7, .int .i64 r8, .int .i64 r9, .string r10, .int .i64 r11, .string r12, .int .i64 r13, .int .i64 r14, .int .i64 r15, .int .i64 r16, .int .i64 r17, .int .i64 r18, .int .i64 r19, .string r20, .string r21, v21_, .int .i64 r23, .string r24, v24_], .int .i64 r26, .int .i64 r27]) ∧ Kd.R k46 46 w' w.heap.size (fun _ => True) v21_ r22 ∧ Kd.R k48 48 w' w.heap.size (fun _ => True) v24_ r25 ∧ Below w.heap.size w w' := by
 have dM := Try.underlying25
 have HB := Aside0.mk (Below.refl w.heap.size w)
 have H : (if 0 < (a0.size : Int) then (if (bt a0 0) = 1 then (none) else (if (bt a0 0) = 3 then (none) else ((rrep_Get.f k a0).bind fun aX => (some (aX.1, aX.2.1, aX.2.2.1, aX.2.2.2.1, aX.2.2.2.2.1, aX.2.2.2.2.2.1, aX.2.2.2.2.2.2.1, aX.2.2.2.2.2.2.2.1, aX.2.2.2.2.2.2.2.2.1, aX.2.2.2.2.2.2.2.2.2.1, aX.2.2.2.2.2.2.2.2.2.2.1, aX.2.2.2.2.2.2.2.2.2.2.2.1, aX.2.2.2.2.2.2.2.2.2.2.2.2.1, aX.2.2.2.2.2.2.2.2.2.2.2.2.2.1, aX.2.2.2.2.2.2.2.2.2.2.2.2.2.2.1, aX.2.2.2.2.2.2.2.2.2.2.2.2.2.2.2.1, aX.2.2.2.2.2.2.2.2.2.2.2.2.2.2.2.2.1, aX.2.2.2.2.2.2.2.2.2.2.2.2.2.2.2.2.2.1, aX.2.2.2.2.2.2.2.2.2.2.2.2.2.2.2.2.2.2.1, aX.2.2.2.2.2.2.2.2.2.2.2.2.2.2.2.2.2.2.2.1, aX.2.2.2.2.2.2.2.2.2.2.2.2.2.2.2.2.2.2.2.2.1, aX.2.2.2.2.2.2.2.2.2.2.2.2.2.2.2.2.2.2.2.2.2.1, aX.2.2.2.2.2.2.2.2.2.2.2.2.2.2.2.2.2.2.2.2.2.2.1, aX.2.2.2.2.2.2.2.2.2.2.2.2.2.2.2.2.2.2.2.2.2.2.2.1, aX.2.2.2.2.2.2.2.2.2.2.2.2.2.2.2.2.2.2.2.2.2.2.2.2.1, aX.2.2.2.2.2.2.2.2.2.2.2.2.2.2.2.2.2.2.2.2.2.2.2.2.2.1, aX.2.2.2.2.2.2.2.2.2.2.2.2.2.2.2.2.2.2.2.2.2.2.2.2.2.2))))) else (none)) = some (r1, r2, r3, r4, r5, r6, r7, r8, r9, r10, r11, r12, r13, r14, r15, r16, r17, r18, r19, r20, r21, r22, r23, r24, r25, r26, r27) := h
 clear h
 by_cases c2 : 0 < (a0.size : Int)
 ·rw [if_pos c2] at H
  have fR : decide (0 < (a0.size : Int)) = true := decide_eq_true c2
  have iX : decide (0 < a0.size) = true := decide_eq_true Z29
  clear c2
  by_cases c4 : (bt a0 0) = 1
  ·rw [if_pos c4] at H
   exact absurd H Z35
  ·rw [if_neg c4] at H
   have cf : ((bt a0 0) == 1) = false := beq_eq_false_iff_ne.mpr c4
   have fd : ((bt a0 0) != 1) = true := bne_iff_ne.mpr c4
   by_cases c5 : (bt a0 0) = 3
   ·rw [if_pos c5] at H
    exact absurd H Z35
   ·rw [if_neg c5] at H
    have dx : ((bt a0 0) == 3) = false := beq_eq_false_iff_ne.mpr c5
    have fJ : ((bt a0 0) != 3) = true := bne_iff_ne.mpr c5
    replace H := Option.bind_eq_some_iff.mp H
    obtain ⟨⟨aU, aY, bg, bH, aW, bX, aH, aQ, ba, cP, dX, dg, fi, dD, dU, eT, fj, fk, fl, fm, eU, gu, fn, eV, gv, gw, jl⟩, hD, H⟩ := H
    replace H : (some (aU, aY, bg, bH, aW, bX, aH, aQ, ba, cP, dX, dg, fi, dD, dU, eT, fj, fk, fl, fm, eU, gu, fn, eV, gv, gw, jl)) = some (r1, r2, r3, r4, r5, r6, r7, r8, r9, r10, r11, r12, r13, r14, r15, r16, r17, r18, r19, r20, r21, r22, r23, r24, r25, r26, r27) := H
    have A6 := Aside0.mk hD
    clear hD
    simp only [Option.some.injEq, Prod.mk.injEq] at H
    obtain ⟨rfl, rfl, rfl, rfl, rfl, rfl, rfl, rfl, rfl, rfl, rfl, rfl, rfl, rfl, rfl, rfl, rfl, rfl, rfl, rfl, rfl, rfl, rfl, rfl, rfl, rfl, rfl⟩ := H
    go_enter Try.func69, Try.ntmps69
    go_wp2_with (first | ((with_reducible refine gate_dst (N := 2) rfl ?_); refine Sq.box 2 #[.int .i64 0, .int .i64 0, .int .i64 0, .string ⟨#[]⟩, .int .i64 0, .int .i64 0, .string ⟨#[]⟩, .int .i64 0, .int .i64 0, .string ⟨#[]⟩, .int .i64 0, .string ⟨#[]⟩, .int .i64 0, .int .i64 0, .int .i64 0, .int .i64 0, .int .i64 0, .int .i64 0, .int .i64 0, .string ⟨#[]⟩, .string ⟨#[]⟩, .slice none 0 0, .int .i64 0, .string ⟨#[]⟩, .slice none 0 0] 25 ?_; intro aE hg w7 hbox hb; have al := Aside0.mk (hbox); have cd := Aside0.mk (Sq.ge hg Z2); have bV := Aside0.mk (Sq.ge hg Z2); replace HB := Aside0.mk (below_step Z2 hb); clear hb hbox hg; have p3 : 0 ≤ (0 : Int) := Z29; have q3 : 0 < a0.size := (by have : (0 : Int) < (a0.size : Int) := of_decide_eq_true Z8; omega); have hx3 : ∀ h : 0 < a0.size, ((a0[0]'h).toNat : Int) = bt a0 0 := bt_at a0 0; clear p3; have qi3 : (0 < (a0.size : Int)) = True := eq_true (of_decide_eq_true Z8); replace q3 := eq_true q3) | ((with_reducible refine gate_callee (f := 38) rfl ?_); refine goesL_ (some 22) rfl rfl Try.func38 Z11 rfl #[.string a0] rfl Z4 ?_; (with_reducible refine (rrep_Get.calls k a0 aU aY bg bH aW bX aH aQ ba cP dX dg fi dD dU eT fj fk fl fm eU gu fn eV gv gw jl _ A6.out).mono ?_); rintro e w8 ⟨nH, nI, rfl, ho0, ho1, hb⟩; refine ⟨_, rfl, ?_⟩; have fM := Aside0.mk (Kd.R_lower ho0 (below_size Z0)); have fN := Aside0.mk (Kd.R_lower ho1 (below_size Z0)); replace al := Aside0.mk (blk_below (g := aE) Z3 hb); replace HB := Aside0.mk (below_step Z0 hb); clear hb ho0 ho1; have ji := cells_25 al.out; obtain ⟨mV, mW, eo10⟩ := Kd.R_slice fM.out; subst eo10; obtain ⟨gX, gY, eo11⟩ := Kd.R_slice fN.out; subst eo11) | ((with_reducible refine Pre.gate_store 25 rfl ?_); refine Pre.store_abs (cur := #[.int .i64 0, .int .i64 0, .int .i64 0, .string ⟨#[]⟩, .int .i64 0, .int .i64 0, .string ⟨#[]⟩, .int .i64 0, .int .i64 0, .string ⟨#[]⟩, .int .i64 0, .string ⟨#[]⟩, .int .i64 0, .int .i64 0, .int .i64 0, .int .i64 0, .int .i64 0, .int .i64 0, .int .i64 0, .string ⟨#[]⟩, .string ⟨#[]⟩, .slice none 0 0, .int .i64 0, .string ⟨#[]⟩, .slice none 0 0]) (e := 25) rfl rfl rfl Z14 Z14 Z3 Z11 Z14 Z14 ?_; intro ky hbS_ sS_; have bi : Aside0 (Kd.R k46 46 ky w.heap.size (fun _ => True) (.slice mV gu.length mW) gu) := ⟨Kd.R_mono (Pre.R_sets sS_ (Kd.R_types fM.out al.out Z21) (fun _ hk => hk.2)) (fun _ hk => trivial)⟩; have bp : Aside0 (Kd.R k48 48 ky w.heap.size (fun _ => True) (.slice gX gv.length gY) gv) := ⟨Kd.R_mono (Pre.R_sets sS_ (Kd.R_types fN.out al.out Z21) (fun _ hk => hk.2)) (fun _ hk => trivial)⟩; have bT : Aside0 (ky.heap[aE]? = some (.cells #[.int .i64 aU, .int .i64 aY, .int .i64 bg, .string bH, .int .i64 aW, .int .i64 bX, .string aH, .int .i64 aQ, .int .i64 ba, .string cP, .int .i64 dX, .string dg, .int .i64 fi, .int .i64 dD, .int .i64 dU, .int .i64 eT, .int .i64 fj, .int .i64 fk, .int .i64 fl, .string fm, .string eU, .slice mV gu.length mW, .int .i64 fn, .string eV, .slice gX gv.length gY] 25 (0, 0))) := ⟨hbS_⟩; have kx : Aside0 (Below w.heap.size w ky) := ⟨sS_.below Z0 bV.out⟩; clear hbS_ sS_; replace fM := bi; replace fN := bp; replace al := bT; replace HB := kx; clear bi bp bT kx))
    refine bodyPost_ret (results_ctt rfl _ _ aE 25 _ (0, 0) _ rfl Z3 Try.underlying25 rfl Z11) rfl ?_
    exact ⟨_, _, Z6, by (with_reducible repeat (first | apply Kd.R_alloc | apply Kd.R_drewN | apply Kd.R_drew)); exact fM.out, by (with_reducible repeat (first | apply Kd.R_alloc | apply Kd.R_drewN | apply Kd.R_drew)); exact fN.out, Z0⟩
 ·rw [if_neg c2] at H
  exact absurd H Z35

/-! ### aodv_Parse: function 41 -/
def aodv_Parse.j0 : Nat → ByteArray → Bool → Option ((List (S25)) × Int × Int)
 | 0, _, _ => none
 | k + 1, x0, nT => if nT = true then (some (([] : List (S25)), 0, 4)) else ((aodv_get.f k x0).bind fun bh => (if bh.2.2.2.2.2.2.2.2.2.2.2.2.2.2.2.2.2.2.2.2.2.2.2.2.2.2 = 0 then (some ((([(⟨bh.1, bh.2.1, bh.2.2.1, bh.2.2.2.1, bh.2.2.2.2.1, bh.2.2.2.2.2.1, bh.2.2.2.2.2.2.1, bh.2.2.2.2.2.2.2.1, bh.2.2.2.2.2.2.2.2.1, bh.2.2.2.2.2.2.2.2.2.1, bh.2.2.2.2.2.2.2.2.2.2.1, bh.2.2.2.2.2.2.2.2.2.2.2.1, bh.2.2.2.2.2.2.2.2.2.2.2.2.1, bh.2.2.2.2.2.2.2.2.2.2.2.2.2.1, bh.2.2.2.2.2.2.2.2.2.2.2.2.2.2.1, bh.2.2.2.2.2.2.2.2.2.2.2.2.2.2.2.1, bh.2.2.2.2.2.2.2.2.2.2.2.2.2.2.2.2.1, bh.2.2.2.2.2.2.2.2.2.2.2.2.2.2.2.2.2.1, bh.2.2.2.2.2.2.2.2.2.2.2.2.2.2.2.2.2.2.1, bh.2.2.2.2.2.2.2.2.2.2.2.2.2.2.2.2.2.2.2.1, bh.2.2.2.2.2.2.2.2.2.2.2.2.2.2.2.2.2.2.2.2.1, bh.2.2.2.2.2.2.2.2.2.2.2.2.2.2.2.2.2.2.2.2.2.1, bh.2.2.2.2.2.2.2.2.2.2.2.2.2.2.2.2.2.2.2.2.2.2.1, bh.2.2.2.2.2.2.2.2.2.2.2.2.2.2.2.2.2.2.2.2.2.2.2.1, bh.2.2.2.2.2.2.2.2.2.2.2.2.2.2.2.2.2.2.2.2.2.2.2.2.1⟩ : S25)] : List (S25))), 0, 0)) else (none)))
def aodv_Parse.f (k : Nat) (a0 : ByteArray) : Option ((List (S25)) × Int × Int) := if (a0.size : Int) > 65535 then (none) else (if (a0.size : Int) = 0 then (none) else (if 0 < (a0.size : Int) then (if (bt a0 0) < 1 then (aodv_Parse.j0 k a0 true) else (aodv_Parse.j0 k a0 (decide ((bt a0 0) > 4)))) else (none)))
theorem aodv_Parse.mono_l : ∀ k, (∀ y0 y1, LeO (aodv_Parse.j0 k y0 y1) (aodv_Parse.j0 (k + 1) y0 y1))
 | 0 => Sq.mz
 | k + 1 => by
  have ih0 := aodv_Parse.mono_l k
  ·intros
   unfold aodv_Parse.j0
   have m0 := aodv_get.mono
   exact Sq.mo
theorem aodv_Parse.mono : ∀ a0 k, LeO (aodv_Parse.f k a0) (aodv_Parse.f (k + 1) a0) := by
 intro a0 k
 have ih0 := aodv_Parse.mono_l k
 unfold aodv_Parse.f
 have m0 := aodv_get.mono
 exact Sq.mo

set_option maxHeartbeats 8000000 in
set_option maxRecDepth 100000 in
theorem aodv_Parse.calls (k : Nat) (a0 : ByteArray) (r1 : List (S25)) (r2 : Int) (r3 : Int) (w : World) (h : aodv_Parse.f k a0 = some (r1, r2, r3)) :
  Calls Try.prog 41 #[.string a0] w fun e w' => ∃ v0_ : Value, e = .returned (.tuple #[v0_, .int .i64 r2, .int .i64 r3]) ∧ Kd.N k25 25 w' w.heap.size (fun k_ => (w.heap.size ≤ k_)) v0_ r1 ∧ Below w.heap.size w w' := by
 have dM := Try.underlying25
 have HB := Aside0.mk (Below.refl w.heap.size w)
 have H : (if (a0.size : Int) > 65535 then (none) else (if (a0.size : Int) = 0 then (none) else (if 0 < (a0.size : Int) then (if (bt a0 0) < 1 then (aodv_Parse.j0 k a0 true) else (aodv_Parse.j0 k a0 (decide ((bt a0 0) > 4)))) else (none)))) = some (r1, r2, r3) := h
 clear h
 by_cases c2 : (a0.size : Int) > 65535
 ·rw [if_pos c2] at H
  exact absurd H Z35
 ·rw [if_neg c2] at H
  have fR : decide (65535 < (a0.size : Int)) = false := decide_eq_false c2
  have iX : decide (65535 < a0.size) = false := decide_eq_false Z29
  clear c2
  by_cases c3 : (a0.size : Int) = 0
  ·rw [if_pos c3] at H
   exact absurd H Z35
  ·rw [if_neg c3] at H
   have fh : ((a0.size : Int) == 0) = false := beq_eq_false_iff_ne.mpr c3
   have hL : ((a0.size : Int) != 0) = true := bne_iff_ne.mpr c3
   have nU := Aside0.mk H
   clear H
   go_enter Try.func41, Try.ntmps41
   go_upto_region 5 with (first | ((with_reducible refine Pre.gate_load 25 rfl ?_); (try (refine gate_guard Z14 ?_; dsimp only)); refine Pre.load_event rfl rfl rfl Z14 Z15 Try.underlying25 rfl Z11 ?_))
   go_cut [16] (fun hY wc => ∃ (kq : Nat) (iE : Bool), hY = .bool iE ∧ Aside0 (aodv_Parse.j0 kq a0 iE = some (r1, r2, r3)) ∧ Aside0 (kq ≤ k) ∧ Aside0 (Below w.heap.size w wc))
   case first =>
    have H := nU.out
    clear nU
    by_cases c5 : 0 < (a0.size : Int)
    ·rw [if_pos c5] at H
     have dx : decide (0 < (a0.size : Int)) = true := decide_eq_true c5
     have fJ : decide (0 < a0.size) = true := decide_eq_true Z29
     clear c5
     (first | rw [dx] | (simp only [i64_w, i32_w]; rw [dx]) | skip)
     by_cases c7 : (bt a0 0) < 1
     ·rw [if_pos c7] at H
      have dT : decide ((bt a0 0) < 1) = true := decide_eq_true c7
      clear c7
      have H' := Aside0.mk H
      clear H
      have p6 : 0 ≤ (0 : Int) := Z29
      have q6 : 0 < a0.size := (by have : (0 : Int) < (a0.size : Int) := of_decide_eq_true Z8; omega)
      have hx6 : ∀ h : 0 < a0.size, ((a0[0]'h).toNat : Int) = bt a0 0 := bt_at a0 0
      clear p6
      have qi6 : (0 < (a0.size : Int)) = True := eq_true (of_decide_eq_true Z8)
      replace q6 := eq_true q6
      go_wp2_with (first | ((with_reducible refine Pre.gate_load 25 rfl ?_); (try (refine gate_guard Z14 ?_; dsimp only)); refine Pre.load_event rfl rfl rfl Z14 Z15 Try.underlying25 rfl Z11 ?_))
      go_meet
      case rel => exact ⟨_, (true), Z10, H', ⟨Z20⟩, ⟨Z2⟩⟩
     ·rw [if_neg c7] at H
      have dT : decide ((bt a0 0) < 1) = false := decide_eq_false c7
      clear c7
      have H' := Aside0.mk H
      clear H
      have p6 : 0 ≤ (0 : Int) := Z29
      have q6 : 0 < a0.size := (by have : (0 : Int) < (a0.size : Int) := of_decide_eq_true Z8; omega)
      have hx6 : ∀ h : 0 < a0.size, ((a0[0]'h).toNat : Int) = bt a0 0 := bt_at a0 0
      clear p6
      have qi6 : (0 < (a0.size : Int)) = True := eq_true (of_decide_eq_true Z8)
      replace q6 := eq_true q6
      have p8 : 0 ≤ (0 : Int) := Z29
      have q8 : 0 < a0.size := (by have : (0 : Int) < (a0.size : Int) := of_decide_eq_true Z8; omega)
      have hx8 : ∀ h : 0 < a0.size, ((a0[0]'h).toNat : Int) = bt a0 0 := bt_at a0 0
      clear p8
      have qi8 : (0 < (a0.size : Int)) = True := eq_true (of_decide_eq_true Z8)
      replace q8 := eq_true q8
      go_wp2_with (first | ((with_reducible refine Pre.gate_load 25 rfl ?_); (try (refine gate_guard Z14 ?_; dsimp only)); refine Pre.load_event rfl rfl rfl Z14 Z15 Try.underlying25 rfl Z11 ?_))
      go_meet
      case rel => exact ⟨_, (decide ((bt a0 0) > 4)), Z10, H', ⟨Z20⟩, ⟨Z2⟩⟩
    ·rw [if_neg c5] at H
     exact absurd H Z35
   case rest =>
    clear nU
    try clear c2
    try clear fR
    try clear iX
    try clear c3
    try clear fh
    try clear hL
    try clear c4
    obtain ⟨kq, iE, rfl, HA, HJ3, HB⟩ := hcut
    cases kq with
    | zero => exact absurd HA.out (by simp [aodv_Parse.j0])
    | succ kj3 =>
     have H := HA.out
     clear HA
     simp only [aodv_Parse.j0] at H
     by_cases c9 : iE = true
     ·subst c9
      have H1 : (some (([] : List (S25)), 0, 4)) = some (r1, r2, r3) := by rw [if_pos rfl] at H; exact H
      clear H
      have H := H1
      clear H1
      simp only [Option.some.injEq, Prod.mk.injEq] at H
      obtain ⟨rfl, rfl, rfl⟩ := H
      go_wp2_with (first | ((with_reducible refine Pre.gate_load 25 rfl ?_); (try (refine gate_guard Z14 ?_; dsimp only)); refine Pre.load_event rfl rfl rfl Z14 Z15 Try.underlying25 rfl Z11 ?_))
      go_ret3
      exact ⟨_, Z6, by first | exact Kd.S_nil _ _ _ _ _ | exact Kd.N_nil _ _ _ _ _ | exact Kd.V_nil _ _ _ _ _ | exact Kd.Q_nil _ _ _ _ _ | exact Kd.R_nil _ _ _ _ _, Z2⟩
     ·replace c9 := Bool.eq_false_iff.mpr c9
      subst c9
      have H1 : ((aodv_get.f kj3 a0).bind fun bh => (if bh.2.2.2.2.2.2.2.2.2.2.2.2.2.2.2.2.2.2.2.2.2.2.2.2.2.2 = 0 then (some ((([(⟨bh.1, bh.2.1, bh.2.2.1, bh.2.2.2.1, bh.2.2.2.2.1, bh.2.2.2.2.2.1, bh.2.2.2.2.2.2.1, bh.2.2.2.2.2.2.2.1, bh.2.2.2.2.2.2.2.2.1, bh.2.2.2.2.2.2.2.2.2.1, bh.2.2.2.2.2.2.2.2.2.2.1, bh.2.2.2.2.2.2.2.2.2.2.2.1, bh.2.2.2.2.2.2.2.2.2.2.2.2.1, bh.2.2.2.2.2.2.2.2.2.2.2.2.2.1, bh.2.2.2.2.2.2.2.2.2.2.2.2.2.2.1, bh.2.2.2.2.2.2.2.2.2.2.2.2.2.2.2.1, bh.2.2.2.2.2.2.2.2.2.2.2.2.2.2.2.2.1, bh.2.2.2.2.2.2.2.2.2.2.2.2.2.2.2.2.2.1, bh.2.2.2.2.2.2.2.2.2.2.2.2.2.2.2.2.2.2.1, bh.2.2.2.2.2.2.2.2.2.2.2.2.2.2.2.2.2.2.2.1, bh.2.2.2.2.2.2.2.2.2.2.2.2.2.2.2.2.2.2.2.2.1, bh.2.2.2.2.2.2.2.2.2.2.2.2.2.2.2.2.2.2.2.2.2.1, bh.2.2.2.2.2.2.2.2.2.2.2.2.2.2.2.2.2.2.2.2.2.2.1, bh.2.2.2.2.2.2.2.2.2.2.2.2.2.2.2.2.2.2.2.2.2.2.2.1, bh.2.2.2.2.2.2.2.2.2.2.2.2.2.2.2.2.2.2.2.2.2.2.2.2.1⟩ : S25)] : List (S25))), 0, 0)) else (none))) = some (r1, r2, r3) := by rw [if_neg (show ¬ (false = true) by decide)] at H; exact H
      clear H
      have H := H1
      clear H1
      replace H := Option.bind_eq_some_iff.mp H
      obtain ⟨⟨bU, aU, aY, bg, bH, aW, bX, aH, aQ, ba, cP, dX, dg, fi, dD, dU, eT, fj, fk, fl, fm, eU, gH, fn, eV, nV, gw⟩, mT, H⟩ := H
      replace H : (if gw = 0 then (some ((([(⟨bU, aU, aY, bg, bH, aW, bX, aH, aQ, ba, cP, dX, dg, fi, dD, dU, eT, fj, fk, fl, fm, eU, gH, fn, eV⟩ : S25)] : List (S25))), 0, 0)) else (none)) = some (r1, r2, r3) := H
      have nu := Aside0.mk mT
      clear mT
      by_cases dC : gw = 0
      ·rw [if_pos dC] at H
       have fg : (gw == 0) = true := beq_iff_eq.mpr dC
       have jf : (gw != 0) = false := bne_eq_false_iff_eq.mpr dC
       clear dC
       obtain ⟨nW, hy133⟩ : ∃ y_ : List (S25), y_ = (([(⟨bU, aU, aY, bg, bH, aW, bX, aH, aQ, ba, cP, dX, dg, fi, dD, dU, eT, fj, fk, fl, fm, eU, gH, fn, eV⟩ : S25)] : List (S25))) := ⟨_, rfl⟩
       replace H : (some (nW, 0, 0)) = some (r1, r2, r3) := by first | (rw [hy133]; with_reducible exact H) | (have H2_ := (Option.bind_some _ _).symm.trans H; rw [hy133]; with_reducible exact H2_) | (have H2_ := (Option.bind_some _ _).symm.trans H; with_reducible exact H2_) | with_reducible exact H | (rw [hy133]; exact H) | exact H
       have Ny133 := Aside0.mk hy133
       clear hy133
       simp only [Option.some.injEq, Prod.mk.injEq] at H
       obtain ⟨rfl, rfl, rfl⟩ := H
       go_wp2_with (first | ((with_reducible refine Pre.gate_load 25 rfl ?_); (try (refine gate_guard Z14 ?_; dsimp only)); refine Pre.load_event rfl rfl rfl Z14 Z15 Try.underlying25 rfl Z11 ?_) | ((with_reducible refine gate_callee (f := 69) rfl ?_); refine goesL_ (some 27) rfl rfl Try.func69 Z11 rfl #[.string a0] rfl Z4 ?_; (with_reducible refine (aodv_get.calls kj3 a0 bU aU aY bg bH aW bX aH aQ ba cP dX dg fi dD dU eT fj fk fl fm eU gH fn eV nV gw _ nu.out).mono ?_); rintro e ky ⟨v123, v128, rfl, ho0, ho1, hb⟩; refine ⟨_, rfl, ?_⟩; have fY := Aside0.mk (Kd.R_lower (Kd.R_newM (M := fun k_ => (w.heap.size ≤ k_)) ho0 (below_size Z2) (fun k_ h_ => h_)) (below_size Z2)); have fZ := Aside0.mk (Kd.R_lower (Kd.R_newM (M := fun k_ => (w.heap.size ≤ k_)) ho1 (below_size Z2) (fun k_ h_ => h_)) (below_size Z2)); replace HB := Aside0.mk (below_step Z2 hb); clear hb ho0 ho1) | ((with_reducible refine gate_dst (N := 5) rfl ?_); refine Sq.box 5 #[.int .i64 0, .int .i64 0, .int .i64 0, .string ⟨#[]⟩, .int .i64 0, .int .i64 0, .string ⟨#[]⟩, .int .i64 0, .int .i64 0, .string ⟨#[]⟩, .int .i64 0, .string ⟨#[]⟩, .int .i64 0, .int .i64 0, .int .i64 0, .int .i64 0, .int .i64 0, .int .i64 0, .int .i64 0, .string ⟨#[]⟩, .string ⟨#[]⟩, .slice none 0 0, .int .i64 0, .string ⟨#[]⟩, .slice none 0 0] 25 ?_; intro fA hg hS hbox hb; have eY := Aside0.mk (hbox); have GW132 := Aside0.mk (Sq.ge hg Z2); have kK := Aside0.mk (Sq.ge hg Z2); replace fY := Aside0.mk (Kd.R_below (by (with_reducible repeat (first | apply Kd.R_alloc | apply Kd.R_drewN | apply Kd.R_drew)); exact fY.out) hb); replace fZ := Aside0.mk (Kd.R_below (by (with_reducible repeat (first | apply Kd.R_alloc | apply Kd.R_drewN | apply Kd.R_drew)); exact fZ.out) hb); replace HB := Aside0.mk (below_step Z2 hb); clear hb hbox hg; have gO := cells_25 eY.out; obtain ⟨jH, jI, eo15⟩ := Kd.R_slice fY.out; subst eo15; obtain ⟨jJ, jK, eo16⟩ := Kd.R_slice fZ.out; subst eo16) | ((with_reducible refine Pre.gate_store 25 rfl ?_); refine Pre.store_abs (cur := #[.int .i64 0, .int .i64 0, .int .i64 0, .string ⟨#[]⟩, .int .i64 0, .int .i64 0, .string ⟨#[]⟩, .int .i64 0, .int .i64 0, .string ⟨#[]⟩, .int .i64 0, .string ⟨#[]⟩, .int .i64 0, .int .i64 0, .int .i64 0, .int .i64 0, .int .i64 0, .int .i64 0, .int .i64 0, .string ⟨#[]⟩, .string ⟨#[]⟩, .slice none 0 0, .int .i64 0, .string ⟨#[]⟩, .slice none 0 0]) (e := 25) rfl rfl rfl Z14 Z14 Z52 Z11 Z14 Z14 ?_; intro ip hbS_ sS_; have bi : Aside0 (Kd.R k46 46 ip w.heap.size (fun k_ => (w.heap.size ≤ k_)) (.slice jH eU.length jI) eU) := ⟨Kd.R_mono (Pre.R_sets sS_ (Kd.R_types fY.out eY.out Z21) (fun _ hk => hk.2)) (fun _ hk => hk.1.1)⟩; have bp : Aside0 (Kd.R k48 48 ip w.heap.size (fun k_ => (w.heap.size ≤ k_)) (.slice jJ eV.length jK) eV) := ⟨Kd.R_mono (Pre.R_sets sS_ (Kd.R_types fZ.out eY.out Z21) (fun _ hk => hk.2)) (fun _ hk => hk.1.1)⟩; have bT : Aside0 (ip.heap[fA]? = some (.cells #[.int .i64 bU, .int .i64 aU, .int .i64 aY, .string bg, .int .i64 bH, .int .i64 aW, .string bX, .int .i64 aH, .int .i64 aQ, .string ba, .int .i64 cP, .string dX, .int .i64 dg, .int .i64 fi, .int .i64 dD, .int .i64 dU, .int .i64 eT, .int .i64 fj, .int .i64 fk, .string fl, .string fm, .slice jH eU.length jI, .int .i64 gH, .string fn, .slice jJ eV.length jK] 25 (0, 0))) := ⟨hbS_⟩; have kx : Aside0 (Below w.heap.size w ip) := ⟨sS_.below Z31 kK.out⟩; clear hbS_ sS_; replace fY := bi; replace fZ := bp; replace eY := bT; replace HB := kx; clear bi bp bT kx; have hJ := cells_25 eY.out) | ((with_reducible refine gate_dst (N := 36) rfl ?_); refine Kd.N_lit k25 _ 25 ?hg (N' := 36) ?hd (xs := ([(⟨bU, aU, aY, bg, bH, aW, bX, aH, aQ, ba, cP, dX, dg, fi, dD, dU, eT, fj, fk, fl, fm, eU, gH, fn, eV⟩ : S25)] : List (S25))) (inner := [.int .i64 bU, .int .i64 aU, .int .i64 aY, .string bg, .int .i64 bH, .int .i64 aW, .string bX, .int .i64 aH, .int .i64 aQ, .string ba, .int .i64 cP, .string dX, .int .i64 dg, .int .i64 fi, .int .i64 dD, .int .i64 dU, .int .i64 eT, .int .i64 fj, .int .i64 fk, .string fl, .string fm, .slice jH eU.length jI, .int .i64 gH, .string fn, .slice jJ eV.length jK]) (ok := (fun k_ => (w.heap.size ≤ k_) ∧ k_ ≠ fA)) (okp := (fun k_ => (w.heap.size ≤ k_) ∧ k_ ≠ fA)) ?hr ?hp (fun _ hk => hk) ((show ∀ k_, ip.heap.size ≤ k_ → (fun k_ => (w.heap.size ≤ k_) ∧ k_ ≠ fA) k_ from fun k_ hk => ⟨(Nat.le_trans (below_size Z31) hk), Kd.freshB (g := fA) (o := .cells #[.int .i64 bU, .int .i64 aU, .int .i64 aY, .string bg, .int .i64 bH, .int .i64 aW, .string bX, .int .i64 aH, .int .i64 aQ, .string ba, .int .i64 cP, .string dX, .int .i64 dg, .int .i64 fi, .int .i64 dD, .int .i64 dU, .int .i64 eT, .int .i64 fj, .int .i64 fk, .string fl, .string fm, .slice jH eU.length jI, .int .i64 gH, .string fn, .slice jJ eV.length jK] 25 (0, 0)) Z52 k_ hk⟩) _ (Nat.le_refl _)) (Below.refl _ _) (Nat.le_refl _) Z35 ?_; (case hd => rfl); (case hg => rfl); (case hr => first | (go_simp; done) | (go_simp; rfl)); (case hp => exact (Reps.front (show Kd.FK k25 _ _ (⟨bU, aU, aY, bg, bH, aW, bX, aH, aQ, ba, cP, dX, dg, fi, dD, dU, eT, fj, fk, fl, fm, eU, gH, fn, eV⟩ : S25) [.int .i64 bU, .int .i64 aU, .int .i64 aY, .string bg, .int .i64 bH, .int .i64 aW, .string bX, .int .i64 aH, .int .i64 aQ, .string ba, .int .i64 cP, .string dX, .int .i64 dg, .int .i64 fi, .int .i64 dD, .int .i64 dU, .int .i64 eT, .int .i64 fj, .int .i64 fk, .string fl, .string fm, .slice jH eU.length jI, .int .i64 gH, .string fn, .slice jJ eV.length jK] from (k25_mkF _ _ (⟨bU, aU, aY, bg, bH, aW, bX, aH, aQ, ba, cP, dX, dg, fi, dD, dU, eT, fj, fk, fl, fm, eU, gH, fn, eV⟩ : S25) (Kd.R_reads' (Kd.R_mono (ok' := (fun k_ => (w.heap.size ≤ k_) ∧ k_ ≠ fA)) (Kd.R_types (fY.out) eY.out Z21) (fun k_ hk => ⟨hk.1, hk.2⟩))).2.1 (Kd.R_F (Kd.R_mono (ok' := (fun k_ => (w.heap.size ≤ k_) ∧ k_ ≠ fA)) (Kd.R_types (fY.out) eY.out Z21) (fun k_ hk => ⟨hk.1, hk.2⟩))) (Kd.R_reads' (Kd.R_mono (ok' := (fun k_ => (w.heap.size ≤ k_) ∧ k_ ≠ fA)) (Kd.R_types (fZ.out) eY.out Z21) (fun k_ hk => ⟨hk.1, hk.2⟩))).2.1 (Kd.R_F (Kd.R_mono (ok' := (fun k_ => (w.heap.size ≤ k_) ∧ k_ ≠ fA)) (Kd.R_types (fZ.out) eY.out Z21) (fun k_ hk => ⟨hk.1, hk.2⟩))))) rfl (Reps.none _ _) rfl)); intro v134 lk ho20 hb hg_ hnew_; clear hg_ hnew_; (first | rw [← Ny133.out] at ho20 | (simp only [Int.reduceToNat] at ho20; rw [← Ny133.out] at ho20)); clear fY; clear fZ; have mU := Aside0.mk (Kd.N_lower ho20 (below_size Z31)); replace eY := Aside0.mk (blk_below (g := fA) Z52 hb); replace HB := Aside0.mk (below_step Z31 hb); clear hb ho20))
       go_ret3
       exact ⟨_, Z6, by (with_reducible repeat (first | apply Kd.N_alloc | apply Kd.N_drewN | apply Kd.N_drew)); exact Kd.N_mono mU.out (fun _ hk => hk.1), Z31⟩
      ·rw [if_neg dC] at H
       exact absurd H Z35

/-! ### aodv_Right: function 45 -/
def aodv_Right.f (k : Nat) (aD : Int) (aw : Int) (ax : Int) (au : ByteArray) (aA : Int) (ay : Int) (av : ByteArray) (ar : Int) (aC : Int) (az : ByteArray) (ao : Int) (am : ByteArray) (ah : Int) (aj : Int) (ak : Int) (ae : Int) (ag : Int) (ai : Int) (an : Int) (aa : ByteArray) (ab : ByteArray) (ac : List (S46)) (ap : Int) (aq : ByteArray) (af : List (S48)) : Option (Bool) := (rreq_Right.f k aD aw ax au aA ay av ar aC az ao am ah aj ak ae ag ai an aa ab ac ap aq af).bind fun aU => (if aU = true then (some true) else ((rrep_Right.f k aD aw ax au aA ay av ar aC az ao am ah aj ak ae ag ai an aa ab ac ap aq af).bind fun aY => (if aY = true then (some true) else ((rerr_Right.f k aD aw ax au aA ay av ar aC az ao am ah aj ak ae ag ai an aa ab ac ap aq af).bind fun bg => (some bg)))))
theorem aodv_Right.mono : ∀ a0 a1 a2 a3 a4 a5 a6 a7 a8 a9 dY dZ ea eb ec ed ee ef eg eh ei ej ek el em k, LeO (aodv_Right.f k a0 a1 a2 a3 a4 a5 a6 a7 a8 a9 dY dZ ea eb ec ed ee ef eg eh ei ej ek el em) (aodv_Right.f (k + 1) a0 a1 a2 a3 a4 a5 a6 a7 a8 a9 dY dZ ea eb ec ed ee ef eg eh ei ej ek el em) := by
 intros
 rename_i k
 unfold aodv_Right.f
 have m0 := rerr_Right.mono
 have m1 := rrep_Right.mono
 have m2 := rreq_Right.mono
 exact Sq.mo

set_option maxHeartbeats 8000000 in
set_option maxRecDepth 100000 in
theorem aodv_Right.calls (k : Nat) (aD : Int) (aw : Int) (ax : Int) (au : ByteArray) (aA : Int) (ay : Int) (av : ByteArray) (ar : Int) (aC : Int) (az : ByteArray) (ao : Int) (am : ByteArray) (ah : Int) (aj : Int) (ak : Int) (ae : Int) (ag : Int) (ai : Int) (an : Int) (aa : ByteArray) (ab : ByteArray) (aP : Option Addr) (aN : Nat) (ac : List (S46)) (ap : Int) (aq : ByteArray) (aJ : Option Addr) (aK : Nat) (af : List (S48)) (r : Bool) (w : World) (bk : Kd.C k46 w aP ac.length ac) (bl : ac.length ≤ aN) (bm : Kd.C k48 w aJ af.length af) (bn : af.length ≤ aK) (h : aodv_Right.f k aD aw ax au aA ay av ar aC az ao am ah aj ak ae ag ai an aa ab ac ap aq af = some r) :
  Calls Try.prog 45 #[.agg #[.int .i64 aD, .int .i64 aw, .int .i64 ax, .string au, .int .i64 aA, .int .i64 ay, .string av, .int .i64 ar, .int .i64 aC, .string az, .int .i64 ao, .string am, .int .i64 ah, .int .i64 aj, .int .i64 ak, .int .i64 ae, .int .i64 ag, .int .i64 ai, .int .i64 an, .string aa, .string ab, .slice aP ac.length aN, .int .i64 ap, .string aq, .slice aJ af.length aK]] w fun e w' => e = .returned (.bool r) ∧ Below w.heap.size w w' := by
 have dM := Try.underlying25
 have cc := Aside0.mk bk
 have aZ := Aside0.mk bl
 clear bk bl
 have bZ := Aside0.mk bm
 have aT := Aside0.mk bn
 clear bm bn
 have HB := Aside0.mk (Below.refl w.heap.size w)
 have H : ((rreq_Right.f k aD aw ax au aA ay av ar aC az ao am ah aj ak ae ag ai an aa ab ac ap aq af).bind fun aU => (if aU = true then (some true) else ((rrep_Right.f k aD aw ax au aA ay av ar aC az ao am ah aj ak ae ag ai an aa ab ac ap aq af).bind fun aY => (if aY = true then (some true) else ((rerr_Right.f k aD aw ax au aA ay av ar aC az ao am ah aj ak ae ag ai an aa ab ac ap aq af).bind fun bg => (some bg)))))) = some r := h
 clear h
 replace H := Option.bind_eq_some_iff.mp H
 obtain ⟨aU, dL, H⟩ := H
 replace H : (if aU = true then (some true) else ((rrep_Right.f k aD aw ax au aA ay av ar aC az ao am ah aj ak ae ag ai an aa ab ac ap aq af).bind fun aY => (if aY = true then (some true) else ((rerr_Right.f k aD aw ax au aA ay av ar aC az ao am ah aj ak ae ag ai an aa ab ac ap aq af).bind fun bg => (some bg))))) = some r := H
 have A2 := Aside0.mk dL
 clear dL
 by_cases c3 : aU = true
 ·subst c3
  replace H := Sq.itT H
  obtain rfl := Option.some.inj H
  go_enter Try.func45, Try.ntmps45
  go_wp2_with (first | ((with_reducible refine Pre.gate_load 25 rfl ?_); (try (refine gate_guard Z14 ?_; dsimp only)); refine Pre.load_event rfl rfl rfl Z14 Z1 Try.underlying25 rfl Z11 ?_) | ((with_reducible refine gate_dst (N := 1) rfl ?_); refine Sq.box 1 #[.int .i64 aD, .int .i64 aw, .int .i64 ax, .string au, .int .i64 aA, .int .i64 ay, .string av, .int .i64 ar, .int .i64 aC, .string az, .int .i64 ao, .string am, .int .i64 ah, .int .i64 aj, .int .i64 ak, .int .i64 ae, .int .i64 ag, .int .i64 ai, .int .i64 an, .string aa, .string ab, .slice aP ac.length aN, .int .i64 ap, .string aq, .slice aJ af.length aK] 25 ?_; intro aE hg w4 hbox hb; have al := Aside0.mk (hbox); have cd := Aside0.mk (Sq.ge hg Z2); have bV := Aside0.mk (Sq.ge hg Z2); replace HB := Aside0.mk (below_step Z2 hb); clear hb hbox hg; have hh := cells_25 al.out) | ((with_reducible refine gate_callee (f := 20) rfl ?_); refine goesL_ (some 4) rfl rfl Try.func20 Z11 rfl #[.agg #[.int .i64 aD, .int .i64 aw, .int .i64 ax, .string au, .int .i64 aA, .int .i64 ay, .string av, .int .i64 ar, .int .i64 aC, .string az, .int .i64 ao, .string am, .int .i64 ah, .int .i64 aj, .int .i64 ak, .int .i64 ae, .int .i64 ag, .int .i64 ai, .int .i64 an, .string aa, .string ab, .slice aP ac.length aN, .int .i64 ap, .string aq, .slice aJ af.length aK]] rfl Z4 ?_; (with_reducible refine (rreq_Right.calls k aD aw ax au aA ay av ar aC az ao am ah aj ak ae ag ai an aa ab _ _ ac ap aq _ _ af true _ ?side1 ?side2 ?side3 ?side4 A2.out).mono ?_); (case side1 => exact Z7); (case side2 => exact aZ.out); (case side3 => exact Z5); (case side4 => exact aT.out); rintro e w6 ⟨rfl, hb⟩; refine ⟨_, rfl, ?_⟩; replace al := Aside0.mk (blk_below (g := aE) Z3 hb); replace HB := Aside0.mk (below_step Z0 hb); clear hb))
  go_ret
  exact ⟨Z6, Z0⟩
 ·replace c3 := Bool.eq_false_iff.mpr c3
  subst c3
  replace H := Sq.itF H
  replace H := Option.bind_eq_some_iff.mp H
  obtain ⟨aY, ie, H⟩ := H
  replace H : (if aY = true then (some true) else ((rerr_Right.f k aD aw ax au aA ay av ar aC az ao am ah aj ak ae ag ai an aa ab ac ap aq af).bind fun bg => (some bg))) = some r := H
  have A7 := Aside0.mk ie
  clear ie
  by_cases c8 : aY = true
  ·subst c8
   replace H := Sq.itT H
   obtain rfl := Option.some.inj H
   go_enter Try.func45, Try.ntmps45
   go_wp2_with (first | ((with_reducible refine Pre.gate_load 25 rfl ?_); (try (refine gate_guard Z14 ?_; dsimp only)); refine Pre.load_event rfl rfl rfl Z14 Z1 Try.underlying25 rfl Z11 ?_) | ((with_reducible refine gate_dst (N := 1) rfl ?_); refine Sq.box 1 #[.int .i64 aD, .int .i64 aw, .int .i64 ax, .string au, .int .i64 aA, .int .i64 ay, .string av, .int .i64 ar, .int .i64 aC, .string az, .int .i64 ao, .string am, .int .i64 ah, .int .i64 aj, .int .i64 ak, .int .i64 ae, .int .i64 ag, .int .i64 ai, .int .i64 an, .string aa, .string ab, .slice aP ac.length aN, .int .i64 ap, .string aq, .slice aJ af.length aK] 25 ?_; intro aE hg w9 hbox hb; have al := Aside0.mk (hbox); have cd := Aside0.mk (Sq.ge hg Z2); have bV := Aside0.mk (Sq.ge hg Z2); replace HB := Aside0.mk (below_step Z2 hb); clear hb hbox hg; have fL := cells_25 al.out) | ((with_reducible refine gate_callee (f := 20) rfl ?_); refine goesL_ (some 4) rfl rfl Try.func20 Z11 rfl #[.agg #[.int .i64 aD, .int .i64 aw, .int .i64 ax, .string au, .int .i64 aA, .int .i64 ay, .string av, .int .i64 ar, .int .i64 aC, .string az, .int .i64 ao, .string am, .int .i64 ah, .int .i64 aj, .int .i64 ak, .int .i64 ae, .int .i64 ag, .int .i64 ai, .int .i64 an, .string aa, .string ab, .slice aP ac.length aN, .int .i64 ap, .string aq, .slice aJ af.length aK]] rfl Z4 ?_; (with_reducible refine (rreq_Right.calls k aD aw ax au aA ay av ar aC az ao am ah aj ak ae ag ai an aa ab _ _ ac ap aq _ _ af false _ ?side1 ?side2 ?side3 ?side4 A2.out).mono ?_); (case side1 => exact Z7); (case side2 => exact aZ.out); (case side3 => exact Z5); (case side4 => exact aT.out); rintro e kt ⟨rfl, hb⟩; refine ⟨_, rfl, ?_⟩; replace al := Aside0.mk (blk_below (g := aE) Z3 hb); replace HB := Aside0.mk (below_step Z0 hb); clear hb; have gs := cells_25 al.out) | (go_at_call 36; (with_reducible refine (rrep_Right.calls k aD aw ax au aA ay av ar aC az ao am ah aj ak ae ag ai an aa ab _ _ ac ap aq _ _ af true _ ?side1 ?side2 ?side3 ?side4 A7.out).mono ?_); (case side1 => exact Z7); (case side2 => exact aZ.out); (case side3 => exact Z5); (case side4 => exact aT.out); rintro e hS ⟨rfl, hb⟩; replace al := Aside0.mk (blk_below (g := aE) Z3 hb); replace HB := Aside0.mk (below_step Z0 hb); clear hb))
   go_ret
   exact ⟨Z6, Z0⟩
  ·replace c8 := Bool.eq_false_iff.mpr c8
   subst c8
   replace H := Sq.itF H
   replace H := Option.bind_eq_some_iff.mp H
   obtain ⟨bg, fO, H⟩ := H
   replace H : (some bg) = some r := H
   have jW := Aside0.mk fO
   clear fO
   obtain rfl := Option.some.inj H
   go_enter Try.func45, Try.ntmps45
   go_wp2_with (first | ((with_reducible refine Pre.gate_load 25 rfl ?_); (try (refine gate_guard Z14 ?_; dsimp only)); refine Pre.load_event rfl rfl rfl Z14 Z1 Try.underlying25 rfl Z11 ?_) | ((with_reducible refine gate_dst (N := 1) rfl ?_); refine Sq.box 1 #[.int .i64 aD, .int .i64 aw, .int .i64 ax, .string au, .int .i64 aA, .int .i64 ay, .string av, .int .i64 ar, .int .i64 aC, .string az, .int .i64 ao, .string am, .int .i64 ah, .int .i64 aj, .int .i64 ak, .int .i64 ae, .int .i64 ag, .int .i64 ai, .int .i64 an, .string aa, .string ab, .slice aP ac.length aN, .int .i64 ap, .string aq, .slice aJ af.length aK] 25 ?_; intro aE hg nE hbox hb; have al := Aside0.mk (hbox); have cd := Aside0.mk (Sq.ge hg Z2); have bV := Aside0.mk (Sq.ge hg Z2); replace HB := Aside0.mk (below_step Z2 hb); clear hb hbox hg; have io := cells_25 al.out) | ((with_reducible refine gate_callee (f := 20) rfl ?_); refine goesL_ (some 4) rfl rfl Try.func20 Z11 rfl #[.agg #[.int .i64 aD, .int .i64 aw, .int .i64 ax, .string au, .int .i64 aA, .int .i64 ay, .string av, .int .i64 ar, .int .i64 aC, .string az, .int .i64 ao, .string am, .int .i64 ah, .int .i64 aj, .int .i64 ak, .int .i64 ae, .int .i64 ag, .int .i64 ai, .int .i64 an, .string aa, .string ab, .slice aP ac.length aN, .int .i64 ap, .string aq, .slice aJ af.length aK]] rfl Z4 ?_; (with_reducible refine (rreq_Right.calls k aD aw ax au aA ay av ar aC az ao am ah aj ak ae ag ai an aa ab _ _ ac ap aq _ _ af false _ ?side1 ?side2 ?side3 ?side4 A2.out).mono ?_); (case side1 => exact Z7); (case side2 => exact aZ.out); (case side3 => exact Z5); (case side4 => exact aT.out); rintro e ip ⟨rfl, hb⟩; refine ⟨_, rfl, ?_⟩; replace al := Aside0.mk (blk_below (g := aE) Z3 hb); replace HB := Aside0.mk (below_step Z0 hb); clear hb; have hJ := cells_25 al.out) | (go_at_call 36; (with_reducible refine (rrep_Right.calls k aD aw ax au aA ay av ar aC az ao am ah aj ak ae ag ai an aa ab _ _ ac ap aq _ _ af false _ ?side1 ?side2 ?side3 ?side4 A7.out).mono ?_); (case side1 => exact Z7); (case side2 => exact aZ.out); (case side3 => exact Z5); (case side4 => exact aT.out); rintro e lk ⟨rfl, hb⟩; replace al := Aside0.mk (blk_below (g := aE) Z3 hb); replace HB := Aside0.mk (below_step Z0 hb); clear hb; have iw := cells_25 al.out) | (go_at_call 28; (with_reducible refine (rerr_Right.calls k aD aw ax au aA ay av ar aC az ao am ah aj ak ae ag ai an aa ab _ _ ac ap aq _ _ af bg _ ?side1 ?side2 ?side3 ?side4 jW.out).mono ?_); (case side1 => exact Z7); (case side2 => exact aZ.out); (case side3 => exact Z5); (case side4 => exact aT.out); rintro e kY ⟨rfl, hb⟩; replace al := Aside0.mk (blk_below (g := aE) Z3 hb); replace HB := Aside0.mk (below_step Z0 hb); clear hb))
   go_ret
   exact ⟨Z6, Z0⟩

end Go.Proofs.Ytccjakjjaemmkaa.PAE
