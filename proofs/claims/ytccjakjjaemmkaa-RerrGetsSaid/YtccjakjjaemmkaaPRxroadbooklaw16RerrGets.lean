-- Written by mp.py, a program of this work (wip/tools), out of the translation; Lean checks it.
import Derived.Test.YtccjakjjaemmkaaPRxZ
import Derived.Test.YtccjakjjaemmkaaPRxrerrGet
import Derived.Test.YtccjakjjaemmkaaPRxroadbooklaw16
import Derived.Test.YtccjakjjaemmkaaPRxroadbookref07Same
import Derived.Test.YtccjakjjaemmkaaPRxroadbookref16Get
namespace Go.Proofs.Ytccjakjjaemmkaa.PR
open Go.RowKit Go.Proofs.YtccjakjjaemmkaaW.PrintWords Go.Proofs.YtccjakjjaemmkaaW.PrintLast Go.Proofs.YtccjakjjaemmkaaW.PrintMore
attribute [local go_sem] max2_int min2_int max_two min_two max_three min_three max_four min_four   -- for this text's walks alone
set_option linter.unusedVariables false
set_option linter.unusedSimpArgs false

/-! ### roadbooklaw16_RerrGets: function 7 -/
def roadbooklaw16_RerrGets.j0 : Nat → ByteArray → Bool → Option (Bool)
 | 0, _, _ => none
 | k + 1, x0, oE => if oE = true then ((roadbooklaw16_awake.f k).bind fun ci => (some ci)) else ((rerr_Get.f k x0).bind fun bh => ((roadbookref16_Get.f k x0).bind fun bj => ((roadbooklaw16_awake.f k).bind fun db => (if db = true then ((roadbookref07_Same.f k bh.1 bh.2.1 bh.2.2.1 bh.2.2.2.1 bh.2.2.2.2.1 bh.2.2.2.2.2.1 bh.2.2.2.2.2.2.1 bh.2.2.2.2.2.2.2.1 bh.2.2.2.2.2.2.2.2.1 bh.2.2.2.2.2.2.2.2.2.1 bh.2.2.2.2.2.2.2.2.2.2.1 bh.2.2.2.2.2.2.2.2.2.2.2.1 bh.2.2.2.2.2.2.2.2.2.2.2.2.1 bh.2.2.2.2.2.2.2.2.2.2.2.2.2.1 bh.2.2.2.2.2.2.2.2.2.2.2.2.2.2.1 bh.2.2.2.2.2.2.2.2.2.2.2.2.2.2.2.1 bh.2.2.2.2.2.2.2.2.2.2.2.2.2.2.2.2.1 bh.2.2.2.2.2.2.2.2.2.2.2.2.2.2.2.2.2.1 bh.2.2.2.2.2.2.2.2.2.2.2.2.2.2.2.2.2.2.1 bh.2.2.2.2.2.2.2.2.2.2.2.2.2.2.2.2.2.2.2.1 bh.2.2.2.2.2.2.2.2.2.2.2.2.2.2.2.2.2.2.2.2.1 bh.2.2.2.2.2.2.2.2.2.2.2.2.2.2.2.2.2.2.2.2.2.1 bh.2.2.2.2.2.2.2.2.2.2.2.2.2.2.2.2.2.2.2.2.2.2.1 bh.2.2.2.2.2.2.2.2.2.2.2.2.2.2.2.2.2.2.2.2.2.2.2.1 bh.2.2.2.2.2.2.2.2.2.2.2.2.2.2.2.2.2.2.2.2.2.2.2.2.1 bj.1 bj.2.1 bj.2.2.1 bj.2.2.2.1 bj.2.2.2.2.1 bj.2.2.2.2.2.1 bj.2.2.2.2.2.2.1 bj.2.2.2.2.2.2.2.1 bj.2.2.2.2.2.2.2.2.1 bj.2.2.2.2.2.2.2.2.2.1 bj.2.2.2.2.2.2.2.2.2.2.1 bj.2.2.2.2.2.2.2.2.2.2.2.1 bj.2.2.2.2.2.2.2.2.2.2.2.2.1 bj.2.2.2.2.2.2.2.2.2.2.2.2.2.1 bj.2.2.2.2.2.2.2.2.2.2.2.2.2.2.1 bj.2.2.2.2.2.2.2.2.2.2.2.2.2.2.2.1 bj.2.2.2.2.2.2.2.2.2.2.2.2.2.2.2.2.1 bj.2.2.2.2.2.2.2.2.2.2.2.2.2.2.2.2.2.1 bj.2.2.2.2.2.2.2.2.2.2.2.2.2.2.2.2.2.2.1 bj.2.2.2.2.2.2.2.2.2.2.2.2.2.2.2.2.2.2.2.1 bj.2.2.2.2.2.2.2.2.2.2.2.2.2.2.2.2.2.2.2.2.1 bj.2.2.2.2.2.2.2.2.2.2.2.2.2.2.2.2.2.2.2.2.2.1 bj.2.2.2.2.2.2.2.2.2.2.2.2.2.2.2.2.2.2.2.2.2.2.1 bj.2.2.2.2.2.2.2.2.2.2.2.2.2.2.2.2.2.2.2.2.2.2.2.1 bj.2.2.2.2.2.2.2.2.2.2.2.2.2.2.2.2.2.2.2.2.2.2.2.2.1).bind fun cB => (if cB = true then (if bh.2.2.2.2.2.2.2.2.2.2.2.2.2.2.2.2.2.2.2.2.2.2.2.2.2.1 = bj.2.2.2.2.2.2.2.2.2.2.2.2.2.2.2.2.2.2.2.2.2.2.2.2.2.1 then (some (bh.2.2.2.2.2.2.2.2.2.2.2.2.2.2.2.2.2.2.2.2.2.2.2.2.2.2 == bj.2.2.2.2.2.2.2.2.2.2.2.2.2.2.2.2.2.2.2.2.2.2.2.2.2.2)) else (some false)) else (some false))) else (some false)))))
def roadbooklaw16_RerrGets.f (k : Nat) (a0 : ByteArray) : Option (Bool) := if (a0.size : Int) > 3000 then (roadbooklaw16_RerrGets.j0 k a0 true) else (if (a0.size : Int) = 0 then (roadbooklaw16_RerrGets.j0 k a0 true) else (if 0 < (a0.size : Int) then (roadbooklaw16_RerrGets.j0 k a0 (!((bt a0 0) == 3))) else (none)))
theorem roadbooklaw16_RerrGets.mono_l : ∀ k, (∀ y0 y1, LeO (roadbooklaw16_RerrGets.j0 k y0 y1) (roadbooklaw16_RerrGets.j0 (k + 1) y0 y1))
 | 0 => fun _ _ r h => by simp [roadbooklaw16_RerrGets.j0] at h
 | k + 1 => by
  have ih0 := roadbooklaw16_RerrGets.mono_l k
  ·intro y0 y1
   unfold roadbooklaw16_RerrGets.j0
   repeat' first
   | (with_reducible exact ih0 _ _)
   | (with_reducible exact rerr_Get.mono _ _)
   | (with_reducible exact roadbooklaw16_awake.mono _)
   | (with_reducible exact roadbookref07_Same.mono _ _ _ _ _ _ _ _ _ _ _ _ _ _ _ _ _ _ _ _ _ _ _ _ _ _ _ _ _ _ _ _ _ _ _ _ _ _ _ _ _ _ _ _ _ _ _ _ _ _ _)
   | (with_reducible exact roadbookref16_Get.mono _ _)
   | (with_reducible exact LeO.refl _)
   | (with_reducible exact LeO.none _)
   | (with_reducible refine LeO.ite ?_ ?_)
   | (with_reducible refine LeO.bind ?_ (fun _ => ?_))
   | exact ih0 _ _
   | exact rerr_Get.mono _ _
   | exact roadbooklaw16_awake.mono _
   | exact roadbookref07_Same.mono _ _ _ _ _ _ _ _ _ _ _ _ _ _ _ _ _ _ _ _ _ _ _ _ _ _ _ _ _ _ _ _ _ _ _ _ _ _ _ _ _ _ _ _ _ _ _ _ _ _ _
   | exact roadbookref16_Get.mono _ _
   | exact LeO.none _
   | refine LeO.ite ?_ ?_
   | refine LeO.bind ?_ (fun _ => ?_)
theorem roadbooklaw16_RerrGets.mono : ∀ a0 k, LeO (roadbooklaw16_RerrGets.f k a0) (roadbooklaw16_RerrGets.f (k + 1) a0) := by
 intro a0 k
 have ih0 := roadbooklaw16_RerrGets.mono_l k
 unfold roadbooklaw16_RerrGets.f
 repeat' first
   | (with_reducible exact ih0 _ _)
   | (with_reducible exact rerr_Get.mono _ _)
   | (with_reducible exact roadbooklaw16_awake.mono _)
   | (with_reducible exact roadbookref07_Same.mono _ _ _ _ _ _ _ _ _ _ _ _ _ _ _ _ _ _ _ _ _ _ _ _ _ _ _ _ _ _ _ _ _ _ _ _ _ _ _ _ _ _ _ _ _ _ _ _ _ _ _)
   | (with_reducible exact roadbookref16_Get.mono _ _)
   | (with_reducible exact LeO.refl _)
   | (with_reducible exact LeO.none _)
   | (with_reducible refine LeO.ite ?_ ?_)
   | (with_reducible refine LeO.bind ?_ (fun _ => ?_))
   | exact ih0 _ _
   | exact rerr_Get.mono _ _
   | exact roadbooklaw16_awake.mono _
   | exact roadbookref07_Same.mono _ _ _ _ _ _ _ _ _ _ _ _ _ _ _ _ _ _ _ _ _ _ _ _ _ _ _ _ _ _ _ _ _ _ _ _ _ _ _ _ _ _ _ _ _ _ _ _ _ _ _
   | exact roadbookref16_Get.mono _ _
   | exact LeO.none _
   | refine LeO.ite ?_ ?_
   | refine LeO.bind ?_ (fun _ => ?_)

set_option maxHeartbeats 8000000 in
set_option maxRecDepth 100000 in
theorem roadbooklaw16_RerrGets.calls (k : Nat) (a0 : ByteArray) (r : Bool) (w : World) (hr_ : Aside0 (r = true)) (h : roadbooklaw16_RerrGets.f k a0 = some r) :
  Calls Try.prog 7 #[.string a0] w fun e w' => e = .returned (.bool r) ∧ Below w.heap.size w w' := by
 have gB := Try.underlying25
 have HB := Aside0.mk (Below.refl w.heap.size w)
 have H : (if (a0.size : Int) > 3000 then (roadbooklaw16_RerrGets.j0 k a0 true) else (if (a0.size : Int) = 0 then (roadbooklaw16_RerrGets.j0 k a0 true) else (if 0 < (a0.size : Int) then (roadbooklaw16_RerrGets.j0 k a0 (!((bt a0 0) == 3))) else (none)))) = some r := h
 clear h
 have iB := Aside0.mk H
 clear H
 go_enter Try.func7, Try.ntmps7
 go_upto_region 1 with (first | ((with_reducible refine Pre.gate_load 25 rfl ?_); (try (refine gate_guard Z13 ?_; dsimp only)); refine Pre.load_event rfl rfl rfl Z13 Z11 Try.underlying25 rfl Z6 ?_))
 go_cut [22] (fun kF wc => ∃ (kq : Nat) (kc : Bool), kF = .bool kc ∧ Aside0 (roadbooklaw16_RerrGets.j0 kq a0 kc = some r) ∧ Aside0 (kq ≤ k) ∧ Aside0 (Below w.heap.size w wc))
 case first =>
  have H := iB.out
  clear iB
  by_cases c3 : (a0.size : Int) > 3000
  ·rw [if_pos c3] at H
   have gw : decide (3000 < (a0.size : Int)) = true := decide_eq_true c3
   have jg : decide (3000 < a0.size) = true := decide_eq_true Z55
   clear c3
   (first | rw [gw] | (simp only [i64_w, i32_w]; rw [gw]) | skip)
   have H' := Aside0.mk H
   clear H
   go_wp2_with (first | ((with_reducible refine Pre.gate_load 25 rfl ?_); (try (refine gate_guard Z13 ?_; dsimp only)); refine Pre.load_event rfl rfl rfl Z13 Z11 Try.underlying25 rfl Z6 ?_))
   go_meet
   case rel => exact ⟨_, (true), Z14, H', ⟨Z41⟩, ⟨Z3⟩⟩
  ·rw [if_neg c3] at H
   have gw : decide (3000 < (a0.size : Int)) = false := decide_eq_false c3
   have jg : decide (3000 < a0.size) = false := decide_eq_false Z55
   clear c3
   (first | rw [gw] | (simp only [i64_w, i32_w]; rw [gw]) | skip)
   by_cases c4 : (a0.size : Int) = 0
   ·rw [if_pos c4] at H
    have cS : ((a0.size : Int) == 0) = true := beq_iff_eq.mpr c4
    have gY : ((a0.size : Int) != 0) = false := bne_eq_false_iff_eq.mpr c4
    clear c4
    have H' := Aside0.mk H
    clear H
    go_wp2_with (first | ((with_reducible refine Pre.gate_load 25 rfl ?_); (try (refine gate_guard Z13 ?_; dsimp only)); refine Pre.load_event rfl rfl rfl Z13 Z11 Try.underlying25 rfl Z6 ?_))
    go_meet
    case rel => exact ⟨_, (true), Z14, H', ⟨Z41⟩, ⟨Z3⟩⟩
   ·rw [if_neg c4] at H
    have cS : ((a0.size : Int) == 0) = false := beq_eq_false_iff_ne.mpr c4
    have gY : ((a0.size : Int) != 0) = true := bne_iff_ne.mpr c4
    by_cases c5 : 0 < (a0.size : Int)
    ·rw [if_pos c5] at H
     have hm : decide (0 < (a0.size : Int)) = true := decide_eq_true c5
     have jC : decide (0 < a0.size) = true := decide_eq_true Z55
     clear c5
     have H' := Aside0.mk H
     clear H
     have p6 : 0 ≤ (0 : Int) := Z55
     have q6 : 0 < a0.size := (by have : (0 : Int) < (a0.size : Int) := of_decide_eq_true Z10; omega)
     have hx6 : ∀ h : 0 < a0.size, ((a0[0]'h).toNat : Int) = bt a0 0 := bt_at a0 0
     clear p6
     have qi6 : (0 < (a0.size : Int)) = True := eq_true (of_decide_eq_true Z10)
     replace q6 := eq_true q6
     go_wp2_with (first | ((with_reducible refine Pre.gate_load 25 rfl ?_); (try (refine gate_guard Z13 ?_; dsimp only)); refine Pre.load_event rfl rfl rfl Z13 Z11 Try.underlying25 rfl Z6 ?_))
     go_meet
     case rel => exact ⟨_, (!((bt a0 0) == 3)), Z14, H', ⟨Z41⟩, ⟨Z3⟩⟩
    ·rw [if_neg c5] at H
     exact absurd H Z73
 case rest =>
  clear iB
  obtain ⟨kq, kc, rfl, HA, kB, HB⟩ := hcut
  cases kq with
  | zero => exact absurd HA.out (by simp [roadbooklaw16_RerrGets.j0])
  | succ kj1 =>
   have H := HA.out
   clear HA
   simp only [roadbooklaw16_RerrGets.j0] at H
   by_cases c7 : kc = true
   ·subst c7
    replace H := Sq.itT H
    replace H := Option.bind_eq_some_iff.mp H
    obtain ⟨ci, kn, H⟩ := H
    replace H : (some ci) = some r := H
    have A8 := Aside0.mk kn
    clear kn
    obtain rfl := Option.some.inj H
    go_wp2_with (first | ((with_reducible refine Pre.gate_load 25 rfl ?_); (try (refine gate_guard Z13 ?_; dsimp only)); refine Pre.load_event rfl rfl rfl Z13 Z11 Try.underlying25 rfl Z6 ?_) | ((with_reducible refine gate_callee (f := 25) rfl ?_); refine goesL_ (some 23) rfl rfl Try.func25 Z6 rfl #[] rfl Z5 ?_; (with_reducible refine (roadbooklaw16_awake.calls kj1  ci _ (Aside0.mk Z89) A8.out).mono ?_); rintro e w9 ⟨rfl, hb⟩; refine ⟨_, rfl, ?_⟩; have aG := Aside0.mk (below_step Z3 hb); replace HB := aG; clear aG; (try clear hb); (try clear hb2); (try clear hk); (try clear hi)))
    go_ret
    exact ⟨Z9, Z3⟩
   ·replace c7 := Bool.eq_false_iff.mpr c7
    subst c7
    replace H := Sq.itF H
    replace H := Option.bind_eq_some_iff.mp H
    obtain ⟨⟨ba, bf, bc, bk, bm, bp, aQ, aV, bi, cy, cF, cD, cj, cm, ce, cq, cg, co, ck, cu, ch, cG, cN, cr, cz, cE, fh⟩, jR, H⟩ := H
    replace H : ((roadbookref16_Get.f kj1 a0).bind fun bj => ((roadbooklaw16_awake.f kj1).bind fun db => (if db = true then ((roadbookref07_Same.f kj1 ba bf bc bk bm bp aQ aV bi cy cF cD cj cm ce cq cg co ck cu ch cG cN cr cz bj.1 bj.2.1 bj.2.2.1 bj.2.2.2.1 bj.2.2.2.2.1 bj.2.2.2.2.2.1 bj.2.2.2.2.2.2.1 bj.2.2.2.2.2.2.2.1 bj.2.2.2.2.2.2.2.2.1 bj.2.2.2.2.2.2.2.2.2.1 bj.2.2.2.2.2.2.2.2.2.2.1 bj.2.2.2.2.2.2.2.2.2.2.2.1 bj.2.2.2.2.2.2.2.2.2.2.2.2.1 bj.2.2.2.2.2.2.2.2.2.2.2.2.2.1 bj.2.2.2.2.2.2.2.2.2.2.2.2.2.2.1 bj.2.2.2.2.2.2.2.2.2.2.2.2.2.2.2.1 bj.2.2.2.2.2.2.2.2.2.2.2.2.2.2.2.2.1 bj.2.2.2.2.2.2.2.2.2.2.2.2.2.2.2.2.2.1 bj.2.2.2.2.2.2.2.2.2.2.2.2.2.2.2.2.2.2.1 bj.2.2.2.2.2.2.2.2.2.2.2.2.2.2.2.2.2.2.2.1 bj.2.2.2.2.2.2.2.2.2.2.2.2.2.2.2.2.2.2.2.2.1 bj.2.2.2.2.2.2.2.2.2.2.2.2.2.2.2.2.2.2.2.2.2.1 bj.2.2.2.2.2.2.2.2.2.2.2.2.2.2.2.2.2.2.2.2.2.2.1 bj.2.2.2.2.2.2.2.2.2.2.2.2.2.2.2.2.2.2.2.2.2.2.2.1 bj.2.2.2.2.2.2.2.2.2.2.2.2.2.2.2.2.2.2.2.2.2.2.2.2.1).bind fun cB => (if cB = true then (if cE = bj.2.2.2.2.2.2.2.2.2.2.2.2.2.2.2.2.2.2.2.2.2.2.2.2.2.1 then (some (fh == bj.2.2.2.2.2.2.2.2.2.2.2.2.2.2.2.2.2.2.2.2.2.2.2.2.2.2)) else (some false)) else (some false))) else (some false)))) = some r := H
    have lm := Aside0.mk jR
    clear jR
    replace H := Option.bind_eq_some_iff.mp H
    obtain ⟨⟨gq, dt, dE, eJ, il, gC, gp, dg, dh, dz, di, dj, dk, dl, dG, cQ, dm, dn, dp, dq, cZ, cR, dr, dd, cO, gv, iE⟩, kR, H⟩ := H
    replace H : ((roadbooklaw16_awake.f kj1).bind fun db => (if db = true then ((roadbookref07_Same.f kj1 ba bf bc bk bm bp aQ aV bi cy cF cD cj cm ce cq cg co ck cu ch cG cN cr cz gq dt dE eJ il gC gp dg dh dz di dj dk dl dG cQ dm dn dp dq cZ cR dr dd cO).bind fun cB => (if cB = true then (if cE = gv then (some (fh == iE)) else (some false)) else (some false))) else (some false))) = some r := H
    have pk := Aside0.mk kR
    clear kR
    replace H := Option.bind_eq_some_iff.mp H
    obtain ⟨db, hN, H⟩ := H
    replace H : (if db = true then ((roadbookref07_Same.f kj1 ba bf bc bk bm bp aQ aV bi cy cF cD cj cm ce cq cg co ck cu ch cG cN cr cz gq dt dE eJ il gC gp dg dh dz di dj dk dl dG cQ dm dn dp dq cZ cR dr dd cO).bind fun cB => (if cB = true then (if cE = gv then (some (fh == iE)) else (some false)) else (some false))) else (some false)) = some r := H
    have ln := Aside0.mk hN
    clear hN
    by_cases dB : db = true
    ·subst dB
     replace H := Sq.itT H
     replace H := Option.bind_eq_some_iff.mp H
     obtain ⟨cB, iu, H⟩ := H
     replace H : (if cB = true then (if cE = gv then (some (fh == iE)) else (some false)) else (some false)) = some r := H
     have mJ := Aside0.mk iu
     clear iu
     by_cases fd : cB = true
     ·subst fd
      replace H := Sq.itT H
      by_cases ej : cE = gv
      ·rw [if_pos ej] at H
       have gL : (cE == gv) = true := beq_iff_eq.mpr ej
       have hM : (cE != gv) = false := bne_eq_false_iff_eq.mpr ej
       clear ej
       obtain rfl := Option.some.inj H
       go_wp2_with (first | ((with_reducible refine Pre.gate_load 25 rfl ?_); (try (refine gate_guard Z13 ?_; dsimp only)); refine Pre.load_event rfl rfl rfl Z13 Z11 Try.underlying25 rfl Z6 ?_) | ((with_reducible refine gate_callee (f := 30) rfl ?_); refine goesL_ (some 26) rfl rfl Try.func30 Z6 rfl #[.string a0] rfl Z5 ?_; (with_reducible refine (rerr_Get.calls kj1 a0 ba bf bc bk bm bp aQ aV bi cy cF cD cj cm ce cq cg co ck cu ch cG cN cr cz cE fh _ lm.out).mono ?_); rintro e kz ⟨pF, nA, rfl, ho0, ho1, hb⟩; refine ⟨_, rfl, ?_⟩; have aG := Aside0.mk (Kd.R_lower ho0 (below_size Z3)); have aH := Aside0.mk (Kd.R_lower ho1 (below_size Z3)); have aI := Aside0.mk (below_step Z3 hb); have dx := aG; have cw := aH; replace HB := aI; clear aG aH aI; (try clear hb); (try clear hb2); (try clear hk); (try clear hi); (try clear ho0); (try clear ho1)) | ((with_reducible refine gate_dst (N := 3) rfl ?_); (try (refine gate_guard Z13 ?_; dsimp only)); refine box_event ?hg (N := 3) ?hd (cs := #[.int .i64 0, .int .i64 0, .int .i64 0, .string ⟨#[]⟩, .int .i64 0, .int .i64 0, .string ⟨#[]⟩, .int .i64 0, .int .i64 0, .string ⟨#[]⟩, .int .i64 0, .string ⟨#[]⟩, .int .i64 0, .int .i64 0, .int .i64 0, .int .i64 0, .int .i64 0, .int .i64 0, .int .i64 0, .string ⟨#[]⟩, .string ⟨#[]⟩, .slice none 0 0, .int .i64 0, .string ⟨#[]⟩, .slice none 0 0]) (t := 25) ?hr ?_; (case hd => rfl); (case hg => rfl); (case hr => first | (go_simp; done) | (go_simp; rfl)); intro dX hg kh hbox hb; have aG := Aside0.mk (Kd.R_below Z42 hb); have aH := Aside0.mk (Kd.R_below Z25 hb); have aI := Aside0.mk (below_step Z3 hb); have aZ := Aside0.mk (hbox); have bH := Aside0.mk ((by rw [hg]; exact (below_size Z3) : w.heap.size ≤ dX)); have cx := Aside0.mk ((by rw [hg]; exact (below_size Z3) : w.heap.size ≤ dX)); replace dx := aG; replace cw := aH; replace HB := aI; have em := aZ; have qw := bH; have kK := cx; clear aG aH aI aZ bH cx; clear hb hbox hg; have jh := cells_25 em.out; obtain ⟨kS, kT, eo20⟩ := Kd.R_slice dx.out; subst eo20; obtain ⟨kk, kl, eo21⟩ := Kd.R_slice cw.out; subst eo21) | ((with_reducible refine Pre.gate_store 25 rfl ?_); refine Pre.store_abs (cur := #[.int .i64 0, .int .i64 0, .int .i64 0, .string ⟨#[]⟩, .int .i64 0, .int .i64 0, .string ⟨#[]⟩, .int .i64 0, .int .i64 0, .string ⟨#[]⟩, .int .i64 0, .string ⟨#[]⟩, .int .i64 0, .int .i64 0, .int .i64 0, .int .i64 0, .int .i64 0, .int .i64 0, .int .i64 0, .string ⟨#[]⟩, .string ⟨#[]⟩, .slice none 0 0, .int .i64 0, .string ⟨#[]⟩, .slice none 0 0]) (e := 25) rfl rfl rfl Z13 Z13 Z31 Z6 Z13 Z13 ?_; intro ij hbS_ sS_; have aG : Aside0 (Kd.R k46 46 ij w.heap.size (fun _ => True) (.slice kS cG.length kT) cG) := ⟨Kd.R_mono (Pre.R_sets sS_ (Kd.R_types dx.out em.out Z32) (fun _ hk => hk.2)) (fun _ hk => trivial)⟩; have aH : Aside0 (Kd.R k48 48 ij w.heap.size (fun _ => True) (.slice kk cz.length kl) cz) := ⟨Kd.R_mono (Pre.R_sets sS_ (Kd.R_types cw.out em.out Z32) (fun _ hk => hk.2)) (fun _ hk => trivial)⟩; have aI : Aside0 (ij.heap[dX]? = some (.cells #[.int .i64 ba, .int .i64 bf, .int .i64 bc, .string bk, .int .i64 bm, .int .i64 bp, .string aQ, .int .i64 aV, .int .i64 bi, .string cy, .int .i64 cF, .string cD, .int .i64 cj, .int .i64 cm, .int .i64 ce, .int .i64 cq, .int .i64 cg, .int .i64 co, .int .i64 ck, .string cu, .string ch, .slice kS cG.length kT, .int .i64 cN, .string cr, .slice kk cz.length kl] 25 (0, 0))) := ⟨hbS_⟩; have aZ : Aside0 (Below w.heap.size w ij) := ⟨sS_.below Z28 kK.out⟩; clear hbS_ sS_; replace dx := aG; replace cw := aH; replace em := aI; replace HB := aZ; clear aG aH aI aZ) | ((with_reducible refine gate_callee (f := 31) rfl ?_); refine goesL_ (some 32) rfl rfl Try.func31 Z6 rfl #[.string a0] rfl Z5 ?_; (with_reducible refine (roadbookref16_Get.calls kj1 a0 gq dt dE eJ il gC gp dg dh dz di dj dk dl dG cQ dm dn dp dq cZ cR dr dd cO gv iE _ pk.out).mono ?_); rintro e gn ⟨tb, pM, rfl, ho0, ho1, hb⟩; refine ⟨_, rfl, ?_⟩; have aG := Aside0.mk (Kd.R_elder' Z42 (Kd.R_base ho0) hb); have aH := Aside0.mk (Kd.R_elder' Z25 (Kd.R_base ho1) hb); have aI := Aside0.mk (Kd.R_lower (Kd.R_new' ho0 (Kd.R_lt Z42)) (below_size Z28)); have aZ := Aside0.mk (Kd.R_lower (Kd.R_new' ho1 (Kd.R_lt Z25)) (below_size Z28)); have bH := Aside0.mk (blk_below (g := dX) Z31 hb); have cx := Aside0.mk (below_step Z28 hb); replace dx := aG; replace cw := aH; have gr := aI; have gs := aZ; replace em := bH; replace HB := cx; clear aG aH aI aZ bH cx; (try clear hb); (try clear hb2); (try clear hk); (try clear hi); (try clear ho0); (try clear ho1)) | ((with_reducible refine gate_dst (N := 6) rfl ?_); (try (refine gate_guard Z13 ?_; dsimp only)); refine box_event ?hg (N := 6) ?hd (cs := #[.int .i64 0, .int .i64 0, .int .i64 0, .string ⟨#[]⟩, .int .i64 0, .int .i64 0, .string ⟨#[]⟩, .int .i64 0, .int .i64 0, .string ⟨#[]⟩, .int .i64 0, .string ⟨#[]⟩, .int .i64 0, .int .i64 0, .int .i64 0, .int .i64 0, .int .i64 0, .int .i64 0, .int .i64 0, .string ⟨#[]⟩, .string ⟨#[]⟩, .slice none 0 0, .int .i64 0, .string ⟨#[]⟩, .slice none 0 0]) (t := 25) ?hr ?_; (case hd => rfl); (case hg => rfl); (case hr => first | (go_simp; done) | (go_simp; rfl)); intro gH hg ed hbox hb; have aG := Aside0.mk (Kd.R_below Z42 hb); have aH := Aside0.mk (Kd.R_below Z25 hb); have aI := Aside0.mk (Kd.R_below Z76 hb); have aZ := Aside0.mk (Kd.R_below Z75 hb); have bH := Aside0.mk (blk_below (g := dX) Z31 hb); have cx := Aside0.mk (below_step Z28 hb); have du := Aside0.mk (hbox); have gE := Aside0.mk ((by rw [hg]; exact (below_size Z28) : w.heap.size ≤ gH)); have hC := Aside0.mk ((by rw [hg]; exact (below_size Z28) : w.heap.size ≤ gH)); have jL := Aside0.mk ((by rw [hg]; exact Nat.ne_of_lt (blk_lt (g := dX) Z31) : dX ≠ gH)); have iL := Aside0.mk ((by rw [hg]; exact Nat.ne_of_gt (blk_lt (g := dX) Z31) : gH ≠ dX)); replace dx := aG; replace cw := aH; replace gr := aI; replace gs := aZ; replace em := bH; replace HB := cx; have eX := du; have qx := gE; have lx := hC; have hj := jL; have iP := iL; clear aG aH aI aZ bH cx du gE hC jL iL; clear hb hbox hg; have pd := iP.out; have pe := hj.out; have iO := cells_25 eX.out; obtain ⟨mT, mU, eo27⟩ := Kd.R_slice gr.out; subst eo27; obtain ⟨hZ, ia, eo28⟩ := Kd.R_slice gs.out; subst eo28) | ((with_reducible refine Pre.gate_store 25 rfl ?_); refine Pre.store_abs (cur := #[.int .i64 0, .int .i64 0, .int .i64 0, .string ⟨#[]⟩, .int .i64 0, .int .i64 0, .string ⟨#[]⟩, .int .i64 0, .int .i64 0, .string ⟨#[]⟩, .int .i64 0, .string ⟨#[]⟩, .int .i64 0, .int .i64 0, .int .i64 0, .int .i64 0, .int .i64 0, .int .i64 0, .int .i64 0, .string ⟨#[]⟩, .string ⟨#[]⟩, .slice none 0 0, .int .i64 0, .string ⟨#[]⟩, .slice none 0 0]) (e := 25) rfl rfl rfl Z13 Z13 Z67 Z6 Z13 Z13 ?_; intro hX hbS_ sS_; have aG : Aside0 (Kd.R k46 46 hX w.heap.size (fun k_ => some k_ ≠ (.slice mT cR.length mU : Value).ownBlock) (.slice kS cG.length kT) cG) := ⟨Kd.R_mono (Pre.R_sets sS_ (Kd.R_types dx.out eX.out Z32) (fun _ hk => hk.2)) (fun _ hk => hk.1.2)⟩; have aH : Aside0 (Kd.R k48 48 hX w.heap.size (fun k_ => some k_ ≠ (.slice hZ cO.length ia : Value).ownBlock) (.slice kk cz.length kl) cz) := ⟨Kd.R_mono (Pre.R_sets sS_ (Kd.R_types cw.out eX.out Z32) (fun _ hk => hk.2)) (fun _ hk => hk.1.2)⟩; have aI : Aside0 (Kd.R k46 46 hX w.heap.size (fun k_ => some k_ ≠ (.slice kS cG.length kT : Value).ownBlock) (.slice mT cR.length mU) cR) := ⟨Kd.R_mono (Pre.R_sets sS_ (Kd.R_types gr.out eX.out Z32) (fun _ hk => hk.2)) (fun _ hk => hk.1.2)⟩; have aZ : Aside0 (Kd.R k48 48 hX w.heap.size (fun k_ => some k_ ≠ (.slice kk cz.length kl : Value).ownBlock) (.slice hZ cO.length ia) cO) := ⟨Kd.R_mono (Pre.R_sets sS_ (Kd.R_types gs.out eX.out Z32) (fun _ hk => hk.2)) (fun _ hk => hk.1.2)⟩; have bH : Aside0 (hX.heap[dX]? = some (.cells #[.int .i64 ba, .int .i64 bf, .int .i64 bc, .string bk, .int .i64 bm, .int .i64 bp, .string aQ, .int .i64 aV, .int .i64 bi, .string cy, .int .i64 cF, .string cD, .int .i64 cj, .int .i64 cm, .int .i64 ce, .int .i64 cq, .int .i64 cg, .int .i64 co, .int .i64 ck, .string cu, .string ch, .slice kS cG.length kT, .int .i64 cN, .string cr, .slice kk cz.length kl] 25 (0, 0))) := ⟨sS_.blk Z31 hj.out⟩; have cx : Aside0 (hX.heap[gH]? = some (.cells #[.int .i64 gq, .int .i64 dt, .int .i64 dE, .string eJ, .int .i64 il, .int .i64 gC, .string gp, .int .i64 dg, .int .i64 dh, .string dz, .int .i64 di, .string dj, .int .i64 dk, .int .i64 dl, .int .i64 dG, .int .i64 cQ, .int .i64 dm, .int .i64 dn, .int .i64 dp, .string dq, .string cZ, .slice mT cR.length mU, .int .i64 dr, .string dd, .slice hZ cO.length ia] 25 (0, 0))) := ⟨hbS_⟩; have du : Aside0 (Below w.heap.size w hX) := ⟨sS_.below Z36 lx.out⟩; clear hbS_ sS_; replace dx := aG; replace cw := aH; replace gr := aI; replace gs := aZ; replace em := bH; replace eX := cx; replace HB := du; clear aG aH aI aZ bH cx du) | ((with_reducible refine gate_callee (f := 25) rfl ?_); refine goesL_ (some 36) rfl rfl Try.func25 Z6 rfl #[] rfl Z5 ?_; (with_reducible refine (roadbooklaw16_awake.calls kj1  true _ (Aside0.mk Z89) ln.out).mono ?_); rintro e gM ⟨rfl, hb⟩; refine ⟨_, rfl, ?_⟩; have aG := Aside0.mk (Kd.R_below Z42 hb); have aH := Aside0.mk (Kd.R_below Z25 hb); have aI := Aside0.mk (Kd.R_below Z76 hb); have aZ := Aside0.mk (Kd.R_below Z75 hb); have bH := Aside0.mk (blk_below (g := dX) Z31 hb); have cx := Aside0.mk (blk_below (g := gH) Z67 hb); have du := Aside0.mk (below_step Z36 hb); replace dx := aG; replace cw := aH; replace gr := aI; replace gs := aZ; replace em := bH; replace eX := cx; replace HB := du; clear aG aH aI aZ bH cx du; (try clear hb); (try clear hb2); (try clear hk); (try clear hi); have mc := cells_25 em.out; have ni := cells_25 eX.out) | (go_at_call 24; (with_reducible refine (roadbookref07_Same.calls kj1 ba bf bc bk bm bp aQ aV bi cy cF cD cj cm ce cq cg co ck cu ch _ _ cG cN cr _ _ cz gq dt dE eJ il gC gp dg dh dz di dj dk dl dG cQ dm dn dp dq cZ _ _ cR dr dd _ _ cO true _ ?side1 ?side2 ?side3 ?side4 ?side5 ?side6 ?side7 ?side8 mJ.out).mono ?_); (case side1 => exact Z110); (case side2 => exact (Kd.R_reads' dx.out).2.1); (case side3 => exact Z70); (case side4 => exact (Kd.R_reads' cw.out).2.1); (case side5 => exact Z108); (case side6 => exact (Kd.R_reads' gr.out).2.1); (case side7 => exact Z107); (case side8 => exact (Kd.R_reads' gs.out).2.1); rintro e iH ⟨rfl, hb⟩; have aG := Aside0.mk (Kd.R_below Z42 hb); have aH := Aside0.mk (Kd.R_below Z25 hb); have aI := Aside0.mk (Kd.R_below Z76 hb); have aZ := Aside0.mk (Kd.R_below Z75 hb); have bH := Aside0.mk (blk_below (g := dX) Z31 hb); have cx := Aside0.mk (blk_below (g := gH) Z67 hb); have du := Aside0.mk (below_step Z36 hb); replace dx := aG; replace cw := aH; replace gr := aI; replace gs := aZ; replace em := bH; replace eX := cx; replace HB := du; clear aG aH aI aZ bH cx du; (try clear hb); (try clear hb2); (try clear hk); (try clear hi)))
       go_ret
       exact ⟨Z9, Z36⟩
      ·rw [if_neg ej] at H
       have gL : (cE == gv) = false := beq_eq_false_iff_ne.mpr ej
       have hM : (cE != gv) = true := bne_iff_ne.mpr ej
       exact absurd (Option.some.inj H) Z30
     ·replace fd := Bool.eq_false_iff.mpr fd
      subst fd
      replace H := Sq.itF H
      exact absurd (Option.some.inj H) Z30
    ·replace dB := Bool.eq_false_iff.mpr dB
     subst dB
     replace H := Sq.itF H
     exact absurd (Option.some.inj H) Z30

/-- THE ONE PURE STATEMENT of roadbooklaw16_RerrGets: yours. -/
def roadbooklaw16_RerrGets.Pure : Prop := ∀ (a0 : ByteArray), a0.size ≤ 140737488351232 → ∃ k, roadbooklaw16_RerrGets.f k a0 = some true
theorem roadbooklaw16_RerrGets.walk (P : roadbooklaw16_RerrGets.Pure) (a0 : ByteArray) (w : World) (w0 : a0.size ≤ 140737488351232) :
  Calls Try.prog 7 #[.string a0] w fun e w' => e = .returned (.bool true) ∧ Below w.heap.size w w' := by
 obtain ⟨k, h⟩ := P a0 w0
 refine (roadbooklaw16_RerrGets.calls k a0 true w (Aside0.mk rfl) h).mono ?_
 rintro e w' ⟨rfl, hd⟩
 exact ⟨rfl, hd⟩

end Go.Proofs.Ytccjakjjaemmkaa.PR
