-- Written by mp.py, a program of this work (wip/tools), out of the translation; Lean checks it.
import Derived.Test.YtelcciekdoccfaaPMxZ
import Derived.Test.YtelcciekdoccfaaPMxmsgSameAll
import Derived.Test.YtelcciekdoccfaaPMxroadbooklaw07
import Derived.Test.YtelcciekdoccfaaPMxroadbookref07
import Derived.Test.YtelcciekdoccfaaPMxroadbookref07SameAll
namespace Go.Proofs.Ytelcciekdoccfaa.PM
open Go.RowKit Go.Proofs.YtelcciekdoccfaaW.PrintWords Go.Proofs.YtelcciekdoccfaaW.PrintLast Go.Proofs.YtelcciekdoccfaaW.PrintMore
attribute [local go_sem] max2_int min2_int max_two min_two max_three min_three max_four min_four   -- for this text's walks alone
set_option linter.unusedVariables false
set_option linter.unusedSimpArgs false

/-! ### roadbooklaw07_MsgLists: function 16 -/
def roadbooklaw07_MsgLists.j0 : Nat → List (S58) → List (S58) → Bool → Option (Bool)
 | 0, _, _, _ => none
 | k + 1, x0, x1, fS => if fS = true then ((roadbooklaw07_awake.f k).bind fun cC => (some cC)) else ((roadbooklaw07_awake.f k).bind fun de => (if de = true then ((msg_SameAll.f k x0 x1).bind fun dI => ((roadbookref07_SameAll.f k x0 x1).bind fun dJ => (if (dI == dJ) = true then ((msg_SameAll.f k x0 x0).bind fun cK => (some cK)) else (some false)))) else (some false)))
def roadbooklaw07_MsgLists.f (k : Nat) (l0 : List (S58)) (l1 : List (S58)) : Option (Bool) := (roadbookref07_FewAll.f k l0 20).bind fun fo => (if fo = true then ((roadbookref07_FewAll.f k l1 20).bind fun dy => (roadbooklaw07_MsgLists.j0 k l0 l1 (!dy))) else (roadbooklaw07_MsgLists.j0 k l0 l1 true))
theorem roadbooklaw07_MsgLists.mono_l : ∀ k, (∀ y0 y1 y2, LeO (roadbooklaw07_MsgLists.j0 k y0 y1 y2) (roadbooklaw07_MsgLists.j0 (k + 1) y0 y1 y2))
 | 0 => fun _ _ _ r h => by simp [roadbooklaw07_MsgLists.j0] at h
 | k + 1 => by
  have ih0 := roadbooklaw07_MsgLists.mono_l k
  ·intro y0 y1 y2
   unfold roadbooklaw07_MsgLists.j0
   repeat' first
   | (with_reducible exact ih0 ..)
   | (with_reducible exact msg_SameAll.mono _ _ _)
   | (with_reducible exact roadbooklaw07_awake.mono _)
   | (with_reducible exact roadbookref07_FewAll.mono _ _ _)
   | (with_reducible exact roadbookref07_SameAll.mono _ _ _)
   | (with_reducible exact LeO.refl _)
   | (with_reducible exact LeO.none _)
   | (with_reducible refine LeO.ite ?_ ?_)
   | (with_reducible refine LeO.bind ?_ (fun _ => ?_))
   | exact ih0 ..
   | exact msg_SameAll.mono _ _ _
   | exact roadbooklaw07_awake.mono _
   | exact roadbookref07_FewAll.mono _ _ _
   | exact roadbookref07_SameAll.mono _ _ _
   | exact LeO.none _
   | refine LeO.ite ?_ ?_
   | refine LeO.bind ?_ (fun _ => ?_)
theorem roadbooklaw07_MsgLists.mono : ∀ a0 a1 k, LeO (roadbooklaw07_MsgLists.f k a0 a1) (roadbooklaw07_MsgLists.f (k + 1) a0 a1) := by
 intro a0 a1 k
 have ih0 := roadbooklaw07_MsgLists.mono_l k
 unfold roadbooklaw07_MsgLists.f
 repeat' first
   | (with_reducible exact ih0 ..)
   | (with_reducible exact msg_SameAll.mono _ _ _)
   | (with_reducible exact roadbooklaw07_awake.mono _)
   | (with_reducible exact roadbookref07_FewAll.mono _ _ _)
   | (with_reducible exact roadbookref07_SameAll.mono _ _ _)
   | (with_reducible exact LeO.refl _)
   | (with_reducible exact LeO.none _)
   | (with_reducible refine LeO.ite ?_ ?_)
   | (with_reducible refine LeO.bind ?_ (fun _ => ?_))
   | exact ih0 ..
   | exact msg_SameAll.mono _ _ _
   | exact roadbooklaw07_awake.mono _
   | exact roadbookref07_FewAll.mono _ _ _
   | exact roadbookref07_SameAll.mono _ _ _
   | exact LeO.none _
   | refine LeO.ite ?_ ?_
   | refine LeO.bind ?_ (fun _ => ?_)
set_option maxHeartbeats 8000000 in
set_option maxRecDepth 100000 in
theorem roadbooklaw07_MsgLists.calls (k : Nat) (A0 : Option Addr) (c0 : Nat) (l0 : List (S58)) (A1 : Option Addr) (c1 : Nat) (l1 : List (S58)) (r : Bool) (w : World) (dm : Kd.C k58 w A0 l0.length l0) (cU : l0.length ≤ c0) (fh : Kd.C k58 w A1 l1.length l1) (fi : l1.length ≤ c1) (hr_ : Aside0 (r = true)) (h : roadbooklaw07_MsgLists.f k l0 l1 = some r) :
  Calls Try.prog 16 #[.slice A0 l0.length c0, .slice A1 l1.length c1] w fun e w' => e = .returned (.bool r) ∧ Below w.heap.size w w' := by
 have df := Aside0.mk dm
 have fP := Aside0.mk cU
 clear dm cU
 have fj := Aside0.mk fh
 have ig := Aside0.mk fi
 clear fh fi
 have HB := Aside0.mk (Below.refl w.heap.size w)
 have H : ((roadbookref07_FewAll.f k l0 20).bind fun fo => (if fo = true then ((roadbookref07_FewAll.f k l1 20).bind fun dy => (roadbooklaw07_MsgLists.j0 k l0 l1 (!dy))) else (roadbooklaw07_MsgLists.j0 k l0 l1 true))) = some r := h
 clear h
 have cB := Aside0.mk H
 clear H
 go_enter Try.func16, Try.ntmps16
 go_upto_region 1 with (fail)
 go_cut [12] (fun fu wc => ∃ (kq : Nat) (x12_2 : Bool), fu = .bool x12_2 ∧ Aside0 (roadbooklaw07_MsgLists.j0 kq l0 l1 x12_2 = some r) ∧ Aside0 (kq ≤ k) ∧ Aside0 (Below w.heap.size w wc))
 case first =>
  have H := cB.out
  clear cB
  replace H := Option.bind_eq_some_iff.mp H
  obtain ⟨fo, iL, H⟩ := H
  replace H : (if fo = true then ((roadbookref07_FewAll.f k l1 20).bind fun dy => (roadbooklaw07_MsgLists.j0 k l0 l1 (!dy))) else (roadbooklaw07_MsgLists.j0 k l0 l1 true)) = some r := H
  have A4 := Aside0.mk iL
  clear iL
  by_cases c5 : fo = true
  ·subst c5
   replace H := Sq.itT H
   replace H := Option.bind_eq_some_iff.mp H
   obtain ⟨dy, hI, H⟩ := H
   replace H : (roadbooklaw07_MsgLists.j0 k l0 l1 (!dy)) = some r := H
   have A6 := Aside0.mk hI
   clear hI
   have H' := Aside0.mk H
   clear H
   go_wp2_with (first | ((with_reducible refine gate_callee (f := 63) rfl ?_); refine goesL_ (some 6) rfl rfl Try.func63 Z5 rfl #[.slice A0 l0.length c0, .int .i64 20] rfl Z9 ?_; (with_reducible refine (roadbookref07_FewAll.calls k _ _ l0 20 true _ ?side1 ?side2 A4.out).mono ?_); (case side1 => exact (by repeat (first | exact (Kd.C_below df.out HB.out) | (with_reducible refine Kd.C_alloc ?_ _) | (with_reducible refine Kd.C_drewN ?_ _) | (with_reducible refine Kd.C_drew ?_)))); (case side2 => exact fP.out); rintro e w7 ⟨rfl, hb⟩; refine ⟨_, rfl, ?_⟩; have aH := Aside0.mk (below_step Z0 hb); replace HB := aH; clear aH; (try clear hb); (try clear hb2); (try clear hk); (try clear hi)) | (go_at_call 63; (with_reducible refine (roadbookref07_FewAll.calls k _ _ l1 20 dy _ ?side1 ?side2 A6.out).mono ?_); (case side1 => exact (by repeat (first | exact (Kd.C_below fj.out HB.out) | (with_reducible refine Kd.C_alloc ?_ _) | (with_reducible refine Kd.C_drewN ?_ _) | (with_reducible refine Kd.C_drew ?_)))); (case side2 => exact ig.out); rintro e w8 ⟨rfl, hb⟩; have aH := Aside0.mk (below_step Z0 hb); replace HB := aH; clear aH; (try clear hb); (try clear hb2); (try clear hk); (try clear hi)))
   go_meet
   case rel => exact ⟨_, (!dy), Z7, H', ⟨Z31⟩, ⟨Z0⟩⟩
  ·replace c5 := Bool.eq_false_iff.mpr c5
   subst c5
   replace H := Sq.itF H
   have H' := Aside0.mk H
   clear H
   go_wp2_with (first | ((with_reducible refine gate_callee (f := 63) rfl ?_); refine goesL_ (some 6) rfl rfl Try.func63 Z5 rfl #[.slice A0 l0.length c0, .int .i64 20] rfl Z9 ?_; (with_reducible refine (roadbookref07_FewAll.calls k _ _ l0 20 false _ ?side1 ?side2 A4.out).mono ?_); (case side1 => exact (by repeat (first | exact (Kd.C_below df.out HB.out) | (with_reducible refine Kd.C_alloc ?_ _) | (with_reducible refine Kd.C_drewN ?_ _) | (with_reducible refine Kd.C_drew ?_)))); (case side2 => exact fP.out); rintro e w9 ⟨rfl, hb⟩; refine ⟨_, rfl, ?_⟩; have aH := Aside0.mk (below_step Z0 hb); replace HB := aH; clear aH; (try clear hb); (try clear hb2); (try clear hk); (try clear hi)))
   go_meet
   case rel => exact ⟨_, (true), Z7, H', ⟨Z31⟩, ⟨Z0⟩⟩
 case rest =>
  clear cB
  try clear c1
  obtain ⟨kq, x12_2, rfl, HA, HJ2, HB⟩ := hcut
  cases kq with
  | zero => exact absurd HA.out (by simp [roadbooklaw07_MsgLists.j0])
  | succ kj2 =>
   have H := HA.out
   clear HA
   simp only [roadbooklaw07_MsgLists.j0] at H
   by_cases dx : x12_2 = true
   ·subst dx
    replace H := Sq.itT H
    replace H := Option.bind_eq_some_iff.mp H
    obtain ⟨cC, A110, H⟩ := H
    replace H : (some cC) = some r := H
    have A11 := Aside0.mk A110
    clear A110
    obtain rfl := Option.some.inj H
    go_wp2_with (first | ((with_reducible refine gate_callee (f := 49) rfl ?_); refine goesL_ (some 13) rfl rfl Try.func49 Z5 rfl #[] rfl Z9 ?_; (with_reducible refine (roadbooklaw07_awake.calls kj2  cC _ (Aside0.mk (by first | rfl | exact hr_.out)) A11.out).mono ?_); rintro e iP ⟨rfl, hb⟩; refine ⟨_, rfl, ?_⟩; have aH := Aside0.mk (below_step Z0 hb); replace HB := aH; clear aH; (try clear hb); (try clear hb2); (try clear hk); (try clear hi)))
    go_ret
    exact ⟨Z8, Z0⟩
   ·replace dx := Bool.eq_false_iff.mpr dx
    subst dx
    replace H := Sq.itF H
    replace H := Option.bind_eq_some_iff.mp H
    obtain ⟨de, A130, H⟩ := H
    replace H : (if de = true then ((msg_SameAll.f kj2 l0 l1).bind fun dI => ((roadbookref07_SameAll.f kj2 l0 l1).bind fun dJ => (if (dI == dJ) = true then ((msg_SameAll.f kj2 l0 l0).bind fun cK => (some cK)) else (some false)))) else (some false)) = some r := H
    have A13 := Aside0.mk A130
    clear A130
    by_cases fr : de = true
    ·subst fr
     replace H := Sq.itT H
     replace H := Option.bind_eq_some_iff.mp H
     obtain ⟨dI, A150, H⟩ := H
     replace H : ((roadbookref07_SameAll.f kj2 l0 l1).bind fun dJ => (if (dI == dJ) = true then ((msg_SameAll.f kj2 l0 l0).bind fun cK => (some cK)) else (some false))) = some r := H
     have A15 := Aside0.mk A150
     clear A150
     replace H := Option.bind_eq_some_iff.mp H
     obtain ⟨dJ, A160, H⟩ := H
     replace H : (if (dI == dJ) = true then ((msg_SameAll.f kj2 l0 l0).bind fun cK => (some cK)) else (some false)) = some r := H
     have A16 := Aside0.mk A160
     clear A160
     by_cases hO : (dI == dJ) = true
     ·rw [if_pos hO] at H
      have c17b0 : (dI == dJ) = true := hO
      (try (have c17b1 : decide (dI = dJ) = true := by simpa using hO))
      (try (have c17b2 : (dI == dJ) = true := by simpa using hO))
      clear hO
      replace H := Option.bind_eq_some_iff.mp H
      obtain ⟨cK, A180, H⟩ := H
      replace H : (some cK) = some r := H
      have A18 := Aside0.mk A180
      clear A180
      obtain rfl := Option.some.inj H
      go_wp2_with (first | ((with_reducible refine gate_callee (f := 49) rfl ?_); refine goesL_ (some 14) rfl rfl Try.func49 Z5 rfl #[] rfl Z9 ?_; (with_reducible refine (roadbooklaw07_awake.calls kj2  true _ (Aside0.mk (by first | rfl | exact hr_.out)) A13.out).mono ?_); rintro e w19 ⟨rfl, hb⟩; refine ⟨_, rfl, ?_⟩; have aH := Aside0.mk (below_step Z0 hb); replace HB := aH; clear aH; (try clear hb); (try clear hb2); (try clear hk); (try clear hi)) | (go_at_call 64; (with_reducible refine (msg_SameAll.calls kj2 _ _ l0 _ _ l1 dI _ ?side1 ?side2 ?side3 ?side4 A15.out).mono ?_); (case side1 => exact (by repeat (first | exact (Kd.C_below df.out HB.out) | (with_reducible refine Kd.C_alloc ?_ _) | (with_reducible refine Kd.C_drewN ?_ _) | (with_reducible refine Kd.C_drew ?_)))); (case side2 => exact fP.out); (case side3 => exact (by repeat (first | exact (Kd.C_below fj.out HB.out) | (with_reducible refine Kd.C_alloc ?_ _) | (with_reducible refine Kd.C_drewN ?_ _) | (with_reducible refine Kd.C_drew ?_)))); (case side4 => exact ig.out); rintro e iR ⟨rfl, hb⟩; have aH := Aside0.mk (below_step Z0 hb); replace HB := aH; clear aH; (try clear hb); (try clear hb2); (try clear hk); (try clear hi)) | (go_at_call 65; (with_reducible refine (roadbookref07_SameAll.calls kj2 _ _ l0 _ _ l1 dJ _ ?side1 ?side2 ?side3 ?side4 A16.out).mono ?_); (case side1 => exact (by repeat (first | exact (Kd.C_below df.out HB.out) | (with_reducible refine Kd.C_alloc ?_ _) | (with_reducible refine Kd.C_drewN ?_ _) | (with_reducible refine Kd.C_drew ?_)))); (case side2 => exact fP.out); (case side3 => exact (by repeat (first | exact (Kd.C_below fj.out HB.out) | (with_reducible refine Kd.C_alloc ?_ _) | (with_reducible refine Kd.C_drewN ?_ _) | (with_reducible refine Kd.C_drew ?_)))); (case side4 => exact ig.out); rintro e w21 ⟨rfl, hb⟩; have aH := Aside0.mk (below_step Z0 hb); replace HB := aH; clear aH; (try clear hb); (try clear hb2); (try clear hk); (try clear hi)) | (go_at_call 64; (with_reducible refine (msg_SameAll.calls kj2 _ _ l0 _ _ l0 cK _ ?side1 ?side2 ?side3 ?side4 A18.out).mono ?_); (case side1 => exact (by repeat (first | exact (Kd.C_below df.out HB.out) | (with_reducible refine Kd.C_alloc ?_ _) | (with_reducible refine Kd.C_drewN ?_ _) | (with_reducible refine Kd.C_drew ?_)))); (case side2 => exact fP.out); (case side3 => exact (by repeat (first | exact (Kd.C_below df.out HB.out) | (with_reducible refine Kd.C_alloc ?_ _) | (with_reducible refine Kd.C_drewN ?_ _) | (with_reducible refine Kd.C_drew ?_)))); (case side4 => exact fP.out); rintro e w22 ⟨rfl, hb⟩; have aH := Aside0.mk (below_step Z0 hb); replace HB := aH; clear aH; (try clear hb); (try clear hb2); (try clear hk); (try clear hi)))
      go_ret
      exact ⟨Z8, Z0⟩
     ·rw [if_neg hO] at H
      have c17b0 : (dI == dJ) = false := by first | exact Bool.eq_false_iff.mpr hO | simpa using hO
      (try (have c17b1 : decide (dI = dJ) = false := by simpa using hO))
      (try (have c17b2 : (dI == dJ) = false := by simpa using hO))
      (try (have c17b3 : ¬ (dI = dJ) := by simpa using hO))
      clear hO
      exact absurd (Option.some.inj H) (by rw [hr_.out]; exact Bool.false_ne_true)
    ·replace fr := Bool.eq_false_iff.mpr fr
     subst fr
     replace H := Sq.itF H
     exact absurd (Option.some.inj H) (by rw [hr_.out]; exact Bool.false_ne_true)

end Go.Proofs.Ytelcciekdoccfaa.PM
