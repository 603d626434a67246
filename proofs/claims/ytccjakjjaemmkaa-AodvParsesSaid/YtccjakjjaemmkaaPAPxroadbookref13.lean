-- Written by mp.py, a program of this work (wip/tools), out of the translation; Lean checks it.
import Derived.Test.YtccjakjjaemmkaaPAPxZ
namespace Go.Proofs.Ytccjakjjaemmkaa.PAP
open Go.RowKit Go.Proofs.YtccjakjjaemmkaaW.PrintWords Go.Proofs.YtccjakjjaemmkaaW.PrintLast Go.Proofs.YtccjakjjaemmkaaW.PrintMore
attribute [local go_sem] max2_int min2_int max_two min_two max_three min_three max_four min_four   -- for this text's walks alone
set_option linter.unusedVariables false
set_option linter.unusedSimpArgs false

/-! ### roadbookref13_Get: function 63 -/
def roadbookref13_Get.l0 : Nat → ByteArray → List (S48) → Int → Option ((List (S48)) × Int × Int)
 | 0, _, _, _ => none
 | k + 1, x0, x5, x6 => if x6 < (x0.size : Int) then (if (wrap64 ((x0.size : Int) - x6)) < 2 then (some (([] : List (S48)), x6, 2)) else (if 0 ≤ (wrap64 (x6 + 1)) then (if (wrap64 (x6 + 1)) < (x0.size : Int) then (if (wrap64 ((wrap64 ((x0.size : Int) - x6)) - 2)) < (wrap64 (bt x0 (wrap64 (x6 + 1)))) then (some (([] : List (S48)), x6, 2)) else (if 0 ≤ x6 then (if 0 ≤ (wrap64 (x6 + 2)) then (if (wrap64 (x6 + 2)) ≤ (wrap64 ((wrap64 (x6 + 2)) + (wrap64 (bt x0 (wrap64 (x6 + 1)))))) then (if (wrap64 ((wrap64 (x6 + 2)) + (wrap64 (bt x0 (wrap64 (x6 + 1)))))) ≤ (x0.size : Int) then (if x5.length < 5864062014805 then (roadbookref13_Get.l0 k x0 (x5 ++ [(⟨wrap64 (bt x0 x6), x0.extract ((wrap64 (x6 + 2)) : Int).toNat ((wrap64 ((wrap64 (x6 + 2)) + (wrap64 (bt x0 (wrap64 (x6 + 1)))))) : Int).toNat⟩ : S48)]) (wrap64 ((wrap64 (x6 + 2)) + (wrap64 (bt x0 (wrap64 (x6 + 1))))))) else (none)) else (none)) else (none)) else (none)) else (none))) else (none)) else (none))) else (some (x5, 0, 0))
def roadbookref13_Get.f (k : Nat) (a0 : ByteArray) : Option ((List (S48)) × Int × Int) := roadbookref13_Get.l0 k a0 ([] : List (S48)) 0
theorem roadbookref13_Get.mono_l : ∀ k, (∀ y0 y1 y2, LeO (roadbookref13_Get.l0 k y0 y1 y2) (roadbookref13_Get.l0 (k + 1) y0 y1 y2))
 | 0 => fun _ _ _ r h => by simp [roadbookref13_Get.l0] at h
 | k + 1 => by
  have ih0 := roadbookref13_Get.mono_l k
  ·intro y0 y1 y2
   unfold roadbookref13_Get.l0
   repeat' first
   | (with_reducible exact ih0 ..)
   | (with_reducible exact LeO.refl _)
   | (with_reducible exact LeO.none _)
   | (with_reducible refine LeO.ite ?_ ?_)
   | (with_reducible refine LeO.bind ?_ (fun _ => ?_))
   | exact ih0 ..
   | exact LeO.none _
   | refine LeO.ite ?_ ?_
   | refine LeO.bind ?_ (fun _ => ?_)
theorem roadbookref13_Get.mono : ∀ a0 k, LeO (roadbookref13_Get.f k a0) (roadbookref13_Get.f (k + 1) a0) := by
 intro a0 k
 have ih0 := roadbookref13_Get.mono_l k
 unfold roadbookref13_Get.f
 repeat' first
   | (with_reducible exact ih0 ..)
   | (with_reducible exact LeO.refl _)
   | (with_reducible exact LeO.none _)
   | (with_reducible refine LeO.ite ?_ ?_)
   | (with_reducible refine LeO.bind ?_ (fun _ => ?_))
   | exact ih0 ..
   | exact LeO.none _
   | refine LeO.ite ?_ ?_
   | refine LeO.bind ?_ (fun _ => ?_)
def roadbookref13_Get.T7 : Bool × List (List Nat × List Nat) := (true, [([], []), ([], []), ([], []), ([1, 2], [1, 2]), ([3], [3]), ([], []), ([], []), ([6], [6]), ([], []), ([8], [8]), ([], []), ([9, 10], [9, 10]), ([5, 7, 11], [5, 7, 11]), ([4, 12], [4, 12]), ([13], [13]), ([0, 14], [0, 14]), ([15, 15, 0, 1, 2, 3, 4, 5, 6, 7, 8, 9, 10, 11, 12, 13, 14, 15], [0, 15])])
def roadbookref13_Get.B7 : List Nat := [0, 0, 0, 6, 14, 0, 0, 64, 0, 256, 0, 1792, 4064, 8190, 16382, 32767, 65535]
theorem roadbookref13_Get.tab7 : rtab .any (opsOf Try.f63 7) = roadbookref13_Get.T7 := by kernel_rfl
theorem roadbookref13_Get.bits7 : waitsOk roadbookref13_Get.T7.2 roadbookref13_Get.B7 = true := by kernel_rfl
set_option maxHeartbeats 8000000 in
set_option maxRecDepth 100000 in
theorem roadbookref13_Get.calls (k : Nat) (a0 : ByteArray) (r1 : List (S48)) (r2 : Int) (r3 : Int) (w : World) (h : roadbookref13_Get.f k a0 = some (r1, r2, r3)) :
  Calls Try.prog 63 #[.string a0] w fun e w' => ∃ v0_ : Value, e = .returned (.tuple #[v0_, .int .i64 r2, .int .i64 r3]) ∧ Kd.R k48 48 w' w.heap.size (fun _ => True) v0_ r1 ∧ Below w.heap.size w w' := by
 have mN := Try.underlying48
 have HB := Aside0.mk (Below.refl w.heap.size w)
 have H : (roadbookref13_Get.l0 k a0 ([] : List (S48)) 0) = some (r1, r2, r3) := h
 clear h
 have H' := Aside0.mk H
 clear H
 go_enter Try.func63, Try.ntmps63
 go_wp2
 go_loopg [5, 6] k (fun kq v5 v6 w' => ∃ (ag : List (S48)) (dO : Int), v6 = .int .i64 dO ∧ Aside0 (roadbookref13_Get.l0 kq a0 ag dO = some (r1, r2, r3)) ∧ Aside0 (kq ≤ k) ∧ Aside0 (Kd.R k48 48 w' w.heap.size (fun _ => True) v5 ag) ∧ Aside0 (Below w.heap.size w w'))
 case atStart => exact ⟨(([] : List (S48))), (0), Z17, H', ⟨Nat.le_refl _⟩, ⟨Z7⟩, ⟨Z1⟩⟩
 case round =>
  clear H'
  obtain ⟨ag, dO, rfl, HA, HK1, HO_5, HB⟩ := hrel
  cases gk with
  | zero => exact absurd HA.out (by simp [roadbookref13_Get.l0])
  | succ k1 =>
   have H := HA.out
   clear HA
   simp only [roadbookref13_Get.l0] at H
   by_cases c2 : dO < (a0.size : Int)
   ·rw [if_pos c2] at H
    have eE : decide (dO < (a0.size : Int)) = true := decide_eq_true c2
    clear c2
    by_cases c3 : (wrap64 ((a0.size : Int) - dO)) < 2
    ·rw [if_pos c3] at H
     have fs : decide ((wrap64 ((a0.size : Int) - dO)) < 2) = true := decide_eq_true c3
     clear c3
     simp only [Option.some.injEq, Prod.mk.injEq] at H
     obtain ⟨rfl, rfl, rfl⟩ := H
     go_wp2
     go_ret3
     exact ⟨_, Z5, Z7, Z1⟩
    ·rw [if_neg c3] at H
     have fs : decide ((wrap64 ((a0.size : Int) - dO)) < 2) = false := decide_eq_false c3
     clear c3
     obtain ⟨ji4, hji4⟩ : ∃ j_ : Int, (wrap64 (dO + 1)) = j_ := ⟨_, rfl⟩
     replace H : (if 0 ≤ (ji4) then (if (ji4) < (a0.size : Int) then (if (wrap64 ((wrap64 ((a0.size : Int) - dO)) - 2)) < (wrap64 (bt a0 (ji4))) then (some (([] : List (S48)), dO, 2)) else (if 0 ≤ dO then (if 0 ≤ (wrap64 (dO + 2)) then (if (wrap64 (dO + 2)) ≤ (wrap64 ((wrap64 (dO + 2)) + (wrap64 (bt a0 (ji4))))) then (if (wrap64 ((wrap64 (dO + 2)) + (wrap64 (bt a0 (ji4))))) ≤ (a0.size : Int) then (if ag.length < 5864062014805 then (roadbookref13_Get.l0 k1 a0 (ag ++ [(⟨wrap64 (bt a0 dO), a0.extract ((wrap64 (dO + 2)) : Int).toNat ((wrap64 ((wrap64 (dO + 2)) + (wrap64 (bt a0 (ji4))))) : Int).toNat⟩ : S48)]) (wrap64 ((wrap64 (dO + 2)) + (wrap64 (bt a0 (ji4)))))) else (none)) else (none)) else (none)) else (none)) else (none))) else (none)) else (none)) = some (r1, r2, r3) := by first | (rw [hji4] at H; exact H) | (simp only [hji4] at H ⊢; exact H)
     have hji4w : (IntKind.i64.wrap (dO + 1)) = ji4 := (i64_w _).trans hji4
     by_cases c5 : 0 ≤ (ji4)
     ·rw [if_pos c5] at H
      have fg : decide (0 ≤ (ji4)) = true := decide_eq_true c5
      clear c5
      by_cases c6 : (ji4) < (a0.size : Int)
      ·rw [if_pos c6] at H
       have ga : decide ((ji4) < (a0.size : Int)) = true := decide_eq_true c6
       clear c6
       by_cases c8 : (wrap64 ((wrap64 ((a0.size : Int) - dO)) - 2)) < (wrap64 (bt a0 (ji4)))
       ·rw [if_pos c8] at H
        have gf : decide ((wrap64 ((wrap64 ((a0.size : Int) - dO)) - 2)) < (wrap64 (bt a0 (ji4)))) = true := decide_eq_true c8
        clear c8
        simp only [Option.some.injEq, Prod.mk.injEq] at H
        obtain ⟨rfl, rfl, rfl⟩ := H
        have p7 : 0 ≤ ((ji4) : Int) := of_decide_eq_true Z6
        have q7 : (ji4) < (a0.size : Int) := of_decide_eq_true Z6
        have hx7 := bt_at a0 (ji4)
        replace p7 := eq_true p7
        replace q7 := eq_true q7
        go_wp2
        go_ret3
        exact ⟨_, by first | rfl | (simp [errW_none, errW_some] <;> rfl) | (simp only [← hji4]; first | rfl | (simp [errW_none, errW_some] <;> rfl)) | (simp [*, errW_none, errW_some] <;> rfl), Z7, Z1⟩
       ·rw [if_neg c8] at H
        have gf : decide ((wrap64 ((wrap64 ((a0.size : Int) - dO)) - 2)) < (wrap64 (bt a0 (ji4)))) = false := decide_eq_false c8
        clear c8
        by_cases en : 0 ≤ dO
        ·rw [if_pos en] at H
         have eP : decide (0 ≤ dO) = true := decide_eq_true en
         clear en
         obtain ⟨ji12, hji12⟩ : ∃ j_ : Int, (wrap64 (dO + 2)) = j_ := ⟨_, rfl⟩
         replace H : (if 0 ≤ (ji12) then (if (ji12) ≤ (wrap64 ((ji12) + (wrap64 (bt a0 (ji4))))) then (if (wrap64 ((ji12) + (wrap64 (bt a0 (ji4))))) ≤ (a0.size : Int) then (if ag.length < 5864062014805 then (roadbookref13_Get.l0 k1 a0 (ag ++ [(⟨wrap64 (bt a0 dO), a0.extract ((ji12) : Int).toNat ((wrap64 ((ji12) + (wrap64 (bt a0 (ji4))))) : Int).toNat⟩ : S48)]) (wrap64 ((ji12) + (wrap64 (bt a0 (ji4)))))) else (none)) else (none)) else (none)) else (none)) = some (r1, r2, r3) := by first | (rw [hji12] at H; exact H) | (simp only [hji12] at H ⊢; exact H)
         have hji12w : (IntKind.i64.wrap (dO + 2)) = ji12 := (i64_w _).trans hji12
         by_cases ew : 0 ≤ (ji12)
         ·rw [if_pos ew] at H
          have fd := eq_true ew
          have gT : decide (0 ≤ (ji12)) = true := decide_eq_true ew
          clear ew
          by_cases gz : (ji12) ≤ (wrap64 ((ji12) + (wrap64 (bt a0 (ji4)))))
          ·rw [if_pos gz] at H
           have kz := eq_true gz
           have kA : decide ((ji12) ≤ (wrap64 ((ji12) + (wrap64 (bt a0 (ji4)))))) = true := decide_eq_true gz
           by_cases eV : (wrap64 ((ji12) + (wrap64 (bt a0 (ji4))))) ≤ (a0.size : Int)
           ·rw [if_pos eV] at H
            have iH := eq_true eV
            have jE : decide ((wrap64 ((ji12) + (wrap64 (bt a0 (ji4))))) ≤ (a0.size : Int)) = true := decide_eq_true eV
            by_cases fa : ag.length < 5864062014805
            ·rw [if_pos fa] at H
             have LMc16 := Aside0.mk fa
             clear fa
             obtain ⟨rp, hy101⟩ : ∃ y_ : List (S48), y_ = (ag ++ [(⟨wrap64 (bt a0 dO), a0.extract ((ji12) : Int).toNat ((wrap64 ((ji12) + (wrap64 (bt a0 (ji4))))) : Int).toNat⟩ : S48)]) := ⟨_, rfl⟩
             replace H : (roadbookref13_Get.l0 k1 a0 rp (wrap64 ((ji12) + (wrap64 (bt a0 (ji4)))))) = some (r1, r2, r3) := by first | (rw [hy101]; with_reducible exact H) | (have H2_ := (Option.bind_some _ _).symm.trans H; rw [hy101]; with_reducible exact H2_) | (have H2_ := (Option.bind_some _ _).symm.trans H; with_reducible exact H2_) | with_reducible exact H | (rw [hy101]; exact H) | exact H
             have Ny101 := Aside0.mk hy101
             clear hy101
             have H' := Aside0.mk H
             clear H
             have p7 : 0 ≤ ((ji4) : Int) := of_decide_eq_true Z6
             have q7 : (ji4) < (a0.size : Int) := of_decide_eq_true Z6
             have hx7 := bt_at a0 (ji4)
             replace p7 := eq_true p7
             replace q7 := eq_true q7
             have p9 : 0 ≤ ((ji4) : Int) := of_decide_eq_true Z6
             have q9 : (ji4) < (a0.size : Int) := of_decide_eq_true Z6
             have hx9 := bt_at a0 (ji4)
             replace p9 := eq_true p9
             replace q9 := eq_true q9
             try go_wp2
             have bl := Aside0.mk (Kd.R_drew HO_5.out)
             have bm := Aside0.mk (below_drew1 HB.out)
             clear HO_5
             clear HB
             have HO_5 := bl
             have HB := bm
             clear bl bm
             have p11 : 0 ≤ (dO : Int) := of_decide_eq_true Z6
             have q11 : dO < (a0.size : Int) := of_decide_eq_true Z6
             have hx11 := bt_at a0 dO
             replace p11 := eq_true p11
             replace q11 := eq_true q11
             refine start_ (n := 17) (S := fun w' => True) (ds := []) (Sq.b 17 0) Z14 rfl rfl trivial (fun hHeld => ?_); refine with_tabW roadbookref13_Get.tab7 roadbookref13_Get.bits7 (fun HT_ HW_ => ?_)
             generalize wr.drew = iE at HO_5 HB hHeld ⊢
             refine Sq.pur 0 (some 36) (Sq.b 17 1) HT_.out ?_
             refine Sq.pur 1 (some 37) (Sq.b 17 3) HT_.out ?_
             refine Sq.pur 2 (some 38) (Sq.b 17 7) HT_.out ?_
             refine Sq.pur 5 (some 41) (Sq.b 17 39) HT_.out ?_
             refine Sq.pur 6 (some 42) (Sq.b 17 103) HT_.out ?_
             refine Sq.pur 7 (some 43) (Sq.b 17 231) HT_.out ?_
             refine Sq.pur 8 (some 44) (Sq.b 17 487) HT_.out ?_
             refine Sq.pur 9 (some 45) (Sq.b 17 999) HT_.out ?_
             refine Sq.pur 10 (some 46) (Sq.b 17 2023) HT_.out ?_
             refine Sq.pur 11 (some 47) (Sq.b 17 4071) HT_.out ?_
             refine Sq.pur 12 (some 48) (Sq.b 17 8167) HT_.out ?_
             refine Sq.tak 3 (some 39) (Sq.b 17 8175) HT_.out HW_.out hHeld (v := ?_) (a' := ?_) ?_ ?_ ?_
             rotate_left
             ·intro w' _
              go_simp
              with_reducible rfl
             rotate_left
             ·simp only [Act.put, Sq.s1, Sq.s2, Sq.s3, i64_w, i32_w]
              rfl
             refine Sq.pur 4 (some 40) (Sq.b 17 8191) HT_.out ?_
             refine Sq.pur 13 (some 49) (Sq.b 17 16383) HT_.out ?_
             refine one_ (i := 14) (N := some 50) (Sq.b 17 32767) rfl rfl (one_of HT_.out Z14) Z27 (fun K hK => ?_)
             refine value_ (w1 := ?_) (v := ?_) Z22 rfl ?_ ?_
             rotate_left 2
             ·go_simp
              constructor
              ·rfl
              ·rfl
             refine hK.out _ _ trivial (fun hHeld => ?_)
             clear hK K
             refine norm_ (a' := ?_) ?_ ?_
             rotate_left
             ·show Act.put _ (some 50) _ = _
              simp only [Act.put, Sq.s1, Sq.s2, Sq.s3, i64_w, i32_w]
              rfl
             refine one_ (i := 15) (N := some 51) (Sq.b 17 65535) rfl rfl (one_of HT_.out Z14) Z27 (fun K hK => ?_)
             refine Kd.R_append_step k48 (w0 := w) w.heap.size Z22 (.tmp 36) (.tmp 50) 23 48 (.agg #[(.int .i64 0), (.string ⟨#[]⟩)]) 24 rfl Try.underlying23 info48 rfl Z27 Z34 u5 ag (⟨wrap64 (bt a0 dO), a0.extract ((ji12) : Int).toNat ((wrap64 ((ji12) + (wrap64 (bt a0 (ji4))))) : Int).toNat⟩ : S48) [.int .i64 (wrap64 (bt a0 dO)), .string (a0.extract ((ji12) : Int).toNat ((wrap64 ((ji12) + (wrap64 (bt a0 (ji4))))) : Int).toNat)] (fun _ => True) (fun _ => False) rfl rfl ?aP (fun _ hk => hk.elim) ?aF ?aO ?aB ?aS ?aL ?_
             (case aP => exact k48_mkM _ _ _ (⟨wrap64 (bt a0 dO), a0.extract ((ji12) : Int).toNat ((wrap64 ((ji12) + (wrap64 (bt a0 (ji4))))) : Int).toNat⟩ : S48))
             (case aB => exact Z1)
             (case aF => exact (fun _ _ => trivial))
             (case aO => exact Z44)
             (case aS => exact (below_size Z1))
             (case aL => have := LMc16.out; omega)
             intro rq mb ho hb hg hat
             rw [← Ny101.out] at ho
             have bl := Aside0.mk (hb)
             have bm := Aside0.mk (ho)
             clear HB
             clear HO_5
             have HB := bl
             have jG := bm
             clear bl bm
             clear ho hb hg hat
             refine hK.out _ _ trivial (fun hHeld => ?_)
             clear hK K
             refine norm_ (a' := ?_) ?_ ?_
             rotate_left
             ·show Act.put _ (some 51) _ = _
              simp only [Act.put, Sq.s1, Sq.s2, Sq.s3, i64_w, i32_w]
              rfl
             refine Sq.pur 16 (some 5) (Sq.b 17 131071) HT_.out ?_
             refine done_ (done_of HT_.out Z14) ?_
             try go_wp2
             go_roundg k1
             case measure => have := HK1.out; omega
             case rel => exact ⟨(rp), (wrap64 ((ji12) + (wrap64 (bt a0 (ji4))))), (by first | rfl | (simp; done) | (simp only [← hji4, ← hji12] <;> (first | rfl | simp)) | (simp [*]; done)), H', ⟨Z88⟩, ⟨by (with_reducible repeat (first | apply Kd.R_alloc | apply Kd.R_drewN | apply Kd.R_drew)); exact jG.out⟩, ⟨Z1⟩⟩
            ·rw [if_neg fa] at H
             exact absurd H Z59
           ·rw [if_neg eV] at H
            exact absurd H Z59
          ·rw [if_neg gz] at H
           exact absurd H Z59
         ·rw [if_neg ew] at H
          exact absurd H Z59
        ·rw [if_neg en] at H
         exact absurd H Z59
      ·rw [if_neg c6] at H
       exact absurd H Z59
     ·rw [if_neg c5] at H
      exact absurd H Z59
   ·rw [if_neg c2] at H
    have eE : decide (dO < (a0.size : Int)) = false := decide_eq_false c2
    clear c2
    simp only [Option.some.injEq, Prod.mk.injEq] at H
    obtain ⟨rfl, rfl, rfl⟩ := H
    go_wp2
    go_ret3
    exact ⟨_, Z5, Z44, Z1⟩

/-! ### roadbookref08_Number: function 64 -/
def roadbookref08_Number.l0 : Nat → ByteArray → Int → Int → Option (Int)
 | 0, _, _, _ => none
 | k + 1, x0, x3, x4 => if x4 < (x0.size : Int) then (if x4 < 7 then (if 0 ≤ x4 then (roadbookref08_Number.l0 k x0 (wrap64 ((wrap64 (x3 * 256)) + (wrap64 (bt x0 x4)))) (wrap64 (x4 + 1))) else (none)) else (some x3)) else (some x3)
def roadbookref08_Number.f (k : Nat) (a0 : ByteArray) : Option (Int) := roadbookref08_Number.l0 k a0 0 0
theorem roadbookref08_Number.mono_l : ∀ k, (∀ y0 y1 y2, LeO (roadbookref08_Number.l0 k y0 y1 y2) (roadbookref08_Number.l0 (k + 1) y0 y1 y2))
 | 0 => fun _ _ _ r h => by simp [roadbookref08_Number.l0] at h
 | k + 1 => by
  have ih0 := roadbookref08_Number.mono_l k
  ·intro y0 y1 y2
   unfold roadbookref08_Number.l0
   repeat' first
   | (with_reducible exact ih0 ..)
   | (with_reducible exact LeO.refl _)
   | (with_reducible exact LeO.none _)
   | (with_reducible refine LeO.ite ?_ ?_)
   | (with_reducible refine LeO.bind ?_ (fun _ => ?_))
   | exact ih0 ..
   | exact LeO.none _
   | refine LeO.ite ?_ ?_
   | refine LeO.bind ?_ (fun _ => ?_)
theorem roadbookref08_Number.mono : ∀ a0 k, LeO (roadbookref08_Number.f k a0) (roadbookref08_Number.f (k + 1) a0) := by
 intro a0 k
 have ih0 := roadbookref08_Number.mono_l k
 unfold roadbookref08_Number.f
 repeat' first
   | (with_reducible exact ih0 ..)
   | (with_reducible exact LeO.refl _)
   | (with_reducible exact LeO.none _)
   | (with_reducible refine LeO.ite ?_ ?_)
   | (with_reducible refine LeO.bind ?_ (fun _ => ?_))
   | exact ih0 ..
   | exact LeO.none _
   | refine LeO.ite ?_ ?_
   | refine LeO.bind ?_ (fun _ => ?_)
set_option maxHeartbeats 8000000 in
set_option maxRecDepth 100000 in
theorem roadbookref08_Number.calls (k : Nat) (a0 : ByteArray) (r : Int) (w : World) (h : roadbookref08_Number.f k a0 = some r) :
  Calls Try.prog 64 #[.string a0] w fun e w' => e = .returned (.int .i64 r) ∧ Drawn0 w w' := by
 have H : (roadbookref08_Number.l0 k a0 0 0) = some r := h
 clear h
 have H' := Aside0.mk H
 clear H
 go_enter Try.func64, Try.ntmps64
 go_wp2
 go_loopg [3, 4] k (fun kq v3 v4 w' => ∃ (kl : Int) (em : Int), v3 = .int .i64 kl ∧ v4 = .int .i64 em ∧ Aside0 (roadbookref08_Number.l0 kq a0 kl em = some r) ∧ Aside0 (kq ≤ k) ∧ Drawn0 w w')
 case atStart => exact ⟨(0), (0), Z17, Z17, H', ⟨Nat.le_refl _⟩, Z42⟩
 case round =>
  clear H'
  obtain ⟨kl, em, rfl, rfl, HA, HK1, ⟨m1, rfl⟩⟩ := hrel
  cases gk with
  | zero => exact absurd HA.out (by simp [roadbookref08_Number.l0])
  | succ k1 =>
   have H := HA.out
   clear HA
   simp only [roadbookref08_Number.l0] at H
   by_cases c2 : em < (a0.size : Int)
   ·rw [if_pos c2] at H
    have eE : decide (em < (a0.size : Int)) = true := decide_eq_true c2
    clear c2
    by_cases c3 : em < 7
    ·rw [if_pos c3] at H
     have fs : decide (em < 7) = true := decide_eq_true c3
     clear c3
     by_cases c4 : 0 ≤ em
     ·rw [if_pos c4] at H
      have dL : decide (0 ≤ em) = true := decide_eq_true c4
      clear c4
      have H' := Aside0.mk H
      clear H
      have p5 : 0 ≤ (em : Int) := of_decide_eq_true Z6
      have q5 : em < (a0.size : Int) := of_decide_eq_true Z6
      have hx5 := bt_at a0 em
      replace p5 := eq_true p5
      replace q5 := eq_true q5
      go_wp2
      go_roundg k1
      case measure => have := HK1.out; omega
      case rel => exact ⟨(wrap64 ((wrap64 (kl * 256)) + (wrap64 (bt a0 em)))), (wrap64 (em + 1)), Z17, Z17, H', ⟨Z88⟩, Z42⟩
     ·rw [if_neg c4] at H
      exact absurd H Z59
    ·rw [if_neg c3] at H
     have fs : decide (em < 7) = false := decide_eq_false c3
     clear c3
     obtain rfl := Option.some.inj H
     go_wp2
     go_ret
     exact ⟨Z17, Z42⟩
   ·rw [if_neg c2] at H
    have eE : decide (em < (a0.size : Int)) = false := decide_eq_false c2
    clear c2
    obtain rfl := Option.some.inj H
    go_wp2
    go_ret
    exact ⟨Z17, Z42⟩

end Go.Proofs.Ytccjakjjaemmkaa.PAP
