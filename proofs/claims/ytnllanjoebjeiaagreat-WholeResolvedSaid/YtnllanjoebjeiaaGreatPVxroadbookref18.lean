-- Written by mp.py, a program of this work (wip/tools), out of the translation; Lean checks it.
import Derived.Test.YtnllanjoebjeiaaGreatPVxZ
namespace Go.Proofs.YtnllanjoebjeiaaGreat.PV
open Go.RowKit Go.Proofs.YtnllanjoebjeiaaGreatW.PrintWords Go.Proofs.YtnllanjoebjeiaaGreatW.PrintLast Go.Proofs.YtnllanjoebjeiaaGreatW.PrintMore
attribute [local go_sem] max2_int min2_int max_two min_two max_three min_three max_four min_four   -- for this text's walks alone
set_option linter.unusedVariables false
set_option linter.unusedSimpArgs false

/-! ### roadbookref18_Split: function 17 -/
def roadbookref18_Split.l0 : Nat → ByteArray → Int → List (S48) → Int → Option ((List (S48)) × Int × Int)
 | 0, _, _, _, _ => none
 | k + 1, x0, x1, x7, x8 => if x8 < (x0.size : Int) then (if 0 ≤ x8 then (if (bt x0 x8) = 0 then (if x7.length < 4398046511104 then (roadbookref18_Split.l0 k x0 x1 (x7 ++ [(⟨0, wrap64 (x1 + x8), (⟨#[]⟩ : ByteArray)⟩ : S48)]) (wrap64 (x8 + 1))) else (none)) else (if (wrap64 ((x0.size : Int) - x8)) < 2 then (some (([] : List (S48)), wrap64 (x1 + x8), 2)) else (if 0 ≤ (wrap64 (x8 + 1)) then (if (wrap64 (x8 + 1)) < (x0.size : Int) then (if (wrap64 ((wrap64 ((x0.size : Int) - x8)) - 2)) < (wrap64 (bt x0 (wrap64 (x8 + 1)))) then (some (([] : List (S48)), wrap64 (x1 + x8), 2)) else (if 0 ≤ (wrap64 (x8 + 2)) then (if (wrap64 (x8 + 2)) ≤ (wrap64 ((wrap64 (x8 + 2)) + (wrap64 (bt x0 (wrap64 (x8 + 1)))))) then (if (wrap64 ((wrap64 (x8 + 2)) + (wrap64 (bt x0 (wrap64 (x8 + 1)))))) ≤ (x0.size : Int) then (if x7.length < 4398046511104 then (roadbookref18_Split.l0 k x0 x1 (x7 ++ [(⟨wrap64 (bt x0 x8), wrap64 (x1 + x8), x0.extract ((wrap64 (x8 + 2)) : Int).toNat ((wrap64 ((wrap64 (x8 + 2)) + (wrap64 (bt x0 (wrap64 (x8 + 1)))))) : Int).toNat⟩ : S48)]) (wrap64 ((wrap64 (x8 + 2)) + (wrap64 (bt x0 (wrap64 (x8 + 1))))))) else (none)) else (none)) else (none)) else (none))) else (none)) else (none)))) else (none)) else (some (x7, 0, 0))
def roadbookref18_Split.f (k : Nat) (a0 : ByteArray) (a1 : Int) : Option ((List (S48)) × Int × Int) := roadbookref18_Split.l0 k a0 a1 ([] : List (S48)) 0
theorem roadbookref18_Split.mono_l : ∀ k, (∀ y0 y1 y2 y3, LeO (roadbookref18_Split.l0 k y0 y1 y2 y3) (roadbookref18_Split.l0 (k + 1) y0 y1 y2 y3))
 | 0 => Sq.mz
 | k + 1 => by
  have ih0 := roadbookref18_Split.mono_l k
  ·intros
   unfold roadbookref18_Split.l0
   exact Sq.mo
theorem roadbookref18_Split.mono : ∀ a0 a1 k, LeO (roadbookref18_Split.f k a0 a1) (roadbookref18_Split.f (k + 1) a0 a1) := by
 intro a0 a1 k
 have ih0 := roadbookref18_Split.mono_l k
 unfold roadbookref18_Split.f
 exact Sq.mo
def roadbookref18_Split.T10 : Bool × List (List Nat × List Nat) := (true, [([], []), ([], []), ([], []), ([1, 2], [1, 2]), ([3], [3]), ([], []), ([], []), ([5, 6], [5, 6]), ([], []), ([], []), ([9], [9]), ([], []), ([11], [11]), ([], []), ([12, 13], [12, 13]), ([8, 10, 14], [8, 10, 14]), ([4, 7, 15], [4, 7, 15]), ([16], [16]), ([0, 17], [0, 17]), ([18, 18, 0, 1, 2, 3, 4, 5, 6, 7, 8, 9, 10, 11, 12, 13, 14, 15, 16, 17, 18], [0, 18])])
def roadbookref18_Split.B10 : List Nat := [0, 0, 0, 6, 14, 0, 0, 96, 0, 0, 512, 0, 2048, 0, 14336, 32512, 65534, 131070, 262143, 524287]
theorem roadbookref18_Split.tab10 : rtab .any (opsOf Tryz.f17 10) = roadbookref18_Split.T10 := by kernel_rfl
theorem roadbookref18_Split.bits10 : waitsOk roadbookref18_Split.T10.2 roadbookref18_Split.B10 = true := by kernel_rfl
set_option maxHeartbeats 8000000 in
set_option maxRecDepth 100000 in
theorem roadbookref18_Split.calls (k : Nat) (a0 : ByteArray) (a1 : Int) (r1 : List (S48)) (r2 : Int) (r3 : Int) (w : World) (h : roadbookref18_Split.f k a0 a1 = some (r1, r2, r3)) :
  Calls Tryz.prog 17 #[.string a0, .int .i64 a1] w fun e w' => ∃ v0_ : Value, e = .returned (.tuple #[v0_, .int .i64 r2, .int .i64 r3]) ∧ Kd.R k48 48 w' w.heap.size (fun _ => True) v0_ r1 ∧ Below w.heap.size w w' := by
 have hu48 := Tryz.underlying48
 have HB := Aside0.mk (Below.refl w.heap.size w)
 have H : (roadbookref18_Split.l0 k a0 a1 ([] : List (S48)) 0) = some (r1, r2, r3) := h
 clear h
 have H' := Aside0.mk H
 clear H
 go_enter Tryz.func17, Tryz.ntmps17
 go_wp2
 go_loopg [7, 8] k (fun kq v7 v8 w' => ∃ (bS : List (S48)) (aX : Int), v8 = .int .i64 aX ∧ Aside0 (roadbookref18_Split.l0 kq a0 a1 bS aX = some (r1, r2, r3)) ∧ Aside0 (kq ≤ k) ∧ Aside0 (Kd.R k48 48 w' w.heap.size (fun _ => True) v7 bS) ∧ Aside0 (Below w.heap.size w w'))
 case atStart => exact ⟨(([] : List (S48))), (0), Z8, H', ⟨Nat.le_refl _⟩, ⟨Z28⟩, ⟨Z2⟩⟩
 case round =>
  clear H'
  try clear c1
  try clear p2
  obtain ⟨bS, aX, rfl, HA, HK1, HO_7, HB⟩ := hrel
  cases gk with
  | zero => exact absurd HA.out (by simp [roadbookref18_Split.l0])
  | succ k1 =>
   have H := HA.out
   clear HA
   simp only [roadbookref18_Split.l0] at H
   by_cases c3 : aX < (a0.size : Int)
   ·rw [if_pos c3] at H
    have bU : decide (aX < (a0.size : Int)) = true := decide_eq_true c3
    clear c3
    by_cases c4 : 0 ≤ aX
    ·rw [if_pos c4] at H
     have bP : decide (0 ≤ aX) = true := decide_eq_true c4
     clear c4
     by_cases c6 : (bt a0 aX) = 0
     ·rw [if_pos c6] at H
      have ce : ((bt a0 aX) == 0) = true := beq_iff_eq.mpr c6
      have cJ : ((bt a0 aX) != 0) = false := bne_eq_false_iff_eq.mpr c6
      clear c6
      by_cases c7 : bS.length < 4398046511104
      ·rw [if_pos c7] at H
       have LMc7 := Aside0.mk c7
       clear c7
       obtain ⟨cL, hy101⟩ : ∃ y_ : List (S48), y_ = (bS ++ [(⟨0, wrap64 (a1 + aX), (⟨#[]⟩ : ByteArray)⟩ : S48)]) := ⟨_, rfl⟩
       replace H : (roadbookref18_Split.l0 k1 a0 a1 cL (wrap64 (aX + 1))) = some (r1, r2, r3) := by first | (rw [hy101]; with_reducible exact H) | (have H2_ := (Option.bind_some _ _).symm.trans H; rw [hy101]; with_reducible exact H2_) | (have H2_ := (Option.bind_some _ _).symm.trans H; with_reducible exact H2_) | with_reducible exact H | (rw [hy101]; exact H) | exact H
       have Ny101 := Aside0.mk hy101
       clear hy101
       have H' := Aside0.mk H
       clear H
       have p5 : 0 ≤ (aX : Int) := of_decide_eq_true Z7
       have q5 : aX < (a0.size : Int) := of_decide_eq_true Z7
       have hx5 := bt_at a0 aX
       replace p5 := eq_true p5
       replace q5 := eq_true q5
       go_wp2_with (first | ((with_reducible refine gate_builtin (b := .append) (xs := #[.tmp 18, .tmp 23]) rfl ?_); (try (refine gate_guard Z16 ?_; dsimp only)); at_builtin; refine Kd.R_append k48 (w0 := w) w.heap.size rfl (.tmp 18) (.tmp 23) 40 48 (.agg #[(.int .i64 0), (.int .i64 0), (.string ⟨#[]⟩)]) 32 rfl Tryz.underlying40 info48 rfl Z34 Z23 u7 bS (⟨0, wrap64 (a1 + aX), (⟨#[]⟩ : ByteArray)⟩ : S48) [.int .i64 0, .int .i64 (wrap64 (a1 + aX)), .string ⟨#[]⟩] (fun _ => True) (fun _ => False) rfl rfl ?aP (fun _ hk => hk.elim) ?aF ?aO ?aB ?aS ?aL ?_; (case aP => exact k48_mkM _ _ _ (⟨0, wrap64 (a1 + aX), (⟨#[]⟩ : ByteArray)⟩ : S48)); (case aB => exact Z2); (case aF => exact (fun _ _ => trivial)); (case aO => exact Z40); (case aS => exact (below_size Z2)); (case aL => have := LMc7.out; omega); intro hU w8 ho hb hg hat; rw [← Ny101.out] at ho; clear HO_7; have eH := Aside0.mk (ho); replace HB := Aside0.mk (hb); clear ho hb hg hat))
       go_roundg k1
       case measure => have := HK1.out; omega
       case rel => exact ⟨(cL), (wrap64 (aX + 1)), Z8, H', ⟨Z35⟩, ⟨by (with_reducible repeat (first | apply Kd.R_alloc | apply Kd.R_drewN | apply Kd.R_drew)); exact eH.out⟩, ⟨Z2⟩⟩
      ·rw [if_neg c7] at H
       exact absurd H Z27
     ·rw [if_neg c6] at H
      have ce : ((bt a0 aX) == 0) = false := beq_eq_false_iff_ne.mpr c6
      have cJ : ((bt a0 aX) != 0) = true := bne_iff_ne.mpr c6
      by_cases c9 : (wrap64 ((a0.size : Int) - aX)) < 2
      ·rw [if_pos c9] at H
       have dX : decide ((wrap64 ((a0.size : Int) - aX)) < 2) = true := decide_eq_true c9
       clear c9
       simp only [Option.some.injEq, Prod.mk.injEq] at H
       obtain ⟨rfl, rfl, rfl⟩ := H
       have p5 : 0 ≤ (aX : Int) := of_decide_eq_true Z7
       have q5 : aX < (a0.size : Int) := of_decide_eq_true Z7
       have hx5 := bt_at a0 aX
       replace p5 := eq_true p5
       replace q5 := eq_true q5
       go_wp2
       go_ret3
       exact ⟨_, Z5, Z28, Z2⟩
      ·rw [if_neg c9] at H
       have dX : decide ((wrap64 ((a0.size : Int) - aX)) < 2) = false := decide_eq_false c9
       clear c9
       obtain ⟨ji10, hji10⟩ : ∃ j_ : Int, (wrap64 (aX + 1)) = j_ := ⟨_, rfl⟩
       replace H : (if 0 ≤ (ji10) then (if (ji10) < (a0.size : Int) then (if (wrap64 ((wrap64 ((a0.size : Int) - aX)) - 2)) < (wrap64 (bt a0 (ji10))) then (some (([] : List (S48)), wrap64 (a1 + aX), 2)) else (if 0 ≤ (wrap64 (aX + 2)) then (if (wrap64 (aX + 2)) ≤ (wrap64 ((wrap64 (aX + 2)) + (wrap64 (bt a0 (ji10))))) then (if (wrap64 ((wrap64 (aX + 2)) + (wrap64 (bt a0 (ji10))))) ≤ (a0.size : Int) then (if bS.length < 4398046511104 then (roadbookref18_Split.l0 k1 a0 a1 (bS ++ [(⟨wrap64 (bt a0 aX), wrap64 (a1 + aX), a0.extract ((wrap64 (aX + 2)) : Int).toNat ((wrap64 ((wrap64 (aX + 2)) + (wrap64 (bt a0 (ji10))))) : Int).toNat⟩ : S48)]) (wrap64 ((wrap64 (aX + 2)) + (wrap64 (bt a0 (ji10)))))) else (none)) else (none)) else (none)) else (none))) else (none)) else (none)) = some (r1, r2, r3) := by first | (rw [hji10] at H; exact H) | (simp only [hji10] at H ⊢; exact H)
       have hji10w : (IntKind.i64.wrap (aX + 1)) = ji10 := (i64_w _).trans hji10
       by_cases cS : 0 ≤ (ji10)
       ·rw [if_pos cS] at H
        have fP : decide (0 ≤ (ji10)) = true := decide_eq_true cS
        clear cS
        by_cases da : (ji10) < (a0.size : Int)
        ·rw [if_pos da] at H
         have eh : decide ((ji10) < (a0.size : Int)) = true := decide_eq_true da
         clear da
         by_cases cV : (wrap64 ((wrap64 ((a0.size : Int) - aX)) - 2)) < (wrap64 (bt a0 (ji10)))
         ·rw [if_pos cV] at H
          have eF : decide ((wrap64 ((wrap64 ((a0.size : Int) - aX)) - 2)) < (wrap64 (bt a0 (ji10)))) = true := decide_eq_true cV
          clear cV
          simp only [Option.some.injEq, Prod.mk.injEq] at H
          obtain ⟨rfl, rfl, rfl⟩ := H
          have p5 : 0 ≤ (aX : Int) := of_decide_eq_true Z7
          have q5 : aX < (a0.size : Int) := of_decide_eq_true Z7
          have hx5 := bt_at a0 aX
          replace p5 := eq_true p5
          replace q5 := eq_true q5
          have p13 : 0 ≤ ((ji10) : Int) := of_decide_eq_true Z7
          have q13 : (ji10) < (a0.size : Int) := of_decide_eq_true Z7
          have hx13 := bt_at a0 (ji10)
          replace p13 := eq_true p13
          replace q13 := eq_true q13
          go_wp2
          go_ret3
          exact ⟨_, by first | rfl | (simp [errW_none, errW_some] <;> rfl) | (simp only [← hji10]; first | rfl | (simp [errW_none, errW_some] <;> rfl)) | (simp [*, errW_none, errW_some] <;> rfl), Z28, Z2⟩
         ·rw [if_neg cV] at H
          have eF : decide ((wrap64 ((wrap64 ((a0.size : Int) - aX)) - 2)) < (wrap64 (bt a0 (ji10)))) = false := decide_eq_false cV
          clear cV
          obtain ⟨ji17, hji17⟩ : ∃ j_ : Int, (wrap64 (aX + 2)) = j_ := ⟨_, rfl⟩
          replace H : (if 0 ≤ (ji17) then (if (ji17) ≤ (wrap64 ((ji17) + (wrap64 (bt a0 (ji10))))) then (if (wrap64 ((ji17) + (wrap64 (bt a0 (ji10))))) ≤ (a0.size : Int) then (if bS.length < 4398046511104 then (roadbookref18_Split.l0 k1 a0 a1 (bS ++ [(⟨wrap64 (bt a0 aX), wrap64 (a1 + aX), a0.extract ((ji17) : Int).toNat ((wrap64 ((ji17) + (wrap64 (bt a0 (ji10))))) : Int).toNat⟩ : S48)]) (wrap64 ((ji17) + (wrap64 (bt a0 (ji10)))))) else (none)) else (none)) else (none)) else (none)) = some (r1, r2, r3) := by first | (rw [hji17] at H; exact H) | (simp only [hji17] at H ⊢; exact H)
          have hji17w : (IntKind.i64.wrap (aX + 2)) = ji17 := (i64_w _).trans hji17
          by_cases dD : 0 ≤ (ji17)
          ·rw [if_pos dD] at H
           have ei := eq_true dD
           have fr : decide (0 ≤ (ji17)) = true := decide_eq_true dD
           clear dD
           by_cases eI : (ji17) ≤ (wrap64 ((ji17) + (wrap64 (bt a0 (ji10)))))
           ·rw [if_pos eI] at H
            have fs := eq_true eI
            have c19b1 : decide ((ji17) ≤ (wrap64 ((ji17) + (wrap64 (bt a0 (ji10)))))) = true := decide_eq_true eI
            by_cases hI : (wrap64 ((ji17) + (wrap64 (bt a0 (ji10))))) ≤ (a0.size : Int)
            ·rw [if_pos hI] at H
             have c20b0 := eq_true hI
             have c20b1 : decide ((wrap64 ((ji17) + (wrap64 (bt a0 (ji10))))) ≤ (a0.size : Int)) = true := decide_eq_true hI
             by_cases dz : bS.length < 4398046511104
             ·rw [if_pos dz] at H
              have LMc21 := Aside0.mk dz
              clear dz
              obtain ⟨gq, hy104⟩ : ∃ y_ : List (S48), y_ = (bS ++ [(⟨wrap64 (bt a0 aX), wrap64 (a1 + aX), a0.extract ((ji17) : Int).toNat ((wrap64 ((ji17) + (wrap64 (bt a0 (ji10))))) : Int).toNat⟩ : S48)]) := ⟨_, rfl⟩
              replace H : (roadbookref18_Split.l0 k1 a0 a1 gq (wrap64 ((ji17) + (wrap64 (bt a0 (ji10)))))) = some (r1, r2, r3) := by first | (rw [hy104]; with_reducible exact H) | (have H2_ := (Option.bind_some _ _).symm.trans H; rw [hy104]; with_reducible exact H2_) | (have H2_ := (Option.bind_some _ _).symm.trans H; with_reducible exact H2_) | with_reducible exact H | (rw [hy104]; exact H) | exact H
              have Ny104 := Aside0.mk hy104
              clear hy104
              have H' := Aside0.mk H
              clear H
              have p5 : 0 ≤ (aX : Int) := of_decide_eq_true Z7
              have q5 : aX < (a0.size : Int) := of_decide_eq_true Z7
              have hx5 := bt_at a0 aX
              replace p5 := eq_true p5
              replace q5 := eq_true q5
              have p13 : 0 ≤ ((ji10) : Int) := of_decide_eq_true Z7
              have q13 : (ji10) < (a0.size : Int) := of_decide_eq_true Z7
              have hx13 := bt_at a0 (ji10)
              replace p13 := eq_true p13
              replace q13 := eq_true q13
              have p15 : 0 ≤ ((ji10) : Int) := of_decide_eq_true Z7
              have q15 : (ji10) < (a0.size : Int) := of_decide_eq_true Z7
              have hx15 := bt_at a0 (ji10)
              replace p15 := eq_true p15
              replace q15 := eq_true q15
              try go_wp2
              have bL := Aside0.mk (Kd.R_drew HO_7.out)
              have bM := Aside0.mk (below_drew1 HB.out)
              clear HO_7
              clear HB
              have HO_7 := bL
              have HB := bM
              clear bL bM
              have p16 : 0 ≤ (aX : Int) := of_decide_eq_true Z7
              have q16 : aX < (a0.size : Int) := of_decide_eq_true Z7
              have hx16 := bt_at a0 aX
              replace p16 := eq_true p16
              replace q16 := eq_true q16
              refine start_ (n := 20) (S := fun w' => True) (ds := []) (Sq.b 20 0) Z12 rfl rfl trivial (fun hHeld => ?_); refine with_tabW roadbookref18_Split.tab10 roadbookref18_Split.bits10 (fun HT_ HW_ => ?_)
              generalize wr.drew = w22 at HO_7 HB hHeld ⊢
              refine Sq.pur 0 (some 53) (Sq.b 20 1) HT_.out ?_
              refine Sq.pur 1 (some 54) (Sq.b 20 3) HT_.out ?_
              refine Sq.pur 2 (some 55) (Sq.b 20 7) HT_.out ?_
              refine Sq.pur 5 (some 58) (Sq.b 20 39) HT_.out ?_
              refine Sq.pur 6 (some 59) (Sq.b 20 103) HT_.out ?_
              refine Sq.pur 7 (some 60) (Sq.b 20 231) HT_.out ?_
              refine Sq.pur 8 (some 61) (Sq.b 20 487) HT_.out ?_
              refine Sq.pur 9 (some 62) (Sq.b 20 999) HT_.out ?_
              refine Sq.pur 10 (some 63) (Sq.b 20 2023) HT_.out ?_
              refine Sq.pur 11 (some 64) (Sq.b 20 4071) HT_.out ?_
              refine Sq.pur 12 (some 65) (Sq.b 20 8167) HT_.out ?_
              refine Sq.pur 13 (some 66) (Sq.b 20 16359) HT_.out ?_
              refine Sq.pur 14 (some 67) (Sq.b 20 32743) HT_.out ?_
              refine Sq.pur 15 (some 68) (Sq.b 20 65511) HT_.out ?_
              refine Sq.tak 3 (some 56) (Sq.b 20 65519) HT_.out HW_.out hHeld (v := ?_) (a' := ?_) ?_ ?_ ?_
              rotate_left
              ·intro w' _
               go_simp
               with_reducible rfl
              rotate_left
              ·simp only [Act.put, Sq.s1, Sq.s2, Sq.s3, i64_w, i32_w]
               rfl
              refine Sq.pur 4 (some 57) (Sq.b 20 65535) HT_.out ?_
              refine Sq.pur 16 (some 69) (Sq.b 20 131071) HT_.out ?_
              refine one_ (i := 17) (N := some 70) (Sq.b 20 262143) rfl rfl (one_of HT_.out Z12) Z34 (fun K hK => ?_)
              refine value_ (w1 := ?_) (v := ?_) Z16 rfl ?_ ?_
              rotate_left 2
              ·go_simp
               constructor
               ·rfl
               ·rfl
              refine hK.out _ _ trivial (fun hHeld => ?_)
              clear hK K
              refine norm_ (a' := ?_) ?_ ?_
              rotate_left
              ·show Act.put _ (some 70) _ = _
               simp only [Act.put, Sq.s1, Sq.s2, Sq.s3, i64_w, i32_w]
               rfl
              refine one_ (i := 18) (N := some 71) (Sq.b 20 524287) rfl rfl (one_of HT_.out Z12) Z34 (fun K hK => ?_)
              refine Kd.R_append_step k48 (w0 := w) w.heap.size Z16 (.tmp 53) (.tmp 70) 40 48 (.agg #[(.int .i64 0), (.int .i64 0), (.string ⟨#[]⟩)]) 32 rfl Tryz.underlying40 info48 rfl Z34 Z23 u7 bS (⟨wrap64 (bt a0 aX), wrap64 (a1 + aX), a0.extract ((ji17) : Int).toNat ((wrap64 ((ji17) + (wrap64 (bt a0 (ji10))))) : Int).toNat⟩ : S48) [.int .i64 (wrap64 (bt a0 aX)), .int .i64 (wrap64 (a1 + aX)), .string (a0.extract ((ji17) : Int).toNat ((wrap64 ((ji17) + (wrap64 (bt a0 (ji10))))) : Int).toNat)] (fun _ => True) (fun _ => False) rfl rfl ?aP (fun _ hk => hk.elim) ?aF ?aO ?aB ?aS ?aL ?_
              (case aP => exact k48_mkM _ _ _ (⟨wrap64 (bt a0 aX), wrap64 (a1 + aX), a0.extract ((ji17) : Int).toNat ((wrap64 ((ji17) + (wrap64 (bt a0 (ji10))))) : Int).toNat⟩ : S48))
              (case aB => exact Z2)
              (case aF => exact (fun _ _ => trivial))
              (case aO => exact Z40)
              (case aS => exact (below_size Z2))
              (case aL => have := LMc21.out; omega)
              intro v105 ep ho hb hg hat
              rw [← Ny104.out] at ho
              have bL := Aside0.mk (hb)
              have bM := Aside0.mk (ho)
              clear HB
              clear HO_7
              have HB := bL
              have gr := bM
              clear bL bM
              clear ho hb hg hat
              refine hK.out _ _ trivial (fun hHeld => ?_)
              clear hK K
              refine norm_ (a' := ?_) ?_ ?_
              rotate_left
              ·show Act.put _ (some 71) _ = _
               simp only [Act.put, Sq.s1, Sq.s2, Sq.s3, i64_w, i32_w]
               rfl
              refine Sq.pur 19 (some 7) (Sq.b 20 1048575) HT_.out ?_
              refine done_ (done_of HT_.out Z12) ?_
              try go_wp2
              go_roundg k1
              case measure => have := HK1.out; omega
              case rel => exact ⟨(gq), (wrap64 ((ji17) + (wrap64 (bt a0 (ji10))))), (by first | rfl | (simp; done) | (simp only [← hji10, ← hji17] <;> (first | rfl | simp)) | (simp [*]; done)), H', ⟨Z35⟩, ⟨by (with_reducible repeat (first | apply Kd.R_alloc | apply Kd.R_drewN | apply Kd.R_drew)); exact gr.out⟩, ⟨Z2⟩⟩
             ·rw [if_neg dz] at H
              exact absurd H Z27
            ·rw [if_neg hI] at H
             exact absurd H Z27
           ·rw [if_neg eI] at H
            exact absurd H Z27
          ·rw [if_neg dD] at H
           exact absurd H Z27
        ·rw [if_neg da] at H
         exact absurd H Z27
       ·rw [if_neg cS] at H
        exact absurd H Z27
    ·rw [if_neg c4] at H
     exact absurd H Z27
   ·rw [if_neg c3] at H
    have bU : decide (aX < (a0.size : Int)) = false := decide_eq_false c3
    clear c3
    simp only [Option.some.injEq, Prod.mk.injEq] at H
    obtain ⟨rfl, rfl, rfl⟩ := H
    go_wp2
    go_ret3
    exact ⟨_, Z5, Z40, Z2⟩

/-! ### roadbookref18_Body: function 16 -/
def roadbookref18_Body.f (a0 : ByteArray) : Option (ByteArray × Int × Int) := if (a0.size : Int) > 65535 then (some ((⟨#[]⟩ : ByteArray), 65535, 10)) else (if (a0.size : Int) < 4 then (some ((⟨#[]⟩ : ByteArray), (a0.size : Int), 2)) else (if 0 < (a0.size : Int) then (if (bt a0 0) = 42 then (if 1 < (a0.size : Int) then (if (bt a0 1) = 2 then (if 2 < (a0.size : Int) then (if 3 < (a0.size : Int) then (if (a0.size : Int) < (wrap64 (4 + (wrap64 ((wrap64 (256 * (wrap64 (bt a0 2)))) + (wrap64 (bt a0 3)))))) then (some ((⟨#[]⟩ : ByteArray), (a0.size : Int), 2)) else (if 4 ≤ (wrap64 (4 + (wrap64 ((wrap64 (256 * (wrap64 (bt a0 2)))) + (wrap64 (bt a0 3)))))) then (if (wrap64 (4 + (wrap64 ((wrap64 (256 * (wrap64 (bt a0 2)))) + (wrap64 (bt a0 3)))))) ≤ (a0.size : Int) then (some (a0.extract 4 ((wrap64 (4 + (wrap64 ((wrap64 (256 * (wrap64 (bt a0 2)))) + (wrap64 (bt a0 3)))))) : Int).toNat, 0, 0)) else (none)) else (none))) else (none)) else (none)) else (some ((⟨#[]⟩ : ByteArray), 1, 4))) else (none)) else (some ((⟨#[]⟩ : ByteArray), 0, 4))) else (none)))
set_option maxHeartbeats 8000000 in
set_option maxRecDepth 100000 in
theorem roadbookref18_Body.calls (a0 : ByteArray) (r1 : ByteArray) (r2 : Int) (r3 : Int) (w : World) (h : roadbookref18_Body.f a0 = some (r1, r2, r3)) :
  Calls Tryz.prog 16 #[.string a0] w fun e w' => e = .returned (.tuple #[.string r1, .int .i64 r2, .int .i64 r3]) ∧ Drawn0 w w' := by
 have H : (if (a0.size : Int) > 65535 then (some ((⟨#[]⟩ : ByteArray), 65535, 10)) else (if (a0.size : Int) < 4 then (some ((⟨#[]⟩ : ByteArray), (a0.size : Int), 2)) else (if 0 < (a0.size : Int) then (if (bt a0 0) = 42 then (if 1 < (a0.size : Int) then (if (bt a0 1) = 2 then (if 2 < (a0.size : Int) then (if 3 < (a0.size : Int) then (if (a0.size : Int) < (wrap64 (4 + (wrap64 ((wrap64 (256 * (wrap64 (bt a0 2)))) + (wrap64 (bt a0 3)))))) then (some ((⟨#[]⟩ : ByteArray), (a0.size : Int), 2)) else (if 4 ≤ (wrap64 (4 + (wrap64 ((wrap64 (256 * (wrap64 (bt a0 2)))) + (wrap64 (bt a0 3)))))) then (if (wrap64 (4 + (wrap64 ((wrap64 (256 * (wrap64 (bt a0 2)))) + (wrap64 (bt a0 3)))))) ≤ (a0.size : Int) then (some (a0.extract 4 ((wrap64 (4 + (wrap64 ((wrap64 (256 * (wrap64 (bt a0 2)))) + (wrap64 (bt a0 3)))))) : Int).toNat, 0, 0)) else (none)) else (none))) else (none)) else (none)) else (some ((⟨#[]⟩ : ByteArray), 1, 4))) else (none)) else (some ((⟨#[]⟩ : ByteArray), 0, 4))) else (none)))) = some (r1, r2, r3) := h
 clear h
 by_cases c2 : (a0.size : Int) > 65535
 ·rw [if_pos c2] at H
  have cK : decide (65535 < (a0.size : Int)) = true := decide_eq_true c2
  have cR : decide (65535 < a0.size) = true := decide_eq_true Z23
  clear c2
  simp only [Option.some.injEq, Prod.mk.injEq] at H
  obtain ⟨rfl, rfl, rfl⟩ := H
  go_enter Tryz.func16, Tryz.ntmps16
  go_wp2
  repeat (go_quiet (fail); try go_wp2)
  go_ret3
  exact ⟨Z8, Z11⟩
 ·rw [if_neg c2] at H
  have cK : decide (65535 < (a0.size : Int)) = false := decide_eq_false c2
  have cR : decide (65535 < a0.size) = false := decide_eq_false Z23
  clear c2
  by_cases c3 : (a0.size : Int) < 4
  ·rw [if_pos c3] at H
   have bU : decide ((a0.size : Int) < 4) = true := decide_eq_true c3
   have ck : decide (a0.size < 4) = true := decide_eq_true Z23
   clear c3
   simp only [Option.some.injEq, Prod.mk.injEq] at H
   obtain ⟨rfl, rfl, rfl⟩ := H
   go_enter Tryz.func16, Tryz.ntmps16
   go_wp2
   repeat (go_quiet (fail); try go_wp2)
   go_ret3
   exact ⟨Z8, Z11⟩
  ·rw [if_neg c3] at H
   have bU : decide ((a0.size : Int) < 4) = false := decide_eq_false c3
   have ck : decide (a0.size < 4) = false := decide_eq_false Z23
   clear c3
   by_cases c4 : 0 < (a0.size : Int)
   ·rw [if_pos c4] at H
    have bP : decide (0 < (a0.size : Int)) = true := decide_eq_true c4
    have cl : decide (0 < a0.size) = true := decide_eq_true Z23
    clear c4
    by_cases c6 : (bt a0 0) = 42
    ·rw [if_pos c6] at H
     have ce : ((bt a0 0) == 42) = true := beq_iff_eq.mpr c6
     have cJ : ((bt a0 0) != 42) = false := bne_eq_false_iff_eq.mpr c6
     clear c6
     by_cases c7 : 1 < (a0.size : Int)
     ·rw [if_pos c7] at H
      have cN : decide (1 < (a0.size : Int)) = true := decide_eq_true c7
      have fN : decide (1 < a0.size) = true := decide_eq_true Z23
      clear c7
      by_cases c9 : (bt a0 1) = 2
      ·rw [if_pos c9] at H
       have dX : ((bt a0 1) == 2) = true := beq_iff_eq.mpr c9
       have hS : ((bt a0 1) != 2) = false := bne_eq_false_iff_eq.mpr c9
       clear c9
       by_cases bW : 2 < (a0.size : Int)
       ·rw [if_pos bW] at H
        have bX : decide (2 < (a0.size : Int)) = true := decide_eq_true bW
        have dx : decide (2 < a0.size) = true := decide_eq_true Z23
        clear bW
        by_cases da : 3 < (a0.size : Int)
        ·rw [if_pos da] at H
         have eh : decide (3 < (a0.size : Int)) = true := decide_eq_true da
         have c12b1 : decide (3 < a0.size) = true := decide_eq_true Z23
         clear da
         by_cases cV : (a0.size : Int) < (wrap64 (4 + (wrap64 ((wrap64 (256 * (wrap64 (bt a0 2)))) + (wrap64 (bt a0 3))))))
         ·rw [if_pos cV] at H
          have eF : decide ((a0.size : Int) < (wrap64 (4 + (wrap64 ((wrap64 (256 * (wrap64 (bt a0 2)))) + (wrap64 (bt a0 3))))))) = true := decide_eq_true cV
          clear cV
          simp only [Option.some.injEq, Prod.mk.injEq] at H
          obtain ⟨rfl, rfl, rfl⟩ := H
          have p5 : 0 ≤ (0 : Int) := Z23
          have q5 : 0 < a0.size := (by have : (0 : Int) < (a0.size : Int) := of_decide_eq_true Z7; omega)
          have hx5 : ∀ h : 0 < a0.size, ((a0[0]'h).toNat : Int) = bt a0 0 := bt_at a0 0
          clear p5
          have qi5 : (0 < (a0.size : Int)) = True := eq_true (of_decide_eq_true Z7)
          replace q5 := eq_true q5
          have p8 : 0 ≤ (1 : Int) := Z23
          have q8 : 1 < a0.size := (by have : (1 : Int) < (a0.size : Int) := of_decide_eq_true Z7; omega)
          have hx8 : ∀ h : 1 < a0.size, ((a0[1]'h).toNat : Int) = bt a0 1 := bt_at a0 1
          clear p8
          have qi8 : (1 < (a0.size : Int)) = True := eq_true (of_decide_eq_true Z7)
          replace q8 := eq_true q8
          have p11 : 0 ≤ (2 : Int) := Z23
          have q11 : 2 < a0.size := (by have : (2 : Int) < (a0.size : Int) := of_decide_eq_true Z7; omega)
          have hx11 : ∀ h : 2 < a0.size, ((a0[2]'h).toNat : Int) = bt a0 2 := bt_at a0 2
          clear p11
          have qi11 : (2 < (a0.size : Int)) = True := eq_true (of_decide_eq_true Z7)
          replace q11 := eq_true q11
          have p13 : 0 ≤ (3 : Int) := Z23
          have q13 : 3 < a0.size := (by have : (3 : Int) < (a0.size : Int) := of_decide_eq_true Z7; omega)
          have hx13 : ∀ h : 3 < a0.size, ((a0[3]'h).toNat : Int) = bt a0 3 := bt_at a0 3
          clear p13
          have qi13 : (3 < (a0.size : Int)) = True := eq_true (of_decide_eq_true Z7)
          replace q13 := eq_true q13
          go_enter Tryz.func16, Tryz.ntmps16
          go_wp2
          repeat (go_quiet (fail); try go_wp2)
          go_ret3
          exact ⟨Z8, Z11⟩
         ·rw [if_neg cV] at H
          have eF : decide ((a0.size : Int) < (wrap64 (4 + (wrap64 ((wrap64 (256 * (wrap64 (bt a0 2)))) + (wrap64 (bt a0 3))))))) = false := decide_eq_false cV
          clear cV
          by_cases dC : 4 ≤ (wrap64 (4 + (wrap64 ((wrap64 (256 * (wrap64 (bt a0 2)))) + (wrap64 (bt a0 3))))))
          ·rw [if_pos dC] at H
           have fp := eq_true dC
           have fq : decide (4 ≤ (wrap64 (4 + (wrap64 ((wrap64 (256 * (wrap64 (bt a0 2)))) + (wrap64 (bt a0 3))))))) = true := decide_eq_true dC
           by_cases et : (wrap64 (4 + (wrap64 ((wrap64 (256 * (wrap64 (bt a0 2)))) + (wrap64 (bt a0 3)))))) ≤ (a0.size : Int)
           ·rw [if_pos et] at H
            have eG := eq_true et
            have c16b1 : decide ((wrap64 (4 + (wrap64 ((wrap64 (256 * (wrap64 (bt a0 2)))) + (wrap64 (bt a0 3)))))) ≤ (a0.size : Int)) = true := decide_eq_true et
            simp only [Option.some.injEq, Prod.mk.injEq] at H
            obtain ⟨rfl, rfl, rfl⟩ := H
            have p5 : 0 ≤ (0 : Int) := Z23
            have q5 : 0 < a0.size := (by have : (0 : Int) < (a0.size : Int) := of_decide_eq_true Z7; omega)
            have hx5 : ∀ h : 0 < a0.size, ((a0[0]'h).toNat : Int) = bt a0 0 := bt_at a0 0
            clear p5
            have qi5 : (0 < (a0.size : Int)) = True := eq_true (of_decide_eq_true Z7)
            replace q5 := eq_true q5
            have p8 : 0 ≤ (1 : Int) := Z23
            have q8 : 1 < a0.size := (by have : (1 : Int) < (a0.size : Int) := of_decide_eq_true Z7; omega)
            have hx8 : ∀ h : 1 < a0.size, ((a0[1]'h).toNat : Int) = bt a0 1 := bt_at a0 1
            clear p8
            have qi8 : (1 < (a0.size : Int)) = True := eq_true (of_decide_eq_true Z7)
            replace q8 := eq_true q8
            have p11 : 0 ≤ (2 : Int) := Z23
            have q11 : 2 < a0.size := (by have : (2 : Int) < (a0.size : Int) := of_decide_eq_true Z7; omega)
            have hx11 : ∀ h : 2 < a0.size, ((a0[2]'h).toNat : Int) = bt a0 2 := bt_at a0 2
            clear p11
            have qi11 : (2 < (a0.size : Int)) = True := eq_true (of_decide_eq_true Z7)
            replace q11 := eq_true q11
            have p13 : 0 ≤ (3 : Int) := Z23
            have q13 : 3 < a0.size := (by have : (3 : Int) < (a0.size : Int) := of_decide_eq_true Z7; omega)
            have hx13 : ∀ h : 3 < a0.size, ((a0[3]'h).toNat : Int) = bt a0 3 := bt_at a0 3
            clear p13
            have qi13 : (3 < (a0.size : Int)) = True := eq_true (of_decide_eq_true Z7)
            replace q13 := eq_true q13
            go_enter Tryz.func16, Tryz.ntmps16
            go_wp2
            repeat (go_quiet (fail); try go_wp2)
            go_ret3
            exact ⟨Z8, Z11⟩
           ·rw [if_neg et] at H
            exact absurd H Z27
          ·rw [if_neg dC] at H
           exact absurd H Z27
        ·rw [if_neg da] at H
         exact absurd H Z27
       ·rw [if_neg bW] at H
        exact absurd H Z27
      ·rw [if_neg c9] at H
       have dX : ((bt a0 1) == 2) = false := beq_eq_false_iff_ne.mpr c9
       have hS : ((bt a0 1) != 2) = true := bne_iff_ne.mpr c9
       simp only [Option.some.injEq, Prod.mk.injEq] at H
       obtain ⟨rfl, rfl, rfl⟩ := H
       have p5 : 0 ≤ (0 : Int) := Z23
       have q5 : 0 < a0.size := (by have : (0 : Int) < (a0.size : Int) := of_decide_eq_true Z7; omega)
       have hx5 : ∀ h : 0 < a0.size, ((a0[0]'h).toNat : Int) = bt a0 0 := bt_at a0 0
       clear p5
       have qi5 : (0 < (a0.size : Int)) = True := eq_true (of_decide_eq_true Z7)
       replace q5 := eq_true q5
       have p8 : 0 ≤ (1 : Int) := Z23
       have q8 : 1 < a0.size := (by have : (1 : Int) < (a0.size : Int) := of_decide_eq_true Z7; omega)
       have hx8 : ∀ h : 1 < a0.size, ((a0[1]'h).toNat : Int) = bt a0 1 := bt_at a0 1
       clear p8
       have qi8 : (1 < (a0.size : Int)) = True := eq_true (of_decide_eq_true Z7)
       replace q8 := eq_true q8
       go_enter Tryz.func16, Tryz.ntmps16
       go_wp2
       repeat (go_quiet (fail); try go_wp2)
       go_ret3
       exact ⟨Z8, Z11⟩
     ·rw [if_neg c7] at H
      exact absurd H Z27
    ·rw [if_neg c6] at H
     have ce : ((bt a0 0) == 42) = false := beq_eq_false_iff_ne.mpr c6
     have cJ : ((bt a0 0) != 42) = true := bne_iff_ne.mpr c6
     simp only [Option.some.injEq, Prod.mk.injEq] at H
     obtain ⟨rfl, rfl, rfl⟩ := H
     have p5 : 0 ≤ (0 : Int) := Z23
     have q5 : 0 < a0.size := (by have : (0 : Int) < (a0.size : Int) := of_decide_eq_true Z7; omega)
     have hx5 : ∀ h : 0 < a0.size, ((a0[0]'h).toNat : Int) = bt a0 0 := bt_at a0 0
     clear p5
     have qi5 : (0 < (a0.size : Int)) = True := eq_true (of_decide_eq_true Z7)
     replace q5 := eq_true q5
     go_enter Tryz.func16, Tryz.ntmps16
     go_wp2
     repeat (go_quiet (fail); try go_wp2)
     go_ret3
     exact ⟨Z8, Z11⟩
   ·rw [if_neg c4] at H
    exact absurd H Z27

end Go.Proofs.YtnllanjoebjeiaaGreat.PV
