-- Written by mp.py, a program of this work (wip/tools), out of the translation; Lean checks it.
import Derived.Test.YtnllanjoebjeiaaGreatPVxZ
import Derived.Test.YtnllanjoebjeiaaGreatPVxroadbookref07
import Derived.Test.YtnllanjoebjeiaaGreatPVxroadbookref18
namespace Go.Proofs.YtnllanjoebjeiaaGreat.PV
open Go.RowKit Go.Proofs.YtnllanjoebjeiaaGreatW.PrintWords Go.Proofs.YtnllanjoebjeiaaGreatW.PrintLast Go.Proofs.YtnllanjoebjeiaaGreatW.PrintMore
attribute [local go_sem] max2_int min2_int max_two min_two max_three min_three max_four min_four   -- for this text's walks alone
set_option linter.unusedVariables false
set_option linter.unusedSimpArgs false

/-! ### roadbookref19_Get: function 74 -/
def roadbookref19_Get.l0 : Nat → List (S48) → List (S80) → Bool → Int → Option ((List (S80)) × Bool × Int)
 | 0, _, _, _, _ => none
 | k + 1, x5, x8, x9, ik => if ik < (x5.length : Int) then (if 0 ≤ ik then (if ((rd_T48 x5 ik).f0) ≥ 2 then (if ((rd_T48 x5 ik).f0) ≤ 127 then (if x8.length < 5864062014805 then ((some (x8 ++ [(⟨(rd_T48 x5 ik).f0, (rd_T48 x5 ik).f2⟩ : S80)] : List (S80))).bind fun y110 => (if x9 = true then (roadbookref19_Get.l0 k x5 y110 (decide (((rd_T48 x5 ik).f0) ≤ 127)) (wrap64 (ik + 1))) else (roadbookref19_Get.l0 k x5 y110 false (wrap64 (ik + 1))))) else (none)) else (if x9 = true then (roadbookref19_Get.l0 k x5 x8 (decide (((rd_T48 x5 ik).f0) ≤ 127)) (wrap64 (ik + 1))) else (roadbookref19_Get.l0 k x5 x8 false (wrap64 (ik + 1))))) else (if x9 = true then (roadbookref19_Get.l0 k x5 x8 (decide (((rd_T48 x5 ik).f0) ≤ 127)) (wrap64 (ik + 1))) else (roadbookref19_Get.l0 k x5 x8 false (wrap64 (ik + 1))))) else (none)) else ((roadbookref07_Bytes.f k x8).bind fun t116 => (if t116 > 200 then (some (([] : List (S80)), false, 10)) else (some (x8, x9, 0))))
def roadbookref19_Get.f (k : Nat) (a0 : ByteArray) : Option ((List (S80)) × Bool × Int) := (roadbookref18_Split.f k a0 0).bind fun cM => (if cM.2.2 = 0 then (roadbookref19_Get.l0 k cM.1 ([] : List (S80)) true 0) else (some (([] : List (S80)), false, cM.2.2)))
theorem roadbookref19_Get.mono_l : ∀ k, (∀ y0 y1 y2 y3, LeO (roadbookref19_Get.l0 k y0 y1 y2 y3) (roadbookref19_Get.l0 (k + 1) y0 y1 y2 y3))
 | 0 => Sq.mz
 | k + 1 => by
  have ih0 := roadbookref19_Get.mono_l k
  ·intros
   unfold roadbookref19_Get.l0
   have m0 := roadbookref07_Bytes.mono
   have m1 := roadbookref18_Split.mono
   exact Sq.mo
theorem roadbookref19_Get.mono : ∀ a0 k, LeO (roadbookref19_Get.f k a0) (roadbookref19_Get.f (k + 1) a0) := by
 intro a0 k
 have ih0 := roadbookref19_Get.mono_l k
 unfold roadbookref19_Get.f
 have m0 := roadbookref07_Bytes.mono
 have m1 := roadbookref18_Split.mono
 exact Sq.mo
def roadbookref19_Get.T10 : Bool × List (List Nat × List Nat) := (true, [([], []), ([], []), ([], []), ([1, 2], [1, 2]), ([3], [3]), ([4], [4]), ([], []), ([], []), ([6, 7], [6, 7]), ([8], [8]), ([9], [9]), ([5, 10], [5, 10]), ([11], [11]), ([0, 12], [0, 12]), ([13, 13, 0, 1, 2, 3, 4, 5, 6, 7, 8, 9, 10, 11, 12, 13], [0, 13])])
def roadbookref19_Get.B10 : List Nat := [0, 0, 0, 6, 14, 30, 0, 0, 192, 448, 960, 2046, 4094, 8191, 16383]
theorem roadbookref19_Get.tab10 : rtab .any (opsOf Tryz.f74 10) = roadbookref19_Get.T10 := by kernel_rfl
theorem roadbookref19_Get.bits10 : waitsOk roadbookref19_Get.T10.2 roadbookref19_Get.B10 = true := by kernel_rfl
set_option maxHeartbeats 8000000 in
set_option maxRecDepth 100000 in
theorem roadbookref19_Get.calls (k : Nat) (a0 : ByteArray) (r1 : List (S80)) (r2 : Bool) (r3 : Int) (w : World) (h : roadbookref19_Get.f k a0 = some (r1, r2, r3)) :
  Calls Tryz.prog 74 #[.string a0] w fun e w' => ∃ v0_ : Value, e = .returned (.tuple #[v0_, .bool r2, .int .i64 r3]) ∧ Kd.R k80 80 w' w.heap.size (fun _ => True) v0_ r1 ∧ Below w.heap.size w w' := by
 have fz := Tryz.underlying80
 have HB := Aside0.mk (Below.refl w.heap.size w)
 have H : ((roadbookref18_Split.f k a0 0).bind fun cM => (if cM.2.2 = 0 then (roadbookref19_Get.l0 k cM.1 ([] : List (S80)) true 0) else (some (([] : List (S80)), false, cM.2.2)))) = some (r1, r2, r3) := h
 clear h
 replace H := Option.bind_eq_some_iff.mp H
 obtain ⟨⟨aM, bl, bK⟩, dQ, H⟩ := H
 replace H : (if bK = 0 then (roadbookref19_Get.l0 k aM ([] : List (S80)) true 0) else (some (([] : List (S80)), false, bK))) = some (r1, r2, r3) := H
 have A2 := Aside0.mk dQ
 clear dQ
 by_cases c3 : bK = 0
 ·rw [if_pos c3] at H
  have bU : (bK == 0) = true := beq_iff_eq.mpr c3
  have ck : (bK != 0) = false := bne_eq_false_iff_eq.mpr c3
  clear c3
  have H' := Aside0.mk H
  clear H
  go_enter Tryz.func74, Tryz.ntmps74
  go_wp2_with (first | ((with_reducible refine gate_callee (f := 17) rfl ?_); refine goesL_ (some 13) rfl rfl Tryz.func17 Z12 rfl #[.string a0, .int .i64 0] rfl Z3 ?_; (with_reducible refine (roadbookref18_Split.calls k a0 0 aM bl bK _ A2.out).mono ?_); rintro e w4 ⟨v104, rfl, ho0, hb⟩; refine ⟨_, rfl, ?_⟩; have HO105 := Aside0.mk (Kd.R_lower ho0 (below_size Z2)); replace HB := Aside0.mk (below_step Z2 hb); clear hb ho0))
  go_loopg [8, 9, 10] k (fun kq v8 v9 fh w' => ∃ (aX : List (S80)) (x9_1 : Bool) (x10_1 : Int), v9 = .bool x9_1 ∧ fh = .int .i64 x10_1 ∧ Aside0 (roadbookref19_Get.l0 kq aM aX x9_1 x10_1 = some (r1, r2, r3)) ∧ Aside0 (kq ≤ k) ∧ Aside0 (Kd.R k48 48 w' w.heap.size (fun _ => True) v104 aM) ∧ Aside0 (Kd.R k80 80 w' w.heap.size (fun _ => True) v8 aX) ∧ Aside0 (Below w.heap.size w w'))
  case atStart => exact ⟨(([] : List (S80))), (true), (0), Z8, Z8, H', ⟨Nat.le_refl _⟩, ⟨by (with_reducible repeat (first | apply Kd.R_alloc | apply Kd.R_drewN | apply Kd.R_drew)); exact HO105.out⟩, ⟨Z28⟩, ⟨Z2⟩⟩
  case round =>
   clear H'
   try clear c1
   try clear p2
   try clear c3
   try clear bU
   try clear ck
   obtain ⟨aX, x9_1, x10_1, rfl, rfl, HA, HK1, HO_5, HO_8, HB⟩ := hrel
   cases gk with
   | zero => exact absurd HA.out (by simp [roadbookref19_Get.l0])
   | succ k1 =>
    have H := HA.out
    clear HA
    simp only [roadbookref19_Get.l0] at H
    by_cases c5 : x10_1 < (aM.length : Int)
    ·rw [if_pos c5] at H
     have ca : decide (x10_1 < (aM.length : Int)) = true := decide_eq_true c5
     clear c5
     by_cases c6 : 0 ≤ x10_1
     ·rw [if_pos c6] at H
      have ce : decide (0 ≤ x10_1) = true := decide_eq_true c6
      clear c6
      by_cases c7 : ((rd_T48 aM x10_1).f0) ≥ 2
      ·rw [if_pos c7] at H
       have cN : decide (2 ≤ ((rd_T48 aM x10_1).f0)) = true := decide_eq_true c7
       clear c7
       by_cases c8 : ((rd_T48 aM x10_1).f0) ≤ 127
       ·rw [if_pos c8] at H
        have ec : decide (((rd_T48 aM x10_1).f0) ≤ 127) = true := decide_eq_true c8
        clear c8
        by_cases c9 : aX.length < 5864062014805
        ·rw [if_pos c9] at H
         have LMc9 := Aside0.mk c9
         clear c9
         obtain ⟨y110, hy110⟩ : ∃ y_ : List (S80), y_ = (aX ++ [(⟨(rd_T48 aM x10_1).f0, (rd_T48 aM x10_1).f2⟩ : S80)]) := ⟨_, rfl⟩
         replace H : (if x9_1 = true then (roadbookref19_Get.l0 k1 aM y110 (decide (((rd_T48 aM x10_1).f0) ≤ 127)) (wrap64 (x10_1 + 1))) else (roadbookref19_Get.l0 k1 aM y110 false (wrap64 (x10_1 + 1)))) = some (r1, r2, r3) := by first | (rw [hy110]; with_reducible exact H) | (have H2_ := (Option.bind_some _ _).symm.trans H; rw [hy110]; with_reducible exact H2_) | (have H2_ := (Option.bind_some _ _).symm.trans H; with_reducible exact H2_) | with_reducible exact H | (rw [hy110]; exact H) | exact H
         have Ny110 := Aside0.mk hy110
         clear hy110
         by_cases bW : x9_1 = true
         ·subst bW
          have H1 : (roadbookref19_Get.l0 k1 aM y110 (decide (((rd_T48 aM x10_1).f0) ≤ 127)) (wrap64 (x10_1 + 1))) = some (r1, r2, r3) := by rw [if_pos rfl] at H; exact H
          clear H
          have H := H1
          clear H1
          have H' := Aside0.mk H
          clear H
          obtain ⟨Ao11, co11, eo11⟩ := Kd.R_slice HO_5.out
          subst eo11
          have p106 : 0 ≤ (x10_1 : Int) := of_decide_eq_true Z7
          have q106 : x10_1 < (aM.length : Int) := of_decide_eq_true Z7
          obtain ⟨ad106, e106, hx106_0, hx106_1, hx106_2⟩ := at_T48 (Kd.R_reads' HO_5.out).2.2 x10_1 p106 q106
          cases e106
          replace p106 := eq_true p106
          replace q106 := eq_true q106
          have p107 : 0 ≤ (x10_1 : Int) := of_decide_eq_true Z7
          have q107 : x10_1 < (aM.length : Int) := of_decide_eq_true Z7
          obtain ⟨ad107, e107, hx107_0, hx107_1, hx107_2⟩ := at_T48 (Kd.R_reads' HO_5.out).2.2 x10_1 p107 q107
          obtain rfl : ad106 = ad107 := (by injection e107)
          replace p107 := eq_true p107
          replace q107 := eq_true q107
          try go_wp2
          have bL := Aside0.mk (Kd.R_drew HO_5.out)
          have bM := Aside0.mk (Kd.R_drew HO_8.out)
          have cf := Aside0.mk (below_drew1 HB.out)
          clear HO_5
          clear HO_8
          clear HB
          have HO_5 := bL
          have HO_8 := bM
          have HB := cf
          clear bL bM cf
          have p108 : 0 ≤ (x10_1 : Int) := of_decide_eq_true Z7
          have q108 : x10_1 < (aM.length : Int) := of_decide_eq_true Z7
          obtain ⟨ad108, e108, hx108_0, hx108_1, hx108_2⟩ := at_T48 (Kd.R_reads' HO_5.out).2.2 x10_1 p108 q108
          obtain rfl : ad106 = ad108 := (by injection e108)
          replace p108 := eq_true p108
          replace q108 := eq_true q108
          have p109 : 0 ≤ (x10_1 : Int) := of_decide_eq_true Z7
          have q109 : x10_1 < (aM.length : Int) := of_decide_eq_true Z7
          obtain ⟨ad109, e109, hx109_0, hx109_1, hx109_2⟩ := at_T48 (Kd.R_reads' HO_5.out).2.2 x10_1 p109 q109
          obtain rfl : ad106 = ad109 := (by injection e109)
          replace p109 := eq_true p109
          replace q109 := eq_true q109
          refine start_ (n := 15) (S := fun w' => w'.cell? (ad106.add ((x10_1).toNat * 3)) = some (.int .i64 ((rd_T48 aM x10_1).f0)) ∧ w'.cell? ⟨(ad106.add ((x10_1).toNat * 3)).block, (ad106.add ((x10_1).toNat * 3)).off + 1, none⟩ = some (.int .i64 ((rd_T48 aM x10_1).f1)) ∧ w'.cell? ⟨(ad106.add ((x10_1).toNat * 3)).block, (ad106.add ((x10_1).toNat * 3)).off + 2, none⟩ = some (.string ((rd_T48 aM x10_1).f2)) ∧ w'.cell? (ad106.add ((x10_1).toNat * 3)) = some (.int .i64 ((rd_T48 aM x10_1).f0)) ∧ w'.cell? ⟨(ad106.add ((x10_1).toNat * 3)).block, (ad106.add ((x10_1).toNat * 3)).off + 1, none⟩ = some (.int .i64 ((rd_T48 aM x10_1).f1)) ∧ w'.cell? ⟨(ad106.add ((x10_1).toNat * 3)).block, (ad106.add ((x10_1).toNat * 3)).off + 2, none⟩ = some (.string ((rd_T48 aM x10_1).f2))) (ds := [12, 13]) (Sq.b 15 0) Z12 rfl rfl ⟨hx108_0, hx108_1, hx108_2, hx109_0, hx109_1, hx109_2⟩ (fun hHeld => ?_); refine with_tabW roadbookref19_Get.tab10 roadbookref19_Get.bits10 (fun HT_ HW_ => ?_)
          generalize wr.drew = iv at HO_5 HO_8 HB hx108_0 hx108_1 hx108_2 hx109_0 hx109_1 hx109_2 hHeld ⊢
          refine Sq.pur 0 (some 40) (Sq.b 15 1) HT_.out ?_
          refine Sq.pur 1 (some 41) (Sq.b 15 3) HT_.out ?_
          refine Sq.pur 2 (some 42) (Sq.b 15 7) HT_.out ?_
          refine Sq.pur 3 (some 43) (Sq.b 15 15) HT_.out ?_
          refine Sq.pur 4 (some 44) (Sq.b 15 31) HT_.out ?_
          refine Sq.pur 6 (some 46) (Sq.b 15 95) HT_.out ?_
          refine Sq.pur 7 (some 47) (Sq.b 15 223) HT_.out ?_
          refine Sq.pur 8 (some 48) (Sq.b 15 479) HT_.out ?_
          refine Sq.pur 9 (some 49) (Sq.b 15 991) HT_.out ?_
          refine Sq.tak 5 (some 45) (Sq.b 15 1023) HT_.out HW_.out hHeld (v := ?_) (a' := ?_) ?_ ?_ ?_
          rotate_left
          ·rintro w' ⟨s0, s1, s2, s3, s4, s5⟩
           go_simp
           with_reducible rfl
          rotate_left
          ·simp only [Act.put, Sq.s1, Sq.s2, Sq.s3, i64_w, i32_w]
           rfl
          refine Sq.tak 10 (some 50) (Sq.b 15 2047) HT_.out HW_.out hHeld (v := ?_) (a' := ?_) ?_ ?_ ?_
          rotate_left
          ·rintro w' ⟨s0, s1, s2, s3, s4, s5⟩
           go_simp
           with_reducible rfl
          rotate_left
          ·simp only [Act.put, Sq.s1, Sq.s2, Sq.s3, i64_w, i32_w]
           rfl
          refine Sq.pur 11 (some 51) (Sq.b 15 4095) HT_.out ?_
          refine last_ (i := 12) (N := some 52) (Sq.b 15 8191) rfl rfl (one_of HT_.out Z12) Z34 (fun K hK => ?_)
          refine value_ (w1 := ?_) (v := ?_) Z16 rfl ?_ ?_
          rotate_left 2
          ·go_simp
           constructor
           ·rfl
           ·rfl
          refine hK.out _ _ ?_
          clear hK K
          refine norm_ (a' := ?_) ?_ ?_
          rotate_left
          ·show Act.put _ (some 52) _ = _
           simp only [Act.put, Sq.s1, Sq.s2, Sq.s3, i64_w, i32_w]
           rfl
          refine last_ (i := 13) (N := some 53) (Sq.b 15 16383) rfl rfl (one_of HT_.out Z12) Z34 (fun K hK => ?_)
          refine Kd.R_append_step k80 (w0 := w) w.heap.size Z16 (.tmp 40) (.tmp 52) 30 80 (.agg #[(.int .i64 0), (.string ⟨#[]⟩)]) 24 rfl Tryz.underlying30 info80 rfl Z34 Z23 u8 aX (⟨(rd_T48 aM x10_1).f0, (rd_T48 aM x10_1).f2⟩ : S80) [.int .i64 ((rd_T48 aM x10_1).f0), .string ((rd_T48 aM x10_1).f2)] (fun _ => True) (fun _ => False) rfl rfl ?aP (fun _ hk => hk.elim) ?aF ?aO ?aB ?aS ?aL ?_
          (case aP => exact k80_mkM _ _ _ (⟨(rd_T48 aM x10_1).f0, (rd_T48 aM x10_1).f2⟩ : S80))
          (case aB => exact Z2)
          (case aF => exact (fun _ _ => trivial))
          (case aO => exact (by (with_reducible repeat (first | apply Kd.R_alloc | apply Kd.R_drewN | apply Kd.R_drew)); exact HO_8.out))
          (case aS => exact (below_size Z2))
          (case aL => have := LMc9.out; omega)
          intro v111 gi ho hb hg hat
          rw [← Ny110.out] at ho
          have bL := Aside0.mk (Kd.R_over' (by (with_reducible repeat (first | apply Kd.R_alloc | apply Kd.R_drewN | apply Kd.R_drew)); exact HO_5.out) (Kd.R_typed (by (with_reducible repeat (first | apply Kd.R_alloc | apply Kd.R_drewN | apply Kd.R_drew)); exact HO_8.out)) Z34 hg)
          have bM := Aside0.mk (hb)
          have cf := Aside0.mk (ho)
          clear HO_5
          clear HB
          clear HO_8
          have HO_5 := bL
          have HB := bM
          have HO112 := cf
          clear bL bM cf
          clear ho hb hg hat
          refine hK.out _ _ ?_
          clear hK K
          refine norm_ (a' := ?_) ?_ ?_
          rotate_left
          ·show Act.put _ (some 53) _ = _
           simp only [Act.put, Sq.s1, Sq.s2, Sq.s3, i64_w, i32_w]
           rfl
          refine Sq.pur 14 (some 8) (Sq.b 15 32767) HT_.out ?_
          refine done_ (done_of HT_.out Z12) ?_
          have p113 : 0 ≤ (x10_1 : Int) := of_decide_eq_true Z7
          have q113 : x10_1 < (aM.length : Int) := of_decide_eq_true Z7
          obtain ⟨ad113, e113, hx113_0, hx113_1, hx113_2⟩ := at_T48 (Kd.R_reads' HO_5.out).2.2 x10_1 p113 q113
          obtain rfl : ad106 = ad113 := (by injection e113)
          replace p113 := eq_true p113
          replace q113 := eq_true q113
          try go_wp2
          go_roundg k1
          case measure => have := HK1.out; omega
          case rel => exact ⟨(y110), (decide (((rd_T48 aM x10_1).f0) ≤ 127)), (wrap64 (x10_1 + 1)), Z8, Z8, H', ⟨Z35⟩, ⟨by (with_reducible repeat (first | apply Kd.R_alloc | apply Kd.R_drewN | apply Kd.R_drew)); exact HO_5.out⟩, ⟨by (with_reducible repeat (first | apply Kd.R_alloc | apply Kd.R_drewN | apply Kd.R_drew)); exact HO112.out⟩, ⟨Z2⟩⟩
         ·replace bW := Bool.eq_false_iff.mpr bW
          subst bW
          have H1 : (roadbookref19_Get.l0 k1 aM y110 false (wrap64 (x10_1 + 1))) = some (r1, r2, r3) := by rw [if_neg (show ¬ (false = true) by decide)] at H; exact H
          clear H
          have H := H1
          clear H1
          have H' := Aside0.mk H
          clear H
          obtain ⟨Ao14, co14, eo14⟩ := Kd.R_slice HO_5.out
          subst eo14
          have p106 : 0 ≤ (x10_1 : Int) := of_decide_eq_true Z7
          have q106 : x10_1 < (aM.length : Int) := of_decide_eq_true Z7
          obtain ⟨ad106, e106, hx106_0, hx106_1, hx106_2⟩ := at_T48 (Kd.R_reads' HO_5.out).2.2 x10_1 p106 q106
          cases e106
          replace p106 := eq_true p106
          replace q106 := eq_true q106
          have p107 : 0 ≤ (x10_1 : Int) := of_decide_eq_true Z7
          have q107 : x10_1 < (aM.length : Int) := of_decide_eq_true Z7
          obtain ⟨ad107, e107, hx107_0, hx107_1, hx107_2⟩ := at_T48 (Kd.R_reads' HO_5.out).2.2 x10_1 p107 q107
          obtain rfl : ad106 = ad107 := (by injection e107)
          replace p107 := eq_true p107
          replace q107 := eq_true q107
          try go_wp2
          have bL := Aside0.mk (Kd.R_drew HO_5.out)
          have bM := Aside0.mk (Kd.R_drew HO_8.out)
          have cf := Aside0.mk (below_drew1 HB.out)
          clear HO_5
          clear HO_8
          clear HB
          have HO_5 := bL
          have HO_8 := bM
          have HB := cf
          clear bL bM cf
          have p108 : 0 ≤ (x10_1 : Int) := of_decide_eq_true Z7
          have q108 : x10_1 < (aM.length : Int) := of_decide_eq_true Z7
          obtain ⟨ad108, e108, hx108_0, hx108_1, hx108_2⟩ := at_T48 (Kd.R_reads' HO_5.out).2.2 x10_1 p108 q108
          obtain rfl : ad106 = ad108 := (by injection e108)
          replace p108 := eq_true p108
          replace q108 := eq_true q108
          have p109 : 0 ≤ (x10_1 : Int) := of_decide_eq_true Z7
          have q109 : x10_1 < (aM.length : Int) := of_decide_eq_true Z7
          obtain ⟨ad109, e109, hx109_0, hx109_1, hx109_2⟩ := at_T48 (Kd.R_reads' HO_5.out).2.2 x10_1 p109 q109
          obtain rfl : ad106 = ad109 := (by injection e109)
          replace p109 := eq_true p109
          replace q109 := eq_true q109
          refine start_ (n := 15) (S := fun w' => w'.cell? (ad106.add ((x10_1).toNat * 3)) = some (.int .i64 ((rd_T48 aM x10_1).f0)) ∧ w'.cell? ⟨(ad106.add ((x10_1).toNat * 3)).block, (ad106.add ((x10_1).toNat * 3)).off + 1, none⟩ = some (.int .i64 ((rd_T48 aM x10_1).f1)) ∧ w'.cell? ⟨(ad106.add ((x10_1).toNat * 3)).block, (ad106.add ((x10_1).toNat * 3)).off + 2, none⟩ = some (.string ((rd_T48 aM x10_1).f2)) ∧ w'.cell? (ad106.add ((x10_1).toNat * 3)) = some (.int .i64 ((rd_T48 aM x10_1).f0)) ∧ w'.cell? ⟨(ad106.add ((x10_1).toNat * 3)).block, (ad106.add ((x10_1).toNat * 3)).off + 1, none⟩ = some (.int .i64 ((rd_T48 aM x10_1).f1)) ∧ w'.cell? ⟨(ad106.add ((x10_1).toNat * 3)).block, (ad106.add ((x10_1).toNat * 3)).off + 2, none⟩ = some (.string ((rd_T48 aM x10_1).f2))) (ds := [12, 13]) (Sq.b 15 0) Z12 rfl rfl ⟨hx108_0, hx108_1, hx108_2, hx109_0, hx109_1, hx109_2⟩ (fun hHeld => ?_); refine with_tabW roadbookref19_Get.tab10 roadbookref19_Get.bits10 (fun HT_ HW_ => ?_)
          generalize wr.drew = hQ at HO_5 HO_8 HB hx108_0 hx108_1 hx108_2 hx109_0 hx109_1 hx109_2 hHeld ⊢
          refine Sq.pur 0 (some 40) (Sq.b 15 1) HT_.out ?_
          refine Sq.pur 1 (some 41) (Sq.b 15 3) HT_.out ?_
          refine Sq.pur 2 (some 42) (Sq.b 15 7) HT_.out ?_
          refine Sq.pur 3 (some 43) (Sq.b 15 15) HT_.out ?_
          refine Sq.pur 4 (some 44) (Sq.b 15 31) HT_.out ?_
          refine Sq.pur 6 (some 46) (Sq.b 15 95) HT_.out ?_
          refine Sq.pur 7 (some 47) (Sq.b 15 223) HT_.out ?_
          refine Sq.pur 8 (some 48) (Sq.b 15 479) HT_.out ?_
          refine Sq.pur 9 (some 49) (Sq.b 15 991) HT_.out ?_
          refine Sq.tak 5 (some 45) (Sq.b 15 1023) HT_.out HW_.out hHeld (v := ?_) (a' := ?_) ?_ ?_ ?_
          rotate_left
          ·rintro w' ⟨s0, s1, s2, s3, s4, s5⟩
           go_simp
           with_reducible rfl
          rotate_left
          ·simp only [Act.put, Sq.s1, Sq.s2, Sq.s3, i64_w, i32_w]
           rfl
          refine Sq.tak 10 (some 50) (Sq.b 15 2047) HT_.out HW_.out hHeld (v := ?_) (a' := ?_) ?_ ?_ ?_
          rotate_left
          ·rintro w' ⟨s0, s1, s2, s3, s4, s5⟩
           go_simp
           with_reducible rfl
          rotate_left
          ·simp only [Act.put, Sq.s1, Sq.s2, Sq.s3, i64_w, i32_w]
           rfl
          refine Sq.pur 11 (some 51) (Sq.b 15 4095) HT_.out ?_
          refine last_ (i := 12) (N := some 52) (Sq.b 15 8191) rfl rfl (one_of HT_.out Z12) Z34 (fun K hK => ?_)
          refine value_ (w1 := ?_) (v := ?_) Z16 rfl ?_ ?_
          rotate_left 2
          ·go_simp
           constructor
           ·rfl
           ·rfl
          refine hK.out _ _ ?_
          clear hK K
          refine norm_ (a' := ?_) ?_ ?_
          rotate_left
          ·show Act.put _ (some 52) _ = _
           simp only [Act.put, Sq.s1, Sq.s2, Sq.s3, i64_w, i32_w]
           rfl
          refine last_ (i := 13) (N := some 53) (Sq.b 15 16383) rfl rfl (one_of HT_.out Z12) Z34 (fun K hK => ?_)
          refine Kd.R_append_step k80 (w0 := w) w.heap.size Z16 (.tmp 40) (.tmp 52) 30 80 (.agg #[(.int .i64 0), (.string ⟨#[]⟩)]) 24 rfl Tryz.underlying30 info80 rfl Z34 Z23 u8 aX (⟨(rd_T48 aM x10_1).f0, (rd_T48 aM x10_1).f2⟩ : S80) [.int .i64 ((rd_T48 aM x10_1).f0), .string ((rd_T48 aM x10_1).f2)] (fun _ => True) (fun _ => False) rfl rfl ?aP (fun _ hk => hk.elim) ?aF ?aO ?aB ?aS ?aL ?_
          (case aP => exact k80_mkM _ _ _ (⟨(rd_T48 aM x10_1).f0, (rd_T48 aM x10_1).f2⟩ : S80))
          (case aB => exact Z2)
          (case aF => exact (fun _ _ => trivial))
          (case aO => exact (by (with_reducible repeat (first | apply Kd.R_alloc | apply Kd.R_drewN | apply Kd.R_drew)); exact HO_8.out))
          (case aS => exact (below_size Z2))
          (case aL => have := LMc9.out; omega)
          intro v111 hD ho hb hg hat
          rw [← Ny110.out] at ho
          have bL := Aside0.mk (Kd.R_over' (by (with_reducible repeat (first | apply Kd.R_alloc | apply Kd.R_drewN | apply Kd.R_drew)); exact HO_5.out) (Kd.R_typed (by (with_reducible repeat (first | apply Kd.R_alloc | apply Kd.R_drewN | apply Kd.R_drew)); exact HO_8.out)) Z34 hg)
          have bM := Aside0.mk (hb)
          have cf := Aside0.mk (ho)
          clear HO_5
          clear HB
          clear HO_8
          have HO_5 := bL
          have HB := bM
          have HO112 := cf
          clear bL bM cf
          clear ho hb hg hat
          refine hK.out _ _ ?_
          clear hK K
          refine norm_ (a' := ?_) ?_ ?_
          rotate_left
          ·show Act.put _ (some 53) _ = _
           simp only [Act.put, Sq.s1, Sq.s2, Sq.s3, i64_w, i32_w]
           rfl
          refine Sq.pur 14 (some 8) (Sq.b 15 32767) HT_.out ?_
          refine done_ (done_of HT_.out Z12) ?_
          try go_wp2
          go_roundg k1
          case measure => have := HK1.out; omega
          case rel => exact ⟨(y110), (false), (wrap64 (x10_1 + 1)), Z8, Z8, H', ⟨Z35⟩, ⟨by (with_reducible repeat (first | apply Kd.R_alloc | apply Kd.R_drewN | apply Kd.R_drew)); exact HO_5.out⟩, ⟨by (with_reducible repeat (first | apply Kd.R_alloc | apply Kd.R_drewN | apply Kd.R_drew)); exact HO112.out⟩, ⟨Z2⟩⟩
        ·rw [if_neg c9] at H
         exact absurd H Z27
       ·rw [if_neg c8] at H
        have ec : decide (((rd_T48 aM x10_1).f0) ≤ 127) = false := decide_eq_false c8
        clear c8
        by_cases eU : x9_1 = true
        ·subst eU
         have H1 : (roadbookref19_Get.l0 k1 aM aX (decide (((rd_T48 aM x10_1).f0) ≤ 127)) (wrap64 (x10_1 + 1))) = some (r1, r2, r3) := by rw [if_pos rfl] at H; exact H
         clear H
         have H := H1
         clear H1
         have H' := Aside0.mk H
         clear H
         obtain ⟨Ao18, co18, eo18⟩ := Kd.R_slice HO_5.out
         subst eo18
         have p106 : 0 ≤ (x10_1 : Int) := of_decide_eq_true Z7
         have q106 : x10_1 < (aM.length : Int) := of_decide_eq_true Z7
         obtain ⟨ad106, e106, hx106_0, hx106_1, hx106_2⟩ := at_T48 (Kd.R_reads' HO_5.out).2.2 x10_1 p106 q106
         cases e106
         replace p106 := eq_true p106
         replace q106 := eq_true q106
         have p107 : 0 ≤ (x10_1 : Int) := of_decide_eq_true Z7
         have q107 : x10_1 < (aM.length : Int) := of_decide_eq_true Z7
         obtain ⟨ad107, e107, hx107_0, hx107_1, hx107_2⟩ := at_T48 (Kd.R_reads' HO_5.out).2.2 x10_1 p107 q107
         obtain rfl : ad106 = ad107 := (by injection e107)
         replace p107 := eq_true p107
         replace q107 := eq_true q107
         have p114 : 0 ≤ (x10_1 : Int) := of_decide_eq_true Z7
         have q114 : x10_1 < (aM.length : Int) := of_decide_eq_true Z7
         obtain ⟨ad114, e114, hx114_0, hx114_1, hx114_2⟩ := at_T48 (Kd.R_reads' HO_5.out).2.2 x10_1 p114 q114
         obtain rfl : ad106 = ad114 := (by injection e114)
         replace p114 := eq_true p114
         replace q114 := eq_true q114
         go_wp2
         go_roundg k1
         case measure => have := HK1.out; omega
         case rel => exact ⟨(aX), (decide (((rd_T48 aM x10_1).f0) ≤ 127)), (wrap64 (x10_1 + 1)), Z8, Z8, H', ⟨Z35⟩, ⟨by (with_reducible repeat (first | apply Kd.R_alloc | apply Kd.R_drewN | apply Kd.R_drew)); exact HO_5.out⟩, ⟨by (with_reducible repeat (first | apply Kd.R_alloc | apply Kd.R_drewN | apply Kd.R_drew)); exact HO_8.out⟩, ⟨Z2⟩⟩
        ·replace eU := Bool.eq_false_iff.mpr eU
         subst eU
         have H1 : (roadbookref19_Get.l0 k1 aM aX false (wrap64 (x10_1 + 1))) = some (r1, r2, r3) := by rw [if_neg (show ¬ (false = true) by decide)] at H; exact H
         clear H
         have H := H1
         clear H1
         have H' := Aside0.mk H
         clear H
         obtain ⟨Ao19, co19, eo19⟩ := Kd.R_slice HO_5.out
         subst eo19
         have p106 : 0 ≤ (x10_1 : Int) := of_decide_eq_true Z7
         have q106 : x10_1 < (aM.length : Int) := of_decide_eq_true Z7
         obtain ⟨ad106, e106, hx106_0, hx106_1, hx106_2⟩ := at_T48 (Kd.R_reads' HO_5.out).2.2 x10_1 p106 q106
         cases e106
         replace p106 := eq_true p106
         replace q106 := eq_true q106
         have p107 : 0 ≤ (x10_1 : Int) := of_decide_eq_true Z7
         have q107 : x10_1 < (aM.length : Int) := of_decide_eq_true Z7
         obtain ⟨ad107, e107, hx107_0, hx107_1, hx107_2⟩ := at_T48 (Kd.R_reads' HO_5.out).2.2 x10_1 p107 q107
         obtain rfl : ad106 = ad107 := (by injection e107)
         replace p107 := eq_true p107
         replace q107 := eq_true q107
         go_wp2
         go_roundg k1
         case measure => have := HK1.out; omega
         case rel => exact ⟨(aX), (false), (wrap64 (x10_1 + 1)), Z8, Z8, H', ⟨Z35⟩, ⟨by (with_reducible repeat (first | apply Kd.R_alloc | apply Kd.R_drewN | apply Kd.R_drew)); exact HO_5.out⟩, ⟨by (with_reducible repeat (first | apply Kd.R_alloc | apply Kd.R_drewN | apply Kd.R_drew)); exact HO_8.out⟩, ⟨Z2⟩⟩
      ·rw [if_neg c7] at H
       have cN : decide (2 ≤ ((rd_T48 aM x10_1).f0)) = false := decide_eq_false c7
       clear c7
       by_cases hI : x9_1 = true
       ·subst hI
        have H1 : (roadbookref19_Get.l0 k1 aM aX (decide (((rd_T48 aM x10_1).f0) ≤ 127)) (wrap64 (x10_1 + 1))) = some (r1, r2, r3) := by rw [if_pos rfl] at H; exact H
        clear H
        have H := H1
        clear H1
        have H' := Aside0.mk H
        clear H
        obtain ⟨Ao21, co21, eo21⟩ := Kd.R_slice HO_5.out
        subst eo21
        have p106 : 0 ≤ (x10_1 : Int) := of_decide_eq_true Z7
        have q106 : x10_1 < (aM.length : Int) := of_decide_eq_true Z7
        obtain ⟨ad106, e106, hx106_0, hx106_1, hx106_2⟩ := at_T48 (Kd.R_reads' HO_5.out).2.2 x10_1 p106 q106
        cases e106
        replace p106 := eq_true p106
        replace q106 := eq_true q106
        have p115 : 0 ≤ (x10_1 : Int) := of_decide_eq_true Z7
        have q115 : x10_1 < (aM.length : Int) := of_decide_eq_true Z7
        obtain ⟨ad115, e115, hx115_0, hx115_1, hx115_2⟩ := at_T48 (Kd.R_reads' HO_5.out).2.2 x10_1 p115 q115
        obtain rfl : ad106 = ad115 := (by injection e115)
        replace p115 := eq_true p115
        replace q115 := eq_true q115
        go_wp2
        go_roundg k1
        case measure => have := HK1.out; omega
        case rel => exact ⟨(aX), (decide (((rd_T48 aM x10_1).f0) ≤ 127)), (wrap64 (x10_1 + 1)), Z8, Z8, H', ⟨Z35⟩, ⟨by (with_reducible repeat (first | apply Kd.R_alloc | apply Kd.R_drewN | apply Kd.R_drew)); exact HO_5.out⟩, ⟨by (with_reducible repeat (first | apply Kd.R_alloc | apply Kd.R_drewN | apply Kd.R_drew)); exact HO_8.out⟩, ⟨Z2⟩⟩
       ·replace hI := Bool.eq_false_iff.mpr hI
        subst hI
        have H1 : (roadbookref19_Get.l0 k1 aM aX false (wrap64 (x10_1 + 1))) = some (r1, r2, r3) := by rw [if_neg (show ¬ (false = true) by decide)] at H; exact H
        clear H
        have H := H1
        clear H1
        have H' := Aside0.mk H
        clear H
        obtain ⟨Ao22, co22, eo22⟩ := Kd.R_slice HO_5.out
        subst eo22
        have p106 : 0 ≤ (x10_1 : Int) := of_decide_eq_true Z7
        have q106 : x10_1 < (aM.length : Int) := of_decide_eq_true Z7
        obtain ⟨ad106, e106, hx106_0, hx106_1, hx106_2⟩ := at_T48 (Kd.R_reads' HO_5.out).2.2 x10_1 p106 q106
        cases e106
        replace p106 := eq_true p106
        replace q106 := eq_true q106
        go_wp2
        go_roundg k1
        case measure => have := HK1.out; omega
        case rel => exact ⟨(aX), (false), (wrap64 (x10_1 + 1)), Z8, Z8, H', ⟨Z35⟩, ⟨by (with_reducible repeat (first | apply Kd.R_alloc | apply Kd.R_drewN | apply Kd.R_drew)); exact HO_5.out⟩, ⟨by (with_reducible repeat (first | apply Kd.R_alloc | apply Kd.R_drewN | apply Kd.R_drew)); exact HO_8.out⟩, ⟨Z2⟩⟩
     ·rw [if_neg c6] at H
      exact absurd H Z27
    ·rw [if_neg c5] at H
     have ca : decide (x10_1 < (aM.length : Int)) = false := decide_eq_false c5
     clear c5
     replace H := Option.bind_eq_some_iff.mp H
     obtain ⟨t116, A230, H⟩ := H
     replace H : (if t116 > 200 then (some (([] : List (S80)), false, 10)) else (some (aX, x9_1, 0))) = some (r1, r2, r3) := H
     have A23 := Aside0.mk A230
     clear A230
     by_cases cT : t116 > 200
     ·rw [if_pos cT] at H
      have ew : decide (200 < t116) = true := decide_eq_true cT
      clear cT
      simp only [Option.some.injEq, Prod.mk.injEq] at H
      obtain ⟨rfl, rfl, rfl⟩ := H
      obtain ⟨Ao25, co25, eo25⟩ := Kd.R_slice HO_5.out
      subst eo25
      obtain ⟨Ao26, co26, eo26⟩ := Kd.R_slice HO_8.out
      subst eo26
      go_wp2_with (first | ((with_reducible refine gate_callee (f := 138) rfl ?_); refine goesL_ (some 64) rfl rfl Tryz.func138 Z12 rfl #[.slice Ao26 aX.length co26] rfl Z3 ?_; (with_reducible refine (roadbookref07_Bytes.calls k1 _ _ aX t116 _ ?side1 ?side2 A23.out).mono ?_); (case side1 => exact (by repeat (first | exact (Kd.R_reads' HO_8.out).2.2 | (with_reducible refine Kd.C_alloc ?_ _) | (with_reducible refine Kd.C_drewN ?_ _) | (with_reducible refine Kd.C_drew ?_)))); (case side2 => exact (Kd.R_reads' HO_8.out).2.1); rintro e w' ⟨rfl, ⟨nd, rfl⟩⟩; refine ⟨_, rfl, ?_⟩))
      go_ret3
      exact ⟨_, Z5, Z28, Z2⟩
     ·rw [if_neg cT] at H
      have ew : decide (200 < t116) = false := decide_eq_false cT
      clear cT
      simp only [Option.some.injEq, Prod.mk.injEq] at H
      obtain ⟨rfl, rfl, rfl⟩ := H
      obtain ⟨Ao27, co27, eo27⟩ := Kd.R_slice HO_5.out
      subst eo27
      obtain ⟨Ao28, co28, eo28⟩ := Kd.R_slice HO_8.out
      subst eo28
      go_wp2_with (first | ((with_reducible refine gate_callee (f := 138) rfl ?_); refine goesL_ (some 64) rfl rfl Tryz.func138 Z12 rfl #[.slice Ao28 aX.length co28] rfl Z3 ?_; (with_reducible refine (roadbookref07_Bytes.calls k1 _ _ aX t116 _ ?side1 ?side2 A23.out).mono ?_); (case side1 => exact (by repeat (first | exact (Kd.R_reads' HO_8.out).2.2 | (with_reducible refine Kd.C_alloc ?_ _) | (with_reducible refine Kd.C_drewN ?_ _) | (with_reducible refine Kd.C_drew ?_)))); (case side2 => exact (Kd.R_reads' HO_8.out).2.1); rintro e w' ⟨rfl, ⟨nd, rfl⟩⟩; refine ⟨_, rfl, ?_⟩))
      go_ret3
      exact ⟨_, Z5, by (with_reducible repeat (first | apply Kd.R_alloc | apply Kd.R_drewN | apply Kd.R_drew)); exact HO_8.out, Z2⟩
 ·rw [if_neg c3] at H
  have bU : (bK == 0) = false := beq_eq_false_iff_ne.mpr c3
  have ck : (bK != 0) = true := bne_iff_ne.mpr c3
  simp only [Option.some.injEq, Prod.mk.injEq] at H
  obtain ⟨rfl, rfl, rfl⟩ := H
  go_enter Tryz.func74, Tryz.ntmps74
  go_wp2_with (first | ((with_reducible refine gate_callee (f := 17) rfl ?_); refine goesL_ (some 13) rfl rfl Tryz.func17 Z12 rfl #[.string a0, .int .i64 0] rfl Z3 ?_; (with_reducible refine (roadbookref18_Split.calls k a0 0 aM bl bK _ A2.out).mono ?_); rintro e w29 ⟨v104, rfl, ho0, hb⟩; refine ⟨_, rfl, ?_⟩; have HO105 := Aside0.mk (Kd.R_lower ho0 (below_size Z2)); replace HB := Aside0.mk (below_step Z2 hb); clear hb ho0))
  go_ret3
  exact ⟨_, Z5, Z28, Z2⟩

end Go.Proofs.YtnllanjoebjeiaaGreat.PV
