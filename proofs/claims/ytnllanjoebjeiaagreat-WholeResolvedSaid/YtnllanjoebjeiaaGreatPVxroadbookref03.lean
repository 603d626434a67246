-- Written by mp.py, a program of this work (wip/tools), out of the translation; Lean checks it.
import Derived.Test.YtnllanjoebjeiaaGreatPVxZ
namespace Go.Proofs.YtnllanjoebjeiaaGreat.PV
open Go.RowKit Go.Proofs.YtnllanjoebjeiaaGreatW.PrintWords Go.Proofs.YtnllanjoebjeiaaGreatW.PrintLast Go.Proofs.YtnllanjoebjeiaaGreatW.PrintMore
attribute [local go_sem] max2_int min2_int max_two min_two max_three min_three max_four min_four   -- for this text's walks alone
set_option linter.unusedVariables false
set_option linter.unusedSimpArgs false

/-! ### roadbookref03_Bit: function 172 -/
def roadbookref03_Bit.f (a0 : ByteArray) (a1 : Int) : Option (Bool) := if a1 ≥ 0 then (if a1 < (wrap64 (8 * (a0.size : Int))) then (if 0 ≤ (wrap64 (Int.tdiv a1 8)) then (if (wrap64 (Int.tdiv a1 8)) < (a0.size : Int) then (if 0 ≤ (IntKind.u64.wrap (wrap64 (7 - (Int.tmod a1 8)))) then (some ((Int.tmod (shr .i64 (wrap64 (bt a0 (wrap64 (Int.tdiv a1 8)))) (IntKind.u64.wrap (wrap64 (7 - (Int.tmod a1 8))))) 2) == 1)) else (none)) else (none)) else (none)) else (some false)) else (some false)
set_option maxHeartbeats 8000000 in
set_option maxRecDepth 100000 in
theorem roadbookref03_Bit.calls (a0 : ByteArray) (a1 : Int) (r : Bool) (w : World) (h : roadbookref03_Bit.f a0 a1 = some r) :
  Calls Tryz.prog 172 #[.string a0, .int .i64 a1] w fun e w' => e = .returned (.bool r) ∧ Drawn0 w w' := by
 have H : (if a1 ≥ 0 then (if a1 < (wrap64 (8 * (a0.size : Int))) then (if 0 ≤ (wrap64 (Int.tdiv a1 8)) then (if (wrap64 (Int.tdiv a1 8)) < (a0.size : Int) then (if 0 ≤ (IntKind.u64.wrap (wrap64 (7 - (Int.tmod a1 8)))) then (some ((Int.tmod (shr .i64 (wrap64 (bt a0 (wrap64 (Int.tdiv a1 8)))) (IntKind.u64.wrap (wrap64 (7 - (Int.tmod a1 8))))) 2) == 1)) else (none)) else (none)) else (none)) else (some false)) else (some false)) = some r := h
 clear h
 by_cases c3 : a1 ≥ 0
 ·rw [if_pos c3] at H
  have bU : decide (0 ≤ a1) = true := decide_eq_true c3
  clear c3
  by_cases c4 : a1 < (wrap64 (8 * (a0.size : Int)))
  ·rw [if_pos c4] at H
   have bP : decide (a1 < (wrap64 (8 * (a0.size : Int)))) = true := decide_eq_true c4
   clear c4
   obtain ⟨ji5, hji5⟩ : ∃ j_ : Int, (wrap64 (Int.tdiv a1 8)) = j_ := ⟨_, rfl⟩
   replace H : (if 0 ≤ (ji5) then (if (ji5) < (a0.size : Int) then (if 0 ≤ (IntKind.u64.wrap (wrap64 (7 - (Int.tmod a1 8)))) then (some ((Int.tmod (shr .i64 (wrap64 (bt a0 (ji5))) (IntKind.u64.wrap (wrap64 (7 - (Int.tmod a1 8))))) 2) == 1)) else (none)) else (none)) else (none)) = some r := by first | (rw [hji5] at H; exact H) | (simp only [hji5] at H ⊢; exact H)
   have hji5w : (IntKind.i64.wrap (Int.tdiv a1 8)) = ji5 := (i64_w _).trans hji5
   by_cases c6 : 0 ≤ (ji5)
   ·rw [if_pos c6] at H
    have ce : decide (0 ≤ (ji5)) = true := decide_eq_true c6
    clear c6
    by_cases c7 : (ji5) < (a0.size : Int)
    ·rw [if_pos c7] at H
     have cN : decide ((ji5) < (a0.size : Int)) = true := decide_eq_true c7
     clear c7
     obtain ⟨ji9, hji9⟩ : ∃ j_ : Int, (IntKind.u64.wrap (wrap64 (7 - (Int.tmod a1 8)))) = j_ := ⟨_, rfl⟩
     replace H : (if 0 ≤ (ji9) then (some ((Int.tmod (shr .i64 (wrap64 (bt a0 (ji5))) (ji9)) 2) == 1)) else (none)) = some r := by first | (rw [hji9] at H; exact H) | (simp only [hji9] at H ⊢; exact H)
     by_cases bW : 0 ≤ (ji9)
     ·rw [if_pos bW] at H
      have bX := eq_true bW
      have dx : decide (0 ≤ (ji9)) = true := decide_eq_true bW
      clear bW
      obtain ⟨ji11, hji11⟩ : ∃ j_ : Int, (shr .i64 (wrap64 (bt a0 (ji5))) (ji9)) = j_ := ⟨_, rfl⟩
      replace H : (some ((Int.tmod (ji11) 2) == 1)) = some r := by first | (rw [hji11] at H; exact H) | (simp only [hji11] at H ⊢; exact H)
      have hji11_ : ((wrap64 (bt a0 (ji5))) / 2 ^ min (ji9).toNat 64) = ji11 := hji11
      have hji11z : (ji9) ≤ 64 → ((wrap64 (bt a0 (ji5))) / 2 ^ (ji9).toNat) = ji11 := shr_small hji11
      obtain rfl := Option.some.inj H
      have p8 : 0 ≤ ((ji5) : Int) := of_decide_eq_true Z7
      have q8 : (ji5) < (a0.size : Int) := of_decide_eq_true Z7
      have hx8 := bt_at a0 (ji5)
      replace p8 := eq_true p8
      replace q8 := eq_true q8
      go_enter Tryz.func172, Tryz.ntmps172
      go_wp2
      go_ret
      exact ⟨by first | rfl | (simp; done) | (simp only [← hji5, ← hji9, ← hji11] <;> (first | rfl | simp)) | (simp [*]; done), Z11⟩
     ·rw [if_neg bW] at H
      exact absurd H Z27
    ·rw [if_neg c7] at H
     exact absurd H Z27
   ·rw [if_neg c6] at H
    exact absurd H Z27
  ·rw [if_neg c4] at H
   have bP : decide (a1 < (wrap64 (8 * (a0.size : Int)))) = false := decide_eq_false c4
   clear c4
   obtain rfl := Option.some.inj H
   go_enter Tryz.func172, Tryz.ntmps172
   go_wp2
   go_ret
   exact ⟨Z8, Z11⟩
 ·rw [if_neg c3] at H
  have bU : decide (0 ≤ a1) = false := decide_eq_false c3
  clear c3
  obtain rfl := Option.some.inj H
  go_enter Tryz.func172, Tryz.ntmps172
  go_wp2
  go_ret
  exact ⟨Z8, Z11⟩

/-! ### roadbookref03_Keep: function 142 -/
mutual
def roadbookref03_Keep.l0 : Nat → ByteArray → Int → List Int → Int → Option (ByteArray)
 | 0, _, _, _, _ => none
 | k + 1, x0, x1, x5, x6 => if x6 < (wrap64 (8 * (x0.size : Int))) then (roadbookref03_Keep.j1 k x0 x1 x5 x6 (decide (x6 < x1))) else (roadbookref03_Keep.j1 k x0 x1 x5 x6 false)
def roadbookref03_Keep.j1 : Nat → ByteArray → Int → List Int → Int → Bool → Option (ByteArray)
 | 0, _, _, _, _, _ => none
 | k + 1, x0, x1, x5, x6, x19 => if x19 = true then ((roadbookref03_Bit.f x0 x6).bind fun bQ => (if bQ = true then (if 0 ≤ (wrap64 (Int.tdiv x6 8)) then (if (wrap64 (Int.tdiv x6 8)) < (x5.length : Int) then (if 0 ≤ (IntKind.u64.wrap (wrap64 (7 - (Int.tmod x6 8)))) then (roadbookref03_Keep.l0 k x0 x1 (x5.set ((wrap64 (Int.tdiv x6 8)) : Int).toNat (((rd x5 (wrap64 (Int.tdiv x6 8))) + (shl .u8 1 (IntKind.u64.wrap (wrap64 (7 - (Int.tmod x6 8)))))) % 256)) (wrap64 (x6 + 1))) else (none)) else (none)) else (none)) else (roadbookref03_Keep.l0 k x0 x1 x5 (wrap64 (x6 + 1))))) else (some (strOfNums x5))
end
def roadbookref03_Keep.f (k : Nat) (a0 : ByteArray) (a1 : Int) : Option (ByteArray) := if 0 ≤ (a0.size : Int) then (if ((a0.size : Int) : Int).toNat ≤ 281474976710656 then (roadbookref03_Keep.l0 k a0 a1 (List.replicate ((a0.size : Int) : Int).toNat 0) 0) else (none)) else (none)
theorem roadbookref03_Keep.mono_l : ∀ k, (∀ y0 y1 y2 y3, LeO (roadbookref03_Keep.l0 k y0 y1 y2 y3) (roadbookref03_Keep.l0 (k + 1) y0 y1 y2 y3)) ∧ (∀ y0 y1 y2 y3 y4, LeO (roadbookref03_Keep.j1 k y0 y1 y2 y3 y4) (roadbookref03_Keep.j1 (k + 1) y0 y1 y2 y3 y4))
 | 0 => ⟨Sq.mz, Sq.mz⟩
 | k + 1 => by
  obtain ⟨ih0, ih1⟩ := roadbookref03_Keep.mono_l k
  refine ⟨?_, ?_⟩
  ·intros
   unfold roadbookref03_Keep.l0
   exact Sq.mo
  ·intros
   unfold roadbookref03_Keep.j1
   exact Sq.mo
theorem roadbookref03_Keep.mono : ∀ a0 a1 k, LeO (roadbookref03_Keep.f k a0 a1) (roadbookref03_Keep.f (k + 1) a0 a1) := by
 intro a0 a1 k
 obtain ⟨ih0, ih1⟩ := roadbookref03_Keep.mono_l k
 unfold roadbookref03_Keep.f
 exact Sq.mo
set_option maxHeartbeats 8000000 in
set_option maxRecDepth 100000 in
theorem roadbookref03_Keep.calls (k : Nat) (a0 : ByteArray) (a1 : Int) (r : ByteArray) (w : World) (h : roadbookref03_Keep.f k a0 a1 = some r) :
  Calls Tryz.prog 142 #[.string a0, .int .i64 a1] w fun e w' => e = .returned (.string r) ∧ Below w.heap.size w w' := by
 have HB := Aside0.mk (Below.refl w.heap.size w)
 have H : (if 0 ≤ (a0.size : Int) then (if ((a0.size : Int) : Int).toNat ≤ 281474976710656 then (roadbookref03_Keep.l0 k a0 a1 (List.replicate ((a0.size : Int) : Int).toNat 0) 0) else (none)) else (none)) = some r := h
 clear h
 by_cases c3 : 0 ≤ (a0.size : Int)
 ·rw [if_pos c3] at H
  have bU := eq_true c3
  have ck : decide (0 ≤ (a0.size : Int)) = true := decide_eq_true c3
  clear c3
  by_cases c4 : ((a0.size : Int) : Int).toNat ≤ 281474976710656
  ·rw [if_pos c4] at H
   have bP := eq_true c4
   have cl : decide (((a0.size : Int) : Int).toNat ≤ 281474976710656) = true := decide_eq_true c4
   clear c4
   obtain ⟨cL, hy101⟩ : ∃ y_ : List Int, y_ = (List.replicate ((a0.size : Int) : Int).toNat 0) := ⟨_, rfl⟩
   replace H : (roadbookref03_Keep.l0 k a0 a1 cL 0) = some r := by first | (rw [hy101]; with_reducible exact H) | (have H2_ := (Option.bind_some _ _).symm.trans H; rw [hy101]; with_reducible exact H2_) | (have H2_ := (Option.bind_some _ _).symm.trans H; with_reducible exact H2_) | with_reducible exact H | (rw [hy101]; exact H) | exact H
   have Ny101 := Aside0.mk hy101
   clear hy101
   have H' := Aside0.mk H
   clear H
   go_enter Tryz.func142, Tryz.ntmps142
   go_wp2_with (first | ((with_reducible refine gate_dst (N := 9) rfl ?_); refine Kd.R_make (Kd.int .u8) _ 5 rfl (N := 9) rfl 64 _ _ rfl (a0.size : Int) rfl rfl Tryz.underlying64 (.int .u8 0) 1 info5 rfl Z34 Z23 0 (ok := fun _ => True) (okp := fun _ => True) rfl (fun _ hk => hk) trivial (of_decide_eq_true Z7) (Nat.le_trans (Nat.mul_le_mul_right _ (of_decide_eq_true Z7 : (a0.size : Int).toNat ≤ 281474976710656)) Z23) (Below.refl _ _) (Nat.le_refl _) ?_; intro hU w5 ho6 hb hg_ hnew_; clear hg_ hnew_; (first | rw [← Ny101.out] at ho6 | (simp only [Int.reduceToNat] at ho6; rw [← Ny101.out] at ho6)); have eH := Aside0.mk (Kd.R_lower ho6 (below_size Z2)); replace HB := Aside0.mk (below_step Z2 hb); clear hb ho6))
   go_loopg [6] k (fun kq v6 w' => ∃ (aG : List Int) (dO : Int), v6 = .int .i64 dO ∧ Aside0 (roadbookref03_Keep.l0 kq a0 a1 aG dO = some r) ∧ Aside0 (kq ≤ k) ∧ Aside0 (Kd.R (Kd.int .u8) 5 w' w.heap.size (fun _ => True) hU aG) ∧ Aside0 (Below w.heap.size w w'))
   case atStart => exact ⟨(cL), (0), Z8, H', ⟨Nat.le_refl _⟩, ⟨by (with_reducible repeat (first | apply Kd.R_alloc | apply Kd.R_drewN | apply Kd.R_drew)); exact eH.out⟩, ⟨Z2⟩⟩
   case round =>
    clear H'
    try clear c1
    try clear p2
    try clear c3
    try clear bU
    try clear ck
    try clear c4
    try clear bP
    try clear cl
    obtain ⟨aG, dO, rfl, HA, HK1, HO_5, HB⟩ := hrel
    cases gk with
    | zero => exact absurd HA.out (by simp [roadbookref03_Keep.l0])
    | succ k1 =>
     have H := HA.out
     clear HA
     simp only [roadbookref03_Keep.l0] at H
     have ia := Aside0.mk H
     clear H
     go_upto_region 3 with (fail)
     go_cut [19] (fun fm wc => ∃ (kq : Nat) (x19_6 : Bool), fm = .bool x19_6 ∧ Aside0 (roadbookref03_Keep.j1 kq a0 a1 aG dO x19_6 = some r) ∧ Aside0 (kq ≤ k1) ∧ Aside0 (Kd.R (Kd.int .u8) 5 wc w.heap.size (fun _ => True) hU aG) ∧ Aside0 (Below w.heap.size w wc))
     case first =>
      have H := ia.out
      clear ia
      by_cases c8 : dO < (wrap64 (8 * (a0.size : Int)))
      ·rw [if_pos c8] at H
       have ec : decide (dO < (wrap64 (8 * (a0.size : Int)))) = true := decide_eq_true c8
       clear c8
       (first | rw [ec] | (simp only [i64_w, i32_w]; rw [ec]) | skip)
       have H' := Aside0.mk H
       clear H
       go_wp2
       go_meet
       case rel => exact ⟨_, (decide (dO < a1)), Z8, H', ⟨by have := HK1.out; first | omega | exact Nat.le_refl _⟩, ⟨by (with_reducible repeat (first | apply Kd.R_alloc | apply Kd.R_drewN | apply Kd.R_drew)); exact HO_5.out⟩, ⟨Z2⟩⟩
      ·rw [if_neg c8] at H
       have ec : decide (dO < (wrap64 (8 * (a0.size : Int)))) = false := decide_eq_false c8
       clear c8
       (first | rw [ec] | (simp only [i64_w, i32_w]; rw [ec]) | skip)
       have H' := Aside0.mk H
       clear H
       go_wp2
       go_meet
       case rel => exact ⟨_, (false), Z8, H', ⟨by have := HK1.out; first | omega | exact Nat.le_refl _⟩, ⟨by (with_reducible repeat (first | apply Kd.R_alloc | apply Kd.R_drewN | apply Kd.R_drew)); exact HO_5.out⟩, ⟨Z2⟩⟩
     case rest =>
      clear ia
      try clear c1
      try clear p2
      try clear c3
      try clear bU
      try clear ck
      try clear c4
      try clear bP
      try clear cl
      try clear p2
      obtain ⟨kq, x19_6, rfl, HA, HJ6, HO_5, HB⟩ := hcut
      cases kq with
      | zero => exact absurd HA.out (by simp [roadbookref03_Keep.j1])
      | succ kj6 =>
       have H := HA.out
       clear HA
       simp only [roadbookref03_Keep.j1] at H
       by_cases c9 : x19_6 = true
       ·subst c9
        replace H := Sq.itT H
        replace H := Option.bind_eq_some_iff.mp H
        obtain ⟨bQ, gZ, H⟩ := H
        replace H : (if bQ = true then (if 0 ≤ (wrap64 (Int.tdiv dO 8)) then (if (wrap64 (Int.tdiv dO 8)) < (aG.length : Int) then (if 0 ≤ (IntKind.u64.wrap (wrap64 (7 - (Int.tmod dO 8)))) then (roadbookref03_Keep.l0 kj6 a0 a1 (aG.set ((wrap64 (Int.tdiv dO 8)) : Int).toNat (((rd aG (wrap64 (Int.tdiv dO 8))) + (shl .u8 1 (IntKind.u64.wrap (wrap64 (7 - (Int.tmod dO 8)))))) % 256)) (wrap64 (dO + 1))) else (none)) else (none)) else (none)) else (roadbookref03_Keep.l0 kj6 a0 a1 aG (wrap64 (dO + 1)))) = some r := H
        have io := Aside0.mk gZ
        clear gZ
        by_cases cS : bQ = true
        ·subst cS
         replace H := Sq.itT H
         obtain ⟨ji12, hji12⟩ : ∃ j_ : Int, (wrap64 (Int.tdiv dO 8)) = j_ := ⟨_, rfl⟩
         replace H : (if 0 ≤ (ji12) then (if (ji12) < (aG.length : Int) then (if 0 ≤ (IntKind.u64.wrap (wrap64 (7 - (Int.tmod dO 8)))) then (roadbookref03_Keep.l0 kj6 a0 a1 (aG.set ((ji12) : Int).toNat (((rd aG (ji12)) + (shl .u8 1 (IntKind.u64.wrap (wrap64 (7 - (Int.tmod dO 8)))))) % 256)) (wrap64 (dO + 1))) else (none)) else (none)) else (none)) = some r := by first | (rw [hji12] at H; exact H) | (simp only [hji12] at H ⊢; exact H)
         (try rw [hji12] at io)
         have hji12w : (IntKind.i64.wrap (Int.tdiv dO 8)) = ji12 := (i64_w _).trans hji12
         by_cases eN : 0 ≤ (ji12)
         ·rw [if_pos eN] at H
          have gn : decide (0 ≤ (ji12)) = true := decide_eq_true eN
          clear eN
          by_cases cV : (ji12) < (aG.length : Int)
          ·rw [if_pos cV] at H
           have eF : decide ((ji12) < (aG.length : Int)) = true := decide_eq_true cV
           clear cV
           obtain ⟨ji15, hji15⟩ : ∃ j_ : Int, (IntKind.u64.wrap (wrap64 (7 - (Int.tmod dO 8)))) = j_ := ⟨_, rfl⟩
           replace H : (if 0 ≤ (ji15) then (roadbookref03_Keep.l0 kj6 a0 a1 (aG.set ((ji12) : Int).toNat (((rd aG (ji12)) + (shl .u8 1 (ji15))) % 256)) (wrap64 (dO + 1))) else (none)) = some r := by first | (rw [hji15] at H; exact H) | (simp only [hji15] at H ⊢; exact H)
           (try rw [hji15] at io)
           by_cases et : 0 ≤ (ji15)
           ·rw [if_pos et] at H
            have eG := eq_true et
            have c16b1 : decide (0 ≤ (ji15)) = true := decide_eq_true et
            clear et
            obtain ⟨ji17, hji17⟩ : ∃ j_ : Int, (shl .u8 1 (ji15)) = j_ := ⟨_, rfl⟩
            replace H : (roadbookref03_Keep.l0 kj6 a0 a1 (aG.set ((ji12) : Int).toNat (((rd aG (ji12)) + (ji17)) % 256)) (wrap64 (dO + 1))) = some r := by first | (rw [hji17] at H; exact H) | (simp only [hji17] at H ⊢; exact H)
            (try rw [hji17] at io)
            have hji17_ : (IntKind.u8.wrap (1 * 2 ^ min (ji15).toNat 8)) = ji17 := hji17
            have hji17z : (ji15) ≤ 8 → (IntKind.u8.wrap (1 * 2 ^ (ji15).toNat)) = ji17 := shl_small hji17
            have hji17u : (IntKind.u8.wrap (2 ^ min (ji15).toNat 8)) = ji17 := by have h_ := hji17_; rw [Int.one_mul] at h_; exact h_
            have hji17v : (ji15) ≤ 8 → (IntKind.u8.wrap (2 ^ (ji15).toNat)) = ji17 := fun hle_ => by have h_ := hji17z hle_; rw [Int.one_mul] at h_; exact h_
            obtain ⟨fA, hy106⟩ : ∃ y_ : List Int, y_ = (aG.set ((ji12) : Int).toNat (((rd aG (ji12)) + (ji17)) % 256)) := ⟨_, rfl⟩
            replace H : (roadbookref03_Keep.l0 kj6 a0 a1 fA (wrap64 (dO + 1))) = some r := by first | (rw [hy106]; with_reducible exact H) | (have H2_ := (Option.bind_some _ _).symm.trans H; rw [hy106]; with_reducible exact H2_) | (have H2_ := (Option.bind_some _ _).symm.trans H; with_reducible exact H2_) | with_reducible exact H | (rw [hy106]; exact H) | exact H
            have Ny106 := Aside0.mk hy106
            clear hy106
            have H' := Aside0.mk H
            clear H
            go_wp2_with (first | ((with_reducible refine gate_callee (f := 172) rfl ?_); refine goesL_ (some 24) rfl rfl Tryz.func172 Z12 rfl #[.string a0, .int .i64 dO] rfl Z3 ?_; (with_reducible refine (roadbookref03_Bit.calls a0 dO true _ io.out).mono ?_); rintro e w' ⟨rfl, ⟨nd, rfl⟩⟩; refine ⟨_, rfl, ?_⟩; (try (rw [drewN_self wc]; generalize hq_ : World.drewN wc _ = wc; have bL : Aside0 (Kd.R (Kd.int .u8) 5 wc w.heap.size (fun _ => True) hU aG) := ⟨by rw [← hq_]; exact (by (with_reducible repeat (first | apply Kd.R_alloc | apply Kd.R_drewN | apply Kd.R_drew)); exact HO_5.out)⟩; have bM : Aside0 (Below w.heap.size w wc) := ⟨by rw [← hq_]; exact Z2⟩; clear HO_5 HB hq_; have HO_5 := bL; have HB := bM; clear bL bM)); obtain ⟨Ao19, co19, eo19⟩ := Kd.R_slice HO_5.out; subst eo19; have p105 : 0 ≤ ((ji12) : Int) := of_decide_eq_true Z7; have q105 : (ji12) < (aG.length : Int) := of_decide_eq_true Z7; obtain ⟨ad105, e105, hx105_0⟩ := Kd.at_int (Kd.R_reads' HO_5.out).2.2 (ji12) p105 q105; cases e105; replace p105 := eq_true p105; replace q105 := eq_true q105; have p18 : 0 ≤ ((ji12) : Int) := of_decide_eq_true Z7; have q18 : ((ji12) : Int) < ((aG.length : Int) : Int) := of_decide_eq_true Z7; obtain ⟨go18, co18, eo18, gb18, gl18, cl18, HG18⟩ := Kd.R_form HO_5.out Z23; (first | cases eo18 | (injection eo18 with ea_ en_ ec_; (first | subst ea_ | (injection ea_ with ea_; subst ea_)); subst ec_; clear en_)); have GB18 := Aside0.mk gb18; have GG18 := Aside0.mk HG18; clear gb18 gl18 HG18; (first | simp only [add_plain] at hx105_0 | skip); obtain ⟨hx18_0, hf18_0⟩ := Kd.R_celln 0 HO_5.out ((ji12) : Int) p18 q18; replace p18 := eq_true p18; replace q18 := eq_true q18; obtain ⟨hy20_, hz20_⟩ := Kd.R_celln 0 HO_5.out ((ji12) : Int) (of_decide_eq_true Z7) (of_decide_eq_true Z7); have HP20 := Kd.R_putg HO_5.out ((ji12) : Int) (((rd aG (ji12)) + (ji17)) % 256)) | ((with_reducible refine gate_store (t := 5) (p := 39) rfl ?_); refine store_event (t := 5) (p := 39) (v := ?vo_w21) (w1 := (wc.setCell ⟨go18, ((ji12) : Int).toNat, none⟩ (.int .u8 (((rd aG (ji12)) + (ji17)) % 256)))) ?hg ?ho ?hn ?hr ?_; (case ho => rfl); (case hg => rfl); (case hn => rfl); (case hr => first | (go_simp; done) | (go_simp; rfl)); intro hJ hw; have hg : wc.grownBy hJ (some go18) := (by rw [hw]; exact HP20.2); have hp_ : Kd.R (Kd.int .u8) 5 hJ w.heap.size (fun _ => True) (.slice (some ⟨go18, 0, none⟩) aG.length co19) fA := (by rw [hw, Ny106.out]; exact HP20.1); clear HP20; replace HO_5 := Aside0.mk (hp_); replace HB := Aside0.mk ((by rw [hw]; exact below_set (HB.out) GB18.out : Below w.heap.size w hJ)); clear hg hw hp_))
            go_roundg kj6
            case measure => have := HK1.out; have := HJ6.out; omega
            case rel => exact ⟨(fA), (wrap64 (dO + 1)), Z8, H', ⟨by have := HK1.out; have := HJ6.out; omega⟩, ⟨by (with_reducible repeat (first | apply Kd.R_alloc | apply Kd.R_drewN | apply Kd.R_drew)); exact HO_5.out⟩, ⟨Z2⟩⟩
           ·rw [if_neg et] at H
            exact absurd H Z27
          ·rw [if_neg cV] at H
           exact absurd H Z27
         ·rw [if_neg eN] at H
          exact absurd H Z27
        ·replace cS := Bool.eq_false_iff.mpr cS
         subst cS
         replace H := Sq.itF H
         have H' := Aside0.mk H
         clear H
         go_wp2_with (first | ((with_reducible refine gate_callee (f := 172) rfl ?_); refine goesL_ (some 24) rfl rfl Tryz.func172 Z12 rfl #[.string a0, .int .i64 dO] rfl Z3 ?_; (with_reducible refine (roadbookref03_Bit.calls a0 dO false _ io.out).mono ?_); rintro e w' ⟨rfl, ⟨nd, rfl⟩⟩; refine ⟨_, rfl, ?_⟩))
         go_roundg kj6
         case measure => have := HK1.out; have := HJ6.out; omega
         case rel => exact ⟨(aG), (wrap64 (dO + 1)), Z8, H', ⟨by have := HK1.out; have := HJ6.out; omega⟩, ⟨by (with_reducible repeat (first | apply Kd.R_alloc | apply Kd.R_drewN | apply Kd.R_drew)); exact HO_5.out⟩, ⟨Z2⟩⟩
       ·replace c9 := Bool.eq_false_iff.mpr c9
        subst c9
        replace H := Sq.itF H
        obtain rfl := Option.some.inj H
        have hcv22 := own_string (P := Tryz.prog) Tryz.underlying64 Tryz.underlying5 Tryz.underlying9 (Kd.own_of_R HO_5.out)
        go_wp2
        go_ret
        exact ⟨Z5, Z2⟩
  ·rw [if_neg c4] at H
   exact absurd H Z27
 ·rw [if_neg c3] at H
  exact absurd H Z27

end Go.Proofs.YtnllanjoebjeiaaGreat.PV
