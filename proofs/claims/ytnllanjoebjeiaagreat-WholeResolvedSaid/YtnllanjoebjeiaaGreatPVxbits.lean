-- Written by mp.py, a program of this work (wip/tools), out of the translation; Lean checks it.
import Derived.Test.YtnllanjoebjeiaaGreatPVxZ
import Derived.Test.YtnllanjoebjeiaaGreatStore
import Derived.Test.YtnllanjoebjeiaaGreatLenA
namespace Go.Proofs.YtnllanjoebjeiaaGreat.PV
open Go.RowKit Go.Proofs.YtnllanjoebjeiaaGreatW.PrintWords Go.Proofs.YtnllanjoebjeiaaGreatW.PrintLast Go.Proofs.YtnllanjoebjeiaaGreatW.PrintMore
attribute [local go_sem] max2_int min2_int max_two min_two max_three min_three max_four min_four   -- for this text's walks alone
set_option linter.unusedVariables false
set_option linter.unusedSimpArgs false

/-! ### bits_Keep: function 185 -/
def bits_Keep.f (a0 : ByteArray) (a1 : Int) : Option ByteArray :=
 if a0.size ≤ 140737488351232 then
  if 8 * (a0.size : Int) ≤ a1 then some a0
  else if a1 ≤ 0 then some (strOfNums (List.replicate a0.size 0))
  else some (strOfNums ((bytesOf (a0.extract 0 (a1 / 8).toNat) ++ (List.replicate a0.size 0).drop (a0.extract 0 (a1 / 8).toNat).size).set (a1 / 8).toNat (Go.bits .andNot .u8 (bt a0 (a1 / 8)) (255 / 2 ^ min (IntKind.u64.wrap (Go.bits .and .i64 a1 7)).toNat 8))))
 else none
set_option maxHeartbeats 8000000 in
set_option maxRecDepth 100000 in
theorem bits_Keep.calls (a0 : ByteArray) (a1 : Int) (r : ByteArray) (w : World) (h : bits_Keep.f a0 a1 = some r) :
  Calls Tryz.prog 185 #[.string a0, .int .i64 a1] w fun e w' => e = .returned (.string r) ∧ Below w.heap.size w w' := by
 unfold bits_Keep.f at h
 by_cases hs : a0.size ≤ 140737488351232
 ·rw [if_pos hs] at h
  by_cases h1 : 8 * (a0.size : Int) ≤ a1
  ·rw [if_pos h1] at h
   obtain rfl := Option.some.inj h
   clear h
   go_enter Tryz.func185, Tryz.ntmps185
   go_wp2
   go_ret
   exact ⟨rfl, Below.refl _ _⟩
  ·rw [if_neg h1] at h
   have hmk := print_make (P := Tryz.prog) 64 5 .u8 1 Tryz.underlying64 info5 Z34 a0.size Z23
   have HO := Aside0.mk (own_made w w.heap.size 5 .u8 a0.size (Nat.le_refl _) Z23)
   have HB := Aside0.mk (below_alloc (Below.refl w.heap.size w) (.cells (madeCells #[.int .u8 0] a0.size) 5))
   by_cases h2 : a1 ≤ 0
   ·rw [if_pos h2] at h
    obtain rfl := Option.some.inj h
    clear h
    have hcv := own_string (P := Tryz.prog) Tryz.underlying64 Tryz.underlying5 Tryz.underlying9 HO.out
    go_enter Tryz.func185, Tryz.ntmps185
    go_wp2
    go_ret
    exact ⟨rfl, HB.out⟩
   ·rw [if_neg h2] at h
    obtain rfl := Option.some.inj h
    clear h
    have hk0 : 0 ≤ a1 / 8 := by omega
    have hk1 : a1 / 8 < (a0.size : Int) := by omega
    have hes : (a0.extract 0 (a1 / 8).toNat).size ≤ a0.size := by rw [ByteArray.size_extract]; omega
    obtain ⟨W2, hcp, hH, HB2, hsz⟩ := Pre.copy_own_str (P := Tryz.prog) 64 9 3 (a0.extract 0 (a1 / 8).toNat) Tryz.underlying64 Z12 HO.out hes
    have HB2 := Aside0.mk (HB2 (Nat.le_refl _) HB.out)
    obtain ⟨x, hx⟩ : ∃ x, x = bytesOf (a0.extract 0 (a1 / 8).toNat) ++ (List.replicate a0.size 0).drop (a0.extract 0 (a1 / 8).toNat).size := ⟨_, rfl⟩
    rw [← hx] at hH
    obtain ⟨hc, hf⟩ := own_at hH (a1 / 8) hk0 hk1
    have ij := own_store hH (a1 / 8) (Go.bits .andNot .u8 (bt a0 (a1 / 8)) (255 / 2 ^ min (IntKind.u64.wrap (Go.bits .and .i64 a1 7)).toNat 8))
    rw [← hx]
    have hcv := own_string (P := Tryz.prog) Tryz.underlying64 Tryz.underlying5 Tryz.underlying9 ij.1
    have HB3 := Aside0.mk (Below.setCell HB2.out (p := ⟨w.heap.size, (a1 / 8).toNat, none⟩) (Nat.le_refl _) (.int .u8 (Go.bits .andNot .u8 (bt a0 (a1 / 8)) (255 / 2 ^ min (IntKind.u64.wrap (Go.bits .and .i64 a1 7)).toNat 8))))
    clear hx ij hH HB2 hsz hes HB HO
    have hx7 := bt_at a0 (a1 / 8)
    go_enter Tryz.func185, Tryz.ntmps185
    go_wp2_with (first | (with_reducible refine Pre.wpList_copy_ rfl (.tmp 22) (.tmp 25) 64 9 rfl _ _ rfl rfl hcp ?_))
    go_ret
    exact ⟨rfl, HB3.out⟩
 ·rw [if_neg hs] at h; exact absurd h Z27

/-! ### bits_Clean: function 149 -/
def bits_Clean.f (a0 : ByteArray) (a1 : Int) : Option (Bool) := (bits_Keep.f a0 a1).bind fun aM => (some (aM.toList == a0.toList))
set_option maxHeartbeats 8000000 in
set_option maxRecDepth 100000 in
theorem bits_Clean.calls (a0 : ByteArray) (a1 : Int) (r : Bool) (w : World) (h : bits_Clean.f a0 a1 = some r) :
  Calls Tryz.prog 149 #[.string a0, .int .i64 a1] w fun e w' => e = .returned (.bool r) ∧ Below w.heap.size w w' := by
 have HB := Aside0.mk (Below.refl w.heap.size w)
 have H : ((bits_Keep.f a0 a1).bind fun aM => (some (aM.toList == a0.toList))) = some r := h
 clear h
 replace H := Option.bind_eq_some_iff.mp H
 obtain ⟨aM, cU, H⟩ := H
 replace H : (some (aM.toList == a0.toList)) = some r := H
 have A3 := Aside0.mk cU
 clear cU
 obtain rfl := Option.some.inj H
 go_enter Tryz.func149, Tryz.ntmps149
 go_wp2_with (first | ((with_reducible refine gate_callee (f := 185) rfl ?_); refine goesL_ (some 7) rfl rfl Tryz.func185 Z12 rfl #[.string a0, .int .i64 a1] rfl Z3 ?_; (with_reducible refine (bits_Keep.calls a0 a1 aM _ A3.out).mono ?_); rintro e w4 ⟨rfl, hb⟩; refine ⟨_, rfl, ?_⟩; replace HB := Aside0.mk (below_step Z2 hb); clear hb))
 go_ret
 exact ⟨Z5, Z2⟩

/-! ### bits_Len8: function 202 -/
def bits_Len8.f (a0 : Int) : Option Int := if 0 ≤ a0 ∧ a0 ≤ 255 then some (Lib.bitLen a0.toNat : Int) else none
theorem bits_Len8.calls (a0 : Int) (r : Int) (w : World) (h : bits_Len8.f a0 = some r) :
  Calls Tryz.prog 202 #[.int .u8 a0] w fun e w' => e = .returned (.int .i64 r) ∧ Drawn0 w w' := by
 unfold bits_Len8.f at h
 by_cases hs : 0 ≤ a0 ∧ a0 ≤ 255
 ·rw [if_pos hs] at h
  obtain rfl := Option.some.inj h
  exact (Pre.bits_Len8 a0 w hs.1 hs.2).mono fun _ _ ⟨h1, h2⟩ => ⟨h1, by rw [h2]; exact Drawn0.refl _⟩
 ·rw [if_neg hs] at h; exact absurd h Z27

/-! ### bits_LeadingZeros8: function 193 -/
def bits_LeadingZeros8.f (a0 : Int) : Option (Int) := (bits_Len8.f a0).bind fun aM => (some (wrap64 (8 - aM)))
set_option maxHeartbeats 8000000 in
set_option maxRecDepth 100000 in
theorem bits_LeadingZeros8.calls (a0 : Int) (r : Int) (w : World) (h : bits_LeadingZeros8.f a0 = some r) :
  Calls Tryz.prog 193 #[.int .u8 a0] w fun e w' => e = .returned (.int .i64 r) ∧ Drawn0 w w' := by
 have H : ((bits_Len8.f a0).bind fun aM => (some (wrap64 (8 - aM)))) = some r := h
 clear h
 replace H := Option.bind_eq_some_iff.mp H
 obtain ⟨aM, dQ, H⟩ := H
 replace H : (some (wrap64 (8 - aM))) = some r := H
 have A2 := Aside0.mk dQ
 clear dQ
 obtain rfl := Option.some.inj H
 go_enter Tryz.func193, Tryz.ntmps193
 go_wp2_with (first | ((with_reducible refine gate_callee (f := 202) rfl ?_); refine goesL_ (some 4) rfl rfl Tryz.func202 Z12 rfl #[.int .u8 a0] rfl Z3 ?_; (with_reducible refine (bits_Len8.calls a0 aM _ A2.out).mono ?_); rintro e w' ⟨rfl, ⟨nd, rfl⟩⟩; refine ⟨_, rfl, ?_⟩))
 go_ret
 exact ⟨Z8, Z11⟩

/-! ### bits_Alike: function 171 -/
def bits_Alike.l0 : Nat → ByteArray → ByteArray → Int → Int → Option (Int)
 | 0, _, _, _, _ => none
 | k + 1, x0, x1, er, eb => if eb < er then (if 0 ≤ eb then (if eb < (x0.size : Int) then (if eb < (x1.size : Int) then (if (Go.bits .xor .u8 (bt x0 eb) (bt x1 eb)) = 0 then (bits_Alike.l0 k x0 x1 er (wrap64 (eb + 1))) else ((bits_LeadingZeros8.f (Go.bits .xor .u8 (bt x0 eb) (bt x1 eb))).bind fun aM => (some (wrap64 ((wrap64 (8 * eb)) + aM))))) else (none)) else (none)) else (none)) else (some (wrap64 (8 * (mn (x0.size : Int) (x1.size : Int)))))
def bits_Alike.f (k : Nat) (a0 : ByteArray) (a1 : ByteArray) : Option (Int) := bits_Alike.l0 k a0 a1 (mn (a0.size : Int) (a1.size : Int)) 0
theorem bits_Alike.mono_l : ∀ k, (∀ y0 y1 y2 y3, LeO (bits_Alike.l0 k y0 y1 y2 y3) (bits_Alike.l0 (k + 1) y0 y1 y2 y3))
 | 0 => Sq.mz
 | k + 1 => by
  have ih0 := bits_Alike.mono_l k
  ·intros
   unfold bits_Alike.l0
   exact Sq.mo
theorem bits_Alike.mono : ∀ a0 a1 k, LeO (bits_Alike.f k a0 a1) (bits_Alike.f (k + 1) a0 a1) := by
 intro a0 a1 k
 have ih0 := bits_Alike.mono_l k
 unfold bits_Alike.f
 exact Sq.mo
set_option maxHeartbeats 8000000 in
set_option maxRecDepth 100000 in
theorem bits_Alike.calls (k : Nat) (a0 : ByteArray) (a1 : ByteArray) (r : Int) (w : World) (h : bits_Alike.f k a0 a1 = some r) :
  Calls Tryz.prog 171 #[.string a0, .string a1] w fun e w' => e = .returned (.int .i64 r) ∧ Below w.heap.size w w' := by
 have HB := Aside0.mk (Below.refl w.heap.size w)
 have H : (bits_Alike.l0 k a0 a1 (mn (a0.size : Int) (a1.size : Int)) 0) = some r := h
 clear h
 obtain ⟨ji3, hji3⟩ : ∃ j_ : Int, (mn (a0.size : Int) (a1.size : Int)) = j_ := ⟨_, rfl⟩
 replace H : (bits_Alike.l0 k a0 a1 ji3 0) = some r := by first | (rw [hji3] at H; exact H) | (simp only [hji3] at H ⊢; exact H)
 (try (have hji3l : 0 ≤ ji3 := by (rw [← hji3]; unfold mn; (repeat' split) <;> omega)))
 (try (have hji3m : 0 ≤ ji3 := by omega))
 have hji3_ : (if (a1.size : Int) < (a0.size : Int) then (a1.size : Int) else (a0.size : Int)) = ji3 := hji3
 (try have hji3n_ := hji3_; simp only [Int.ofNat_lt] at hji3n_)
 have H' := Aside0.mk H
 clear H
 go_enter Tryz.func171, Tryz.ntmps171
 go_wp2
 repeat (go_quiet (fail); try go_wp2)
 go_loopg [12] k (fun kq eR w' => ∃ (bI : Int), eR = .int .i64 bI ∧ Aside0 (bits_Alike.l0 kq a0 a1 ji3 bI = some r) ∧ Aside0 (kq ≤ k) ∧ Aside0 (Below w.heap.size w w'))
 case atStart => exact ⟨(0), Z8, H', ⟨Nat.le_refl _⟩, ⟨Z2⟩⟩
 case round =>
  clear H'
  try clear c1
  try clear p2
  obtain ⟨bI, rfl, HA, HK1, HB⟩ := hrel
  cases gk with
  | zero => exact absurd HA.out (by simp [bits_Alike.l0])
  | succ k1 =>
   have H := HA.out
   clear HA
   simp only [bits_Alike.l0] at H
   by_cases c4 : bI < ji3
   ·rw [if_pos c4] at H
    have bP : decide (bI < ji3) = true := decide_eq_true c4
    clear c4
    by_cases c5 : 0 ≤ bI
    ·rw [if_pos c5] at H
     have ca : decide (0 ≤ bI) = true := decide_eq_true c5
     clear c5
     by_cases c6 : bI < (a0.size : Int)
     ·rw [if_pos c6] at H
      have ce : decide (bI < (a0.size : Int)) = true := decide_eq_true c6
      clear c6
      by_cases c8 : bI < (a1.size : Int)
      ·rw [if_pos c8] at H
       have ec : decide (bI < (a1.size : Int)) = true := decide_eq_true c8
       clear c8
       by_cases bW : (Go.bits .xor .u8 (bt a0 bI) (bt a1 bI)) = 0
       ·rw [if_pos bW] at H
        have bX : ((Go.bits .xor .u8 (bt a0 bI) (bt a1 bI)) == 0) = true := beq_iff_eq.mpr bW
        have dx : ((Go.bits .xor .u8 (bt a0 bI) (bt a1 bI)) != 0) = false := bne_eq_false_iff_eq.mpr bW
        clear bW
        have H' := Aside0.mk H
        clear H
        have p7 : 0 ≤ (bI : Int) := of_decide_eq_true Z7
        have q7 : bI < (a0.size : Int) := of_decide_eq_true Z7
        have hx7 := bt_at a0 bI
        replace p7 := eq_true p7
        replace q7 := eq_true q7
        have p9 : 0 ≤ (bI : Int) := of_decide_eq_true Z7
        have q9 : bI < (a1.size : Int) := of_decide_eq_true Z7
        have hx9 := bt_at a1 bI
        replace p9 := eq_true p9
        replace q9 := eq_true q9
        go_wp2
        repeat (go_quiet (fail); try go_wp2)
        go_roundg k1
        case measure => have := HK1.out; omega
        case rel => exact ⟨(wrap64 (bI + 1)), Z8, H', ⟨Z35⟩, ⟨Z2⟩⟩
       ·rw [if_neg bW] at H
        have bX : ((Go.bits .xor .u8 (bt a0 bI) (bt a1 bI)) == 0) = false := beq_eq_false_iff_ne.mpr bW
        have dx : ((Go.bits .xor .u8 (bt a0 bI) (bt a1 bI)) != 0) = true := bne_iff_ne.mpr bW
        replace H := Option.bind_eq_some_iff.mp H
        obtain ⟨aM, eD, H⟩ := H
        replace H : (some (wrap64 ((wrap64 (8 * bI)) + aM))) = some r := H
        have gl := Aside0.mk eD
        clear eD
        obtain rfl := Option.some.inj H
        have p7 : 0 ≤ (bI : Int) := of_decide_eq_true Z7
        have q7 : bI < (a0.size : Int) := of_decide_eq_true Z7
        have hx7 := bt_at a0 bI
        replace p7 := eq_true p7
        replace q7 := eq_true q7
        have p9 : 0 ≤ (bI : Int) := of_decide_eq_true Z7
        have q9 : bI < (a1.size : Int) := of_decide_eq_true Z7
        have hx9 := bt_at a1 bI
        replace p9 := eq_true p9
        replace q9 := eq_true q9
        go_wp2_with (first | (go_at_call 193; (with_reducible refine (bits_LeadingZeros8.calls (Go.bits .xor .u8 (bt a0 bI) (bt a1 bI)) aM _ gl.out).mono ?_); rintro e w' ⟨rfl, ⟨nd, rfl⟩⟩; (try first | exact ⟨rfl, _, World.drewN_drewN _ _ _⟩ | exact ⟨rfl, _, Eq.trans (World.drewN_drewN _ _ _) (congrArg (World.drewN _) (Nat.add_assoc _ _ _))⟩)))
        repeat (go_quiet (first | (go_at_call 193; (with_reducible refine (bits_LeadingZeros8.calls (Go.bits .xor .u8 (bt a0 bI) (bt a1 bI)) aM _ gl.out).mono ?_); rintro e w' ⟨rfl, ⟨nd, rfl⟩⟩; (try first | exact ⟨rfl, _, World.drewN_drewN _ _ _⟩ | exact ⟨rfl, _, Eq.trans (World.drewN_drewN _ _ _) (congrArg (World.drewN _) (Nat.add_assoc _ _ _))⟩))); try go_wp2_with (first | (go_at_call 193; (with_reducible refine (bits_LeadingZeros8.calls (Go.bits .xor .u8 (bt a0 bI) (bt a1 bI)) aM _ gl.out).mono ?_); rintro e w' ⟨rfl, ⟨nd, rfl⟩⟩; (try first | exact ⟨rfl, _, World.drewN_drewN _ _ _⟩ | exact ⟨rfl, _, Eq.trans (World.drewN_drewN _ _ _) (congrArg (World.drewN _) (Nat.add_assoc _ _ _))⟩))))
        go_ret
        exact ⟨by first | rfl | (simp [errW_none, errW_some] <;> rfl) | (simp only [← hji3]; first | rfl | (simp [errW_none, errW_some] <;> rfl)) | (simp [*, errW_none, errW_some] <;> rfl), Z2⟩
      ·rw [if_neg c8] at H
       exact absurd H Z27
     ·rw [if_neg c6] at H
      exact absurd H Z27
    ·rw [if_neg c5] at H
     exact absurd H Z27
   ·rw [if_neg c4] at H
    have bP : decide (bI < ji3) = false := decide_eq_false c4
    clear c4
    obtain ⟨ji12, hji12⟩ : ∃ j_ : Int, (mn (a0.size : Int) (a1.size : Int)) = j_ := ⟨_, rfl⟩
    replace H : (some (wrap64 (8 * (ji12)))) = some r := by first | (rw [hji12] at H; exact H) | (simp only [hji12] at H ⊢; exact H)
    (try (have hji12l : 0 ≤ ji12 := by (rw [← hji12]; unfold mn; (repeat' split) <;> omega)))
    (try (have hji12m : 0 ≤ ji12 := by omega))
    have hji12_ : (if (a1.size : Int) < (a0.size : Int) then (a1.size : Int) else (a0.size : Int)) = ji12 := hji12
    (try have hji12n_ := hji12_; simp only [Int.ofNat_lt] at hji12n_)
    obtain rfl := Option.some.inj H
    go_wp2
    repeat (go_quiet (fail); try go_wp2)
    go_ret
    exact ⟨by first | rfl | (simp [errW_none, errW_some] <;> rfl) | (simp only [← hji3, ← hji12]; first | rfl | (simp [errW_none, errW_some] <;> rfl)) | (simp [*, errW_none, errW_some] <;> rfl), Z2⟩

end Go.Proofs.YtnllanjoebjeiaaGreat.PV
