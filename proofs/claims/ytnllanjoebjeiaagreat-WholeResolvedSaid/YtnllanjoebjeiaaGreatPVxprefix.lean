-- Written by mp.py, a program of this work (wip/tools), out of the translation; Lean checks it.
import Derived.Test.YtnllanjoebjeiaaGreatPVxZ
import Derived.Test.YtnllanjoebjeiaaGreatPVxbits
import Derived.Test.YtnllanjoebjeiaaGreatStore
namespace Go.Proofs.YtnllanjoebjeiaaGreat.PV
open Go.RowKit Go.Proofs.YtnllanjoebjeiaaGreatW.PrintWords Go.Proofs.YtnllanjoebjeiaaGreatW.PrintLast Go.Proofs.YtnllanjoebjeiaaGreatW.PrintMore
attribute [local go_sem] max2_int min2_int max_two min_two max_three min_three max_four min_four   -- for this text's walks alone
set_option linter.unusedVariables false
set_option linter.unusedSimpArgs false

/-! ### prefix_Least: function 192 -/
def prefix_Least.f (a0 : Int) : Option (Int) := some ((wrap64 ((mx a0 0) + 7)) / 8)
set_option maxHeartbeats 8000000 in
set_option maxRecDepth 100000 in
theorem prefix_Least.calls (a0 : Int) (r : Int) (w : World) (h : prefix_Least.f a0 = some r) :
  Calls Tryz.prog 192 #[.int .i64 a0] w fun e w' => e = .returned (.int .i64 r) ∧ Below w.heap.size w w' := by
 have HB := Aside0.mk (Below.refl w.heap.size w)
 have H : (some ((wrap64 ((mx a0 0) + 7)) / 8)) = some r := h
 clear h
 obtain ⟨ji2, hji2⟩ : ∃ j_ : Int, (mx a0 0) = j_ := ⟨_, rfl⟩
 replace H : (some ((wrap64 ((ji2) + 7)) / 8)) = some r := by first | (rw [hji2] at H; exact H) | (simp only [hji2] at H ⊢; exact H)
 (try (have hji2l : 0 ≤ ji2 := by (rw [← hji2]; unfold mx; (repeat' split) <;> omega)))
 (try (have hji2m : 0 ≤ ji2 := by omega))
 have hji2_ : (if a0 < 0 then 0 else a0) = ji2 := hji2
 (try have hji2n_ := hji2_; simp only [Int.ofNat_lt] at hji2n_)
 obtain rfl := Option.some.inj H
 go_enter Tryz.func192, Tryz.ntmps192
 go_wp2
 go_ret
 exact ⟨by first | rfl | (simp [errW_none, errW_some] <;> rfl) | (simp only [← hji2]; first | rfl | (simp [errW_none, errW_some] <;> rfl)) | (simp [*, errW_none, errW_some] <;> rfl), Z2⟩

/-! ### prefix_Cut: function 169 -/
def prefix_Cut.f (a0 : ByteArray) (a1 : Int) : Option (ByteArray) := (prefix_Least.f a1).bind fun aM => (if 0 ≤ (mn aM (a0.size : Int)) then (if (mn aM (a0.size : Int)) ≤ (a0.size : Int) then ((bits_Keep.f (a0.extract 0 ((mn aM (a0.size : Int)) : Int).toNat) a1).bind fun bl => (some bl)) else (none)) else (none))
set_option maxHeartbeats 8000000 in
set_option maxRecDepth 100000 in
theorem prefix_Cut.calls (a0 : ByteArray) (a1 : Int) (r : ByteArray) (w : World) (h : prefix_Cut.f a0 a1 = some r) :
  Calls Tryz.prog 169 #[.string a0, .int .i64 a1] w fun e w' => e = .returned (.string r) ∧ Below w.heap.size w w' := by
 have HB := Aside0.mk (Below.refl w.heap.size w)
 have H : ((prefix_Least.f a1).bind fun aM => (if 0 ≤ (mn aM (a0.size : Int)) then (if (mn aM (a0.size : Int)) ≤ (a0.size : Int) then ((bits_Keep.f (a0.extract 0 ((mn aM (a0.size : Int)) : Int).toNat) a1).bind fun bl => (some bl)) else (none)) else (none))) = some r := h
 clear h
 replace H := Option.bind_eq_some_iff.mp H
 obtain ⟨aM, cU, H⟩ := H
 replace H : (if 0 ≤ (mn aM (a0.size : Int)) then (if (mn aM (a0.size : Int)) ≤ (a0.size : Int) then ((bits_Keep.f (a0.extract 0 ((mn aM (a0.size : Int)) : Int).toNat) a1).bind fun bl => (some bl)) else (none)) else (none)) = some r := H
 have A3 := Aside0.mk cU
 clear cU
 obtain ⟨ji4, hji4⟩ : ∃ j_ : Int, (mn aM (a0.size : Int)) = j_ := ⟨_, rfl⟩
 replace H : (if 0 ≤ (ji4) then (if (ji4) ≤ (a0.size : Int) then ((bits_Keep.f (a0.extract 0 ((ji4) : Int).toNat) a1).bind fun bl => (some bl)) else (none)) else (none)) = some r := by first | (rw [hji4] at H; exact H) | (simp only [hji4] at H ⊢; exact H)
 (try rw [hji4] at A3)
 have hji4_ : (if (a0.size : Int) < aM then (a0.size : Int) else aM) = ji4 := hji4
 (try have hji4n_ := hji4_; simp only [Int.ofNat_lt] at hji4n_)
 by_cases c5 : 0 ≤ (ji4)
 ·rw [if_pos c5] at H
  have ca := eq_true c5
  have dM : decide (0 ≤ (ji4)) = true := decide_eq_true c5
  clear c5
  by_cases c6 : (ji4) ≤ (a0.size : Int)
  ·rw [if_pos c6] at H
   have ce := eq_true c6
   have cJ : decide ((ji4) ≤ (a0.size : Int)) = true := decide_eq_true c6
   clear c6
   replace H := Option.bind_eq_some_iff.mp H
   obtain ⟨bl, eJ, H⟩ := H
   replace H : (some bl) = some r := H
   have A7 := Aside0.mk eJ
   clear eJ
   obtain rfl := Option.some.inj H
   go_enter Tryz.func169, Tryz.ntmps169
   go_wp2_with (first | ((with_reducible refine gate_callee (f := 192) rfl ?_); refine goesL_ (some 8) rfl rfl Tryz.func192 Z12 rfl #[.int .i64 a1] rfl Z3 ?_; (with_reducible refine (prefix_Least.calls a1 aM _ A3.out).mono ?_); rintro e w8 ⟨rfl, hb⟩; refine ⟨_, rfl, ?_⟩; replace HB := Aside0.mk (below_step Z2 hb); clear hb) | ((with_reducible refine gate_callee (f := 185) rfl ?_); refine goesL_ (some 15) rfl rfl Tryz.func185 Z12 rfl #[.string (a0.extract 0 ((ji4) : Int).toNat), .int .i64 a1] rfl (by (try simp only [List.map_toArray, List.map_cons, List.map_nil]); first | done | (simp only [hji4]; rfl) | rfl | (simp only [List.length_drop, List.length_take]; rfl)) ?_; (with_reducible refine (bits_Keep.calls (a0.extract 0 ((ji4) : Int).toNat) a1 bl _ A7.out).mono ?_); rintro e w9 ⟨rfl, hb⟩; refine ⟨_, rfl, ?_⟩; replace HB := Aside0.mk (below_step Z2 hb); clear hb))
   go_ret
   exact ⟨by first | rfl | (simp [errW_none, errW_some] <;> rfl) | (simp only [← hji4]; first | rfl | (simp [errW_none, errW_some] <;> rfl)) | (simp [*, errW_none, errW_some] <;> rfl), Z2⟩
  ·rw [if_neg c6] at H
   exact absurd H Z27
 ·rw [if_neg c5] at H
  exact absurd H Z27

/-! ### prefix_Lead: function 136 -/
def prefix_Lead.f (k : Nat) (a0 : ByteArray) (a1 : ByteArray) : Option (Int) := (bits_Alike.f k a0 a1).bind fun aM => (some (aM / 8))
theorem prefix_Lead.mono : ∀ a0 a1 k, LeO (prefix_Lead.f k a0 a1) (prefix_Lead.f (k + 1) a0 a1) := by
 intro a0 a1 k
 unfold prefix_Lead.f
 have m0 := bits_Alike.mono
 exact Sq.mo
set_option maxHeartbeats 8000000 in
set_option maxRecDepth 100000 in
theorem prefix_Lead.calls (k : Nat) (a0 : ByteArray) (a1 : ByteArray) (r : Int) (w : World) (h : prefix_Lead.f k a0 a1 = some r) :
  Calls Tryz.prog 136 #[.string a0, .string a1] w fun e w' => e = .returned (.int .i64 r) ∧ Below w.heap.size w w' := by
 have HB := Aside0.mk (Below.refl w.heap.size w)
 have H : ((bits_Alike.f k a0 a1).bind fun aM => (some (aM / 8))) = some r := h
 clear h
 replace H := Option.bind_eq_some_iff.mp H
 obtain ⟨aM, cU, H⟩ := H
 replace H : (some (aM / 8)) = some r := H
 have A3 := Aside0.mk cU
 clear cU
 obtain rfl := Option.some.inj H
 go_enter Tryz.func136, Tryz.ntmps136
 go_wp2_with (first | ((with_reducible refine gate_callee (f := 171) rfl ?_); refine goesL_ (some 7) rfl rfl Tryz.func171 Z12 rfl #[.string a0, .string a1] rfl Z3 ?_; (with_reducible refine (bits_Alike.calls k a0 a1 aM _ A3.out).mono ?_); rintro e w4 ⟨rfl, hb⟩; refine ⟨_, rfl, ?_⟩; replace HB := Aside0.mk (below_step Z2 hb); clear hb))
 go_ret
 exact ⟨Z5, Z2⟩

/-! ### prefix_Fill: function 200 -/
def prefix_Fill.f (a0 : ByteArray) (a1 : Int) : Option ByteArray :=
 if a0.size ≤ 140737488351232 then
  if a1 ≤ (a0.size : Int) then some a0
  else if a1 ≤ 281474976710656 then some (strOfNums (bytesOf a0 ++ (List.replicate a1.toNat 0).drop a0.size))
  else none
 else none
set_option maxHeartbeats 8000000 in
set_option maxRecDepth 100000 in
theorem prefix_Fill.calls (a0 : ByteArray) (a1 : Int) (r : ByteArray) (w : World) (h : prefix_Fill.f a0 a1 = some r) :
  Calls Tryz.prog 200 #[.string a0, .int .i64 a1] w fun e w' => e = .returned (.string r) ∧ Below w.heap.size w w' := by
 unfold prefix_Fill.f at h
 by_cases hs : a0.size ≤ 140737488351232
 ·rw [if_pos hs] at h
  by_cases h1 : a1 ≤ (a0.size : Int)
  ·rw [if_pos h1] at h
   obtain rfl := Option.some.inj h
   clear h
   go_enter Tryz.func200, Tryz.ntmps200
   go_wp2
   go_ret
   exact ⟨rfl, Below.refl _ _⟩
  ·rw [if_neg h1] at h
   by_cases h2 : a1 ≤ 281474976710656
   ·rw [if_pos h2] at h
    obtain ⟨n, rfl⟩ : ∃ n : Nat, a1 = n := ⟨a1.toNat, Z23⟩
    rw [Int.toNat_natCast] at h
    have hmk := print_make (P := Tryz.prog) 64 5 .u8 1 Tryz.underlying64 info5 Z34 n Z23
    have HO := Aside0.mk (own_made w w.heap.size 5 .u8 n (Nat.le_refl _) Z23)
    have HB := Aside0.mk (below_alloc (Below.refl w.heap.size w) (.cells (madeCells #[.int .u8 0] n) 5))
    obtain ⟨W2, hcp, hH, HB2, hsz⟩ := Pre.copy_own_str (P := Tryz.prog) 64 9 3 a0 Tryz.underlying64 Z12 HO.out Z23
    have HB3 := Aside0.mk (HB2 (Nat.le_refl _) HB.out)
    obtain ⟨x, hx⟩ : ∃ x, x = bytesOf a0 ++ (List.replicate n 0).drop a0.size := ⟨_, rfl⟩
    rw [← hx] at hH h
    obtain rfl := Option.some.inj h
    have hcv := own_string (P := Tryz.prog) Tryz.underlying64 Tryz.underlying5 Tryz.underlying9 hH
    clear h hx hH HB2 hsz HB HO
    go_enter Tryz.func200, Tryz.ntmps200
    go_wp2_with (first | (with_reducible refine Pre.wpList_copy_ rfl (.tmp 13) (.tmp 14) 64 9 rfl _ _ rfl rfl hcp ?_))
    go_ret
    exact ⟨rfl, HB3.out⟩
   ·rw [if_neg h2] at h; exact absurd h Z27
 ·rw [if_neg hs] at h; exact absurd h Z27

end Go.Proofs.YtnllanjoebjeiaaGreat.PV
