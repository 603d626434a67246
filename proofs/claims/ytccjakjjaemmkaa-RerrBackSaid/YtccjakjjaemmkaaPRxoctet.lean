-- Written by mp.py, a program of this work (wip/tools), out of the translation; Lean checks it.
import Derived.Test.YtccjakjjaemmkaaPRxZ
namespace Go.Proofs.Ytccjakjjaemmkaa.PR
open Go.RowKit Go.Proofs.YtccjakjjaemmkaaW.PrintWords Go.Proofs.YtccjakjjaemmkaaW.PrintLast Go.Proofs.YtccjakjjaemmkaaW.PrintMore
attribute [local go_sem] max2_int min2_int max_two min_two max_three min_three max_four min_four   -- for this text's walks alone
set_option linter.unusedVariables false
set_option linter.unusedSimpArgs false

/-! ### octet_Fits: function 54 -/
def octet_Fits.f (a0 : Int) (a1 : Int) : Option (Bool) := if a1 ≥ 1 then (if a1 ≤ 7 then (if a0 ≥ 0 then (if 0 ≤ (IntKind.u64.wrap (wrap64 (8 * a1))) then (some ((shr .i64 a0 (IntKind.u64.wrap (wrap64 (8 * a1)))) == 0)) else (none)) else (some false)) else (some false)) else (some false)
set_option maxHeartbeats 8000000 in
set_option maxRecDepth 100000 in
theorem octet_Fits.calls (a0 : Int) (a1 : Int) (r : Bool) (w : World) (h : octet_Fits.f a0 a1 = some r) :
  Calls Try.prog 54 #[.int .i64 a0, .int .i64 a1] w fun e w' => e = .returned (.bool r) ∧ Drawn0 w w' := by
 have H : (if a1 ≥ 1 then (if a1 ≤ 7 then (if a0 ≥ 0 then (if 0 ≤ (IntKind.u64.wrap (wrap64 (8 * a1))) then (some ((shr .i64 a0 (IntKind.u64.wrap (wrap64 (8 * a1)))) == 0)) else (none)) else (some false)) else (some false)) else (some false)) = some r := h
 clear h
 by_cases c3 : a1 ≥ 1
 ·rw [if_pos c3] at H
  have gw : decide (1 ≤ a1) = true := decide_eq_true c3
  clear c3
  by_cases c4 : a1 ≤ 7
  ·rw [if_pos c4] at H
   have cS : decide (a1 ≤ 7) = true := decide_eq_true c4
   clear c4
   by_cases c5 : a0 ≥ 0
   ·rw [if_pos c5] at H
    have hm : decide (0 ≤ a0) = true := decide_eq_true c5
    clear c5
    obtain ⟨ji6, hji6⟩ : ∃ j_ : Int, (IntKind.u64.wrap (wrap64 (8 * a1))) = j_ := ⟨_, rfl⟩
    replace H : (if 0 ≤ (ji6) then (some ((shr .i64 a0 (ji6)) == 0)) else (none)) = some r := by first | (rw [hji6] at H; exact H) | (simp only [hji6] at H ⊢; exact H)
    by_cases c7 : 0 ≤ (ji6)
    ·rw [if_pos c7] at H
     have ib := eq_true c7
     have lL : decide (0 ≤ (ji6)) = true := decide_eq_true c7
     clear c7
     obtain ⟨ji8, hji8⟩ : ∃ j_ : Int, (shr .i64 a0 (ji6)) = j_ := ⟨_, rfl⟩
     replace H : (some ((ji8) == 0)) = some r := by first | (rw [hji8] at H; exact H) | (simp only [hji8] at H ⊢; exact H)
     have hji8_ : (a0 / 2 ^ min (ji6).toNat 64) = ji8 := hji8
     have hji8z : (ji6) ≤ 64 → (a0 / 2 ^ (ji6).toNat) = ji8 := shr_small hji8
     obtain rfl := Option.some.inj H
     go_enter Try.func54, Try.ntmps54
     go_wp2
     go_ret
     exact ⟨by first | rfl | (simp; done) | (simp only [← hji6, ← hji8] <;> (first | rfl | simp)) | (simp [*]; done), Z44⟩
    ·rw [if_neg c7] at H
     exact absurd H Z73
   ·rw [if_neg c5] at H
    have hm : decide (0 ≤ a0) = false := decide_eq_false c5
    clear c5
    obtain rfl := Option.some.inj H
    go_enter Try.func54, Try.ntmps54
    go_wp2
    go_ret
    exact ⟨Z14, Z44⟩
  ·rw [if_neg c4] at H
   have cS : decide (a1 ≤ 7) = false := decide_eq_false c4
   clear c4
   obtain rfl := Option.some.inj H
   go_enter Try.func54, Try.ntmps54
   go_wp2
   go_ret
   exact ⟨Z14, Z44⟩
 ·rw [if_neg c3] at H
  have gw : decide (1 ≤ a1) = false := decide_eq_false c3
  clear c3
  obtain rfl := Option.some.inj H
  go_enter Try.func54, Try.ntmps54
  go_wp2
  go_ret
  exact ⟨Z14, Z44⟩

/-! ### octet_Put: function 67 -/
def octet_Put.l0 : Nat → Int → List Int → Int → Option (ByteArray × Bool)
 | 0, _, _, _ => none
 | k + 1, x0, x6, x7 => if x7 ≥ 0 then (if 0 ≤ x7 then (if x7 < (x6.length : Int) then (octet_Put.l0 k (x0 / 256) (x6.set (x7 : Int).toNat ((x0) % 256)) (wrap64 (x7 - 1))) else (none)) else (none)) else (some (strOfNums x6, true))
def octet_Put.f (k : Nat) (a0 : Int) (a1 : Int) : Option (ByteArray × Bool) := (octet_Fits.f a0 a1).bind fun ci => (if ci = true then (if 0 ≤ a1 then (if (a1 : Int).toNat ≤ 281474976710656 then (octet_Put.l0 k a0 (List.replicate (a1 : Int).toNat 0) (wrap64 (a1 - 1))) else (none)) else (none)) else (some ((⟨#[]⟩ : ByteArray), false)))
theorem octet_Put.mono_l : ∀ k, (∀ y0 y1 y2, LeO (octet_Put.l0 k y0 y1 y2) (octet_Put.l0 (k + 1) y0 y1 y2))
 | 0 => fun _ _ _ r h => by simp [octet_Put.l0] at h
 | k + 1 => by
  have ih0 := octet_Put.mono_l k
  ·intro y0 y1 y2
   unfold octet_Put.l0
   repeat' first
   | (with_reducible exact ih0 ..)
   | (with_reducible exact LeO.refl _)
   | (with_reducible exact LeO.none _)
   | (with_reducible refine LeO.ite ?_ ?_)
   | (with_reducible refine LeO.bind ?_ (fun _ => ?_))
   | exact ih0 ..
   | exact LeO.none _
   | refine LeO.ite ?_ ?_
   | refine LeO.bind ?_ (fun _ => ?_)
theorem octet_Put.mono : ∀ a0 a1 k, LeO (octet_Put.f k a0 a1) (octet_Put.f (k + 1) a0 a1) := by
 intro a0 a1 k
 have ih0 := octet_Put.mono_l k
 unfold octet_Put.f
 repeat' first
   | (with_reducible exact ih0 ..)
   | (with_reducible exact LeO.refl _)
   | (with_reducible exact LeO.none _)
   | (with_reducible refine LeO.ite ?_ ?_)
   | (with_reducible refine LeO.bind ?_ (fun _ => ?_))
   | exact ih0 ..
   | exact LeO.none _
   | refine LeO.ite ?_ ?_
   | refine LeO.bind ?_ (fun _ => ?_)
set_option maxHeartbeats 8000000 in
set_option maxRecDepth 100000 in
theorem octet_Put.calls (k : Nat) (a0 : Int) (a1 : Int) (r1 : ByteArray) (r2 : Bool) (w : World) (h : octet_Put.f k a0 a1 = some (r1, r2)) :
  Calls Try.prog 67 #[.int .i64 a0, .int .i64 a1] w fun e w' => e = .returned (.tuple #[.string r1, .bool r2]) ∧ Below w.heap.size w w' := by
 have HB := Aside0.mk (Below.refl w.heap.size w)
 have H : ((octet_Fits.f a0 a1).bind fun ci => (if ci = true then (if 0 ≤ a1 then (if (a1 : Int).toNat ≤ 281474976710656 then (octet_Put.l0 k a0 (List.replicate (a1 : Int).toNat 0) (wrap64 (a1 - 1))) else (none)) else (none)) else (some ((⟨#[]⟩ : ByteArray), false)))) = some (r1, r2) := h
 clear h
 replace H := Option.bind_eq_some_iff.mp H
 obtain ⟨ci, ky, H⟩ := H
 replace H : (if ci = true then (if 0 ≤ a1 then (if (a1 : Int).toNat ≤ 281474976710656 then (octet_Put.l0 k a0 (List.replicate (a1 : Int).toNat 0) (wrap64 (a1 - 1))) else (none)) else (none)) else (some ((⟨#[]⟩ : ByteArray), false))) = some (r1, r2) := H
 have A3 := Aside0.mk ky
 clear ky
 by_cases c4 : ci = true
 ·subst c4
  have H1 : (if 0 ≤ a1 then (if (a1 : Int).toNat ≤ 281474976710656 then (octet_Put.l0 k a0 (List.replicate (a1 : Int).toNat 0) (wrap64 (a1 - 1))) else (none)) else (none)) = some (r1, r2) := by rw [if_pos rfl] at H; exact H
  clear H
  have H := H1
  clear H1
  by_cases c5 : 0 ≤ a1
  ·rw [if_pos c5] at H
   have hm := eq_true c5
   have jC : decide (0 ≤ a1) = true := decide_eq_true c5
   clear c5
   by_cases c6 : (a1 : Int).toNat ≤ 281474976710656
   ·rw [if_pos c6] at H
    have gZ := eq_true c6
    have ii : decide ((a1 : Int).toNat ≤ 281474976710656) = true := decide_eq_true c6
    clear c6
    obtain ⟨ku, hy102⟩ : ∃ y_ : List Int, y_ = (List.replicate (a1 : Int).toNat 0) := ⟨_, rfl⟩
    replace H : (octet_Put.l0 k a0 ku (wrap64 (a1 - 1))) = some (r1, r2) := by first | (rw [hy102]; with_reducible exact H) | (have H2_ := (Option.bind_some _ _).symm.trans H; rw [hy102]; with_reducible exact H2_) | (have H2_ := (Option.bind_some _ _).symm.trans H; with_reducible exact H2_) | with_reducible exact H | (rw [hy102]; exact H) | exact H
    have Ny102 := Aside0.mk hy102
    clear hy102
    have H' := Aside0.mk H
    clear H
    go_enter Try.func67, Try.ntmps67
    go_wp2_with (first | ((with_reducible refine gate_callee (f := 54) rfl ?_); refine goesL_ (some 10) rfl rfl Try.func54 Z6 rfl #[.int .i64 a0, .int .i64 a1] rfl Z5 ?_; (with_reducible refine (octet_Fits.calls a0 a1 true _ A3.out).mono ?_); rintro e w' ⟨rfl, ⟨nd, rfl⟩⟩; refine ⟨_, rfl, ?_⟩) | ((with_reducible refine gate_dst (N := 13) rfl ?_); refine Kd.R_make (Kd.int .u8) _ 5 rfl (N := 13) rfl 51 _ _ rfl a1 rfl rfl Try.underlying51 (.int .u8 0) 1 info5 rfl Z32 Z55 0 (ok := fun _ => True) (okp := fun _ => True) rfl (fun _ hk => hk) trivial (of_decide_eq_true Z10) (Nat.le_trans (Nat.mul_le_mul_right _ (of_decide_eq_true Z10 : a1.toNat ≤ 281474976710656)) Z55) (Below.refl _ _) (Nat.le_refl _) ?_; intro tX w7 ho8 hb hg_ hnew_; clear hg_ hnew_; (first | rw [← Ny102.out] at ho8 | (simp only [Int.reduceToNat] at ho8; rw [← Ny102.out] at ho8)); have aG := Aside0.mk (Kd.R_lower ho8 (below_size Z3)); have aH := Aside0.mk (below_step Z3 hb); have pi := aG; replace HB := aH; clear aG aH; clear hb ho8))
    go_loopg [0, 7] k (fun kq v0 v7 w' => ∃ (iX : Int) (ea : List Int) (da : Int), v0 = .int .i64 iX ∧ v7 = .int .i64 da ∧ Aside0 (octet_Put.l0 kq iX ea da = some (r1, r2)) ∧ Aside0 (kq ≤ k) ∧ Aside0 (Kd.R (Kd.int .u8) 5 w' w.heap.size (fun _ => True) tX ea) ∧ Aside0 (Below w.heap.size w w'))
    case atStart => exact ⟨(a0), (ku), (wrap64 (a1 - 1)), Z14, Z14, H', ⟨Nat.le_refl _⟩, ⟨by (with_reducible repeat (first | apply Kd.R_alloc | apply Kd.R_drewN | apply Kd.R_drew)); exact pi.out⟩, ⟨Z3⟩⟩
    case round =>
     clear H'
     try clear p2
     try clear c4
     try clear c5
     try clear hm
     try clear jC
     try clear c6
     try clear gZ
     try clear ii
     try clear p6
     obtain ⟨iX, ea, da, rfl, rfl, HA, HK1, HO_6, HB⟩ := hrel
     cases gk with
     | zero => exact absurd HA.out (by simp [octet_Put.l0])
     | succ k1 =>
      have H := HA.out
      clear HA
      simp only [octet_Put.l0] at H
      by_cases c9 : da ≥ 0
      ·rw [if_pos c9] at H
       have ju : decide (0 ≤ da) = true := decide_eq_true c9
       clear c9
       by_cases cX : 0 ≤ da
       ·rw [if_pos cX] at H
        have ff : decide (0 ≤ da) = true := decide_eq_true cX
        clear cX
        by_cases cU : da < (ea.length : Int)
        ·rw [if_pos cU] at H
         have fE : decide (da < (ea.length : Int)) = true := decide_eq_true cU
         clear cU
         obtain ⟨bb, hy105⟩ : ∃ y_ : List Int, y_ = (ea.set (da : Int).toNat ((iX) % 256)) := ⟨_, rfl⟩
         replace H : (octet_Put.l0 k1 (iX / 256) bb (wrap64 (da - 1))) = some (r1, r2) := by first | (rw [hy105]; with_reducible exact H) | (have H2_ := (Option.bind_some _ _).symm.trans H; rw [hy105]; with_reducible exact H2_) | (have H2_ := (Option.bind_some _ _).symm.trans H; with_reducible exact H2_) | with_reducible exact H | (rw [hy105]; exact H) | exact H
         have Ny105 := Aside0.mk hy105
         clear hy105
         have H' := Aside0.mk H
         clear H
         have p12 : 0 ≤ (da : Int) := of_decide_eq_true Z10
         have q12 : (da : Int) < ((ea.length : Int) : Int) := of_decide_eq_true Z10
         obtain ⟨go12, nU, eo12, uB, gl12, cl12, HG12⟩ := Kd.R_form HO_6.out Z55
         (first | cases eo12 | (injection eo12 with ea_ en_ ec_; (first | subst ea_ | (injection ea_ with ea_; subst ea_)); subst ec_; clear en_))
         have GB12 := Aside0.mk uB
         have GG12 := Aside0.mk HG12
         clear uB gl12 HG12
         obtain ⟨hx12_0, hf12_0⟩ := Kd.R_celln 0 HO_6.out (da : Int) p12 q12
         replace p12 := eq_true p12
         replace q12 := eq_true q12
         have HP13 := Kd.R_putg HO_6.out (da : Int) ((iX) % 256)
         go_wp2_with (first | ((with_reducible refine gate_store (t := 5) (p := 24) rfl ?_); refine store_event (t := 5) (p := 24) (v := ?vo_w14) (w1 := (wr.setCell ⟨go12, (da : Int).toNat, none⟩ (.int .u8 ((iX) % 256)))) ?hg ?ho ?hn ?hr ?_; (case ho => rfl); (case hg => rfl); (case hn => rfl); (case hr => first | (go_simp; done) | (go_simp; rfl)); intro mB hw; have hg : wr.grownBy mB (some go12) := (by rw [hw]; exact HP13.2); have hp_ : Kd.R (Kd.int .u8) 5 mB w.heap.size (fun _ => True) (.slice (some ⟨go12, 0, none⟩) ea.length nU) bb := (by rw [hw, Ny105.out]; exact HP13.1); clear HP13; have aG := Aside0.mk (hp_); have aH := Aside0.mk ((by rw [hw]; exact below_set (HB.out) GB12.out : Below w.heap.size w mB)); replace HO_6 := aG; replace HB := aH; clear aG aH; clear hg hw hp_))
         go_roundg k1
         case measure => have := HK1.out; omega
         case rel => exact ⟨(iX / 256), (bb), (wrap64 (da - 1)), Z14, Z14, H', ⟨Z112⟩, ⟨by (with_reducible repeat (first | apply Kd.R_alloc | apply Kd.R_drewN | apply Kd.R_drew)); exact HO_6.out⟩, ⟨Z3⟩⟩
        ·rw [if_neg cU] at H
         exact absurd H Z73
       ·rw [if_neg cX] at H
        exact absurd H Z73
      ·rw [if_neg c9] at H
       have ju : decide (0 ≤ da) = false := decide_eq_false c9
       clear c9
       simp only [Option.some.injEq, Prod.mk.injEq] at H
       obtain ⟨rfl, rfl⟩ := H
       have hcv15 := own_string (P := Try.prog) Try.underlying51 Try.underlying5 Try.underlying9 (Kd.own_of_R HO_6.out)
       go_wp2
       go_ret2
       exact ⟨Z9, Z3⟩
   ·rw [if_neg c6] at H
    exact absurd H Z73
  ·rw [if_neg c5] at H
   exact absurd H Z73
 ·replace c4 := Bool.eq_false_iff.mpr c4
  subst c4
  have H1 : (some ((⟨#[]⟩ : ByteArray), false)) = some (r1, r2) := by rw [if_neg (show ¬ (false = true) by decide)] at H; exact H
  clear H
  have H := H1
  clear H1
  simp only [Option.some.injEq, Prod.mk.injEq] at H
  obtain ⟨rfl, rfl⟩ := H
  go_enter Try.func67, Try.ntmps67
  go_wp2_with (first | ((with_reducible refine gate_callee (f := 54) rfl ?_); refine goesL_ (some 10) rfl rfl Try.func54 Z6 rfl #[.int .i64 a0, .int .i64 a1] rfl Z5 ?_; (with_reducible refine (octet_Fits.calls a0 a1 false _ A3.out).mono ?_); rintro e w' ⟨rfl, ⟨nd, rfl⟩⟩; refine ⟨_, rfl, ?_⟩))
  go_ret2
  exact ⟨Z9, Z3⟩

end Go.Proofs.Ytccjakjjaemmkaa.PR
