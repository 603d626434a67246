-- Written by mp.py, a program of this work (wip/tools), out of the translation; Lean checks it.
import Derived.Test.YtccjakjjaemmkaaPRxZ
namespace Go.Proofs.Ytccjakjjaemmkaa.PR
open Go.RowKit Go.Proofs.YtccjakjjaemmkaaW.PrintWords Go.Proofs.YtccjakjjaemmkaaW.PrintLast Go.Proofs.YtccjakjjaemmkaaW.PrintMore
attribute [local go_sem] max2_int min2_int max_two min_two max_three min_three max_four min_four   -- for this text's walks alone
set_option linter.unusedVariables false
set_option linter.unusedSimpArgs false

/-! ### roadbookref02_Fits: function 57 -/
mutual
def roadbookref02_Fits.j0 : Nat → Int → Int → Bool → Option (Bool)
 | 0, _, _, _ => none
 | k + 1, x0, x1, vr => if vr = true then (some false) else (roadbookref02_Fits.l0 k x0 x1 1 0)
def roadbookref02_Fits.l0 : Nat → Int → Int → Int → Int → Option (Bool)
 | 0, _, _, _, _ => none
 | k + 1, x0, x1, x5, x6 => if x6 < x1 then (roadbookref02_Fits.l0 k x0 x1 (wrap64 (x5 * 256)) (wrap64 (x6 + 1))) else (some (decide (x0 < x5)))
end
def roadbookref02_Fits.f (k : Nat) (a0 : Int) (a1 : Int) : Option (Bool) := if a1 < 1 then (roadbookref02_Fits.j0 k a0 a1 true) else (if a1 > 7 then (roadbookref02_Fits.j0 k a0 a1 true) else (roadbookref02_Fits.j0 k a0 a1 (decide (a0 < 0))))
theorem roadbookref02_Fits.mono_l : ∀ k, (∀ y0 y1 y2, LeO (roadbookref02_Fits.j0 k y0 y1 y2) (roadbookref02_Fits.j0 (k + 1) y0 y1 y2)) ∧ (∀ y0 y1 y2 y3, LeO (roadbookref02_Fits.l0 k y0 y1 y2 y3) (roadbookref02_Fits.l0 (k + 1) y0 y1 y2 y3))
 | 0 => ⟨fun _ _ _ r h => by simp [roadbookref02_Fits.j0] at h, fun _ _ _ _ r h => by simp [roadbookref02_Fits.l0] at h⟩
 | k + 1 => by
  obtain ⟨ih0, ih1⟩ := roadbookref02_Fits.mono_l k
  refine ⟨?_, ?_⟩
  ·intro y0 y1 y2
   unfold roadbookref02_Fits.j0
   repeat' first
   | (with_reducible exact ih0 ..)
   | (with_reducible exact ih1 ..)
   | (with_reducible exact LeO.refl _)
   | (with_reducible exact LeO.none _)
   | (with_reducible refine LeO.ite ?_ ?_)
   | (with_reducible refine LeO.bind ?_ (fun _ => ?_))
   | exact ih0 ..
   | exact ih1 ..
   | exact LeO.none _
   | refine LeO.ite ?_ ?_
   | refine LeO.bind ?_ (fun _ => ?_)
  ·intro y0 y1 y2 y3
   unfold roadbookref02_Fits.l0
   repeat' first
   | (with_reducible exact ih0 ..)
   | (with_reducible exact ih1 ..)
   | (with_reducible exact LeO.refl _)
   | (with_reducible exact LeO.none _)
   | (with_reducible refine LeO.ite ?_ ?_)
   | (with_reducible refine LeO.bind ?_ (fun _ => ?_))
   | exact ih0 ..
   | exact ih1 ..
   | exact LeO.none _
   | refine LeO.ite ?_ ?_
   | refine LeO.bind ?_ (fun _ => ?_)
theorem roadbookref02_Fits.mono : ∀ a0 a1 k, LeO (roadbookref02_Fits.f k a0 a1) (roadbookref02_Fits.f (k + 1) a0 a1) := by
 intro a0 a1 k
 obtain ⟨ih0, ih1⟩ := roadbookref02_Fits.mono_l k
 unfold roadbookref02_Fits.f
 repeat' first
   | (with_reducible exact ih0 ..)
   | (with_reducible exact ih1 ..)
   | (with_reducible exact LeO.refl _)
   | (with_reducible exact LeO.none _)
   | (with_reducible refine LeO.ite ?_ ?_)
   | (with_reducible refine LeO.bind ?_ (fun _ => ?_))
   | exact ih0 ..
   | exact ih1 ..
   | exact LeO.none _
   | refine LeO.ite ?_ ?_
   | refine LeO.bind ?_ (fun _ => ?_)
set_option maxHeartbeats 8000000 in
set_option maxRecDepth 100000 in
theorem roadbookref02_Fits.calls (k : Nat) (a0 : Int) (a1 : Int) (r : Bool) (w : World) (h : roadbookref02_Fits.f k a0 a1 = some r) :
  Calls Try.prog 57 #[.int .i64 a0, .int .i64 a1] w fun e w' => e = .returned (.bool r) ∧ Drawn0 w w' := by
 have H : (if a1 < 1 then (roadbookref02_Fits.j0 k a0 a1 true) else (if a1 > 7 then (roadbookref02_Fits.j0 k a0 a1 true) else (roadbookref02_Fits.j0 k a0 a1 (decide (a0 < 0))))) = some r := h
 clear h
 have gl := Aside0.mk H
 clear H
 go_enter Try.func57, Try.ntmps57
 go_upto_region 1 with (fail)
 go_cut [16] (fun kx wc => ∃ (kq : Nat) (nn : Bool), kx = .bool nn ∧ Aside0 (roadbookref02_Fits.j0 kq a0 a1 nn = some r) ∧ Aside0 (kq ≤ k) ∧ Drawn0 w wc)
 case first =>
  have H := gl.out
  clear gl
  by_cases c4 : a1 < 1
  ·rw [if_pos c4] at H
   have cS : decide (a1 < 1) = true := decide_eq_true c4
   clear c4
   (first | rw [cS] | (simp only [i64_w, i32_w]; rw [cS]) | skip)
   have H' := Aside0.mk H
   clear H
   go_wp2
   go_meet
   case rel => exact ⟨_, (true), Z14, H', ⟨Z41⟩, Z44⟩
  ·rw [if_neg c4] at H
   have cS : decide (a1 < 1) = false := decide_eq_false c4
   clear c4
   (first | rw [cS] | (simp only [i64_w, i32_w]; rw [cS]) | skip)
   by_cases c5 : a1 > 7
   ·rw [if_pos c5] at H
    have hm : decide (7 < a1) = true := decide_eq_true c5
    clear c5
    have H' := Aside0.mk H
    clear H
    go_wp2
    go_meet
    case rel => exact ⟨_, (true), Z14, H', ⟨Z41⟩, Z44⟩
   ·rw [if_neg c5] at H
    have hm : decide (7 < a1) = false := decide_eq_false c5
    clear c5
    have H' := Aside0.mk H
    clear H
    go_wp2
    go_meet
    case rel => exact ⟨_, (decide (a0 < 0)), Z14, H', ⟨Z41⟩, Z44⟩
 case rest =>
  clear gl
  try clear c5
  obtain ⟨kq, nn, rfl, HA, pD, ⟨mc2, rfl⟩⟩ := hcut
  cases kq with
  | zero => exact absurd HA.out (by simp [roadbookref02_Fits.j0])
  | succ kj2 =>
   have H := HA.out
   clear HA
   simp only [roadbookref02_Fits.j0] at H
   by_cases c6 : nn = true
   ·subst c6
    replace H := Sq.itT H
    obtain rfl := Option.some.inj H
    go_wp2
    go_ret
    exact ⟨Z14, Z44⟩
   ·replace c6 := Bool.eq_false_iff.mpr c6
    subst c6
    replace H := Sq.itF H
    have H' := Aside0.mk H
    clear H
    go_wp2
    go_loopg [5, 6] kj2 (fun kq v5 v6 w' => ∃ (pU : Int) (mR : Int), v5 = .int .i64 pU ∧ v6 = .int .i64 mR ∧ Aside0 (roadbookref02_Fits.l0 kq a0 a1 pU mR = some r) ∧ Aside0 (kq ≤ kj2) ∧ Drawn0 w w')
    case atStart => exact ⟨(1), (0), Z14, Z14, H', ⟨Nat.le_refl _⟩, Z44⟩
    case round =>
     clear H'
     try clear c2
     try clear p2
     try clear c4
     try clear cS
     try clear c5
     try clear hm
     try clear c6
     obtain ⟨pU, mR, rfl, rfl, HA, HK2, ⟨m2, rfl⟩⟩ := hrel
     cases gk with
     | zero => exact absurd HA.out (by simp [roadbookref02_Fits.l0])
     | succ k2 =>
      have H := HA.out
      clear HA
      simp only [roadbookref02_Fits.l0] at H
      by_cases c7 : mR < a1
      ·rw [if_pos c7] at H
       have ib : decide (mR < a1) = true := decide_eq_true c7
       clear c7
       have H' := Aside0.mk H
       clear H
       go_wp2
       go_roundg k2
       case measure => have := pD.out; have := HK2.out; omega
       case rel => exact ⟨(wrap64 (pU * 256)), (wrap64 (mR + 1)), Z14, Z14, H', ⟨by have := pD.out; have := HK2.out; omega⟩, Z44⟩
      ·rw [if_neg c7] at H
       have ib : decide (mR < a1) = false := decide_eq_false c7
       clear c7
       obtain rfl := Option.some.inj H
       go_wp2
       go_ret
       exact ⟨Z14, Z44⟩

/-! ### roadbookref02_Put: function 72 -/
def roadbookref02_Put.l0 : Nat → Int → Int → ByteArray → Int → Option (ByteArray × Bool)
 | 0, _, _, _, _ => none
 | k + 1, x0, x1, x6, x7 => if x7 < x1 then ((some (([(Int.tmod x0 256) % 256] : List Int) : List Int)).bind fun ku => (if (strOfNums ku).size + x6.size ≤ 9223372036854775807 then (roadbookref02_Put.l0 k (wrap64 (Int.tdiv x0 256)) x1 ((strOfNums ku) ++ x6) (wrap64 (x7 + 1))) else (none))) else (some (x6, true))
def roadbookref02_Put.f (k : Nat) (a0 : Int) (a1 : Int) : Option (ByteArray × Bool) := (roadbookref02_Fits.f k a0 a1).bind fun ci => (if ci = true then (roadbookref02_Put.l0 k a0 a1 (⟨#[]⟩ : ByteArray) 0) else (some ((⟨#[]⟩ : ByteArray), false)))
theorem roadbookref02_Put.mono_l : ∀ k, (∀ y0 y1 y2 y3, LeO (roadbookref02_Put.l0 k y0 y1 y2 y3) (roadbookref02_Put.l0 (k + 1) y0 y1 y2 y3))
 | 0 => fun _ _ _ _ r h => by simp [roadbookref02_Put.l0] at h
 | k + 1 => by
  have ih0 := roadbookref02_Put.mono_l k
  ·intro y0 y1 y2 y3
   unfold roadbookref02_Put.l0
   repeat' first
   | (with_reducible exact ih0 ..)
   | (with_reducible exact roadbookref02_Fits.mono _ _ _)
   | (with_reducible exact LeO.refl _)
   | (with_reducible exact LeO.none _)
   | (with_reducible refine LeO.ite ?_ ?_)
   | (with_reducible refine LeO.bind ?_ (fun _ => ?_))
   | exact ih0 ..
   | exact roadbookref02_Fits.mono _ _ _
   | exact LeO.none _
   | refine LeO.ite ?_ ?_
   | refine LeO.bind ?_ (fun _ => ?_)
theorem roadbookref02_Put.mono : ∀ a0 a1 k, LeO (roadbookref02_Put.f k a0 a1) (roadbookref02_Put.f (k + 1) a0 a1) := by
 intro a0 a1 k
 have ih0 := roadbookref02_Put.mono_l k
 unfold roadbookref02_Put.f
 repeat' first
   | (with_reducible exact ih0 ..)
   | (with_reducible exact roadbookref02_Fits.mono _ _ _)
   | (with_reducible exact LeO.refl _)
   | (with_reducible exact LeO.none _)
   | (with_reducible refine LeO.ite ?_ ?_)
   | (with_reducible refine LeO.bind ?_ (fun _ => ?_))
   | exact ih0 ..
   | exact roadbookref02_Fits.mono _ _ _
   | exact LeO.none _
   | refine LeO.ite ?_ ?_
   | refine LeO.bind ?_ (fun _ => ?_)
set_option maxHeartbeats 8000000 in
set_option maxRecDepth 100000 in
theorem roadbookref02_Put.calls (k : Nat) (a0 : Int) (a1 : Int) (r1 : ByteArray) (r2 : Bool) (w : World) (h : roadbookref02_Put.f k a0 a1 = some (r1, r2)) :
  Calls Try.prog 72 #[.int .i64 a0, .int .i64 a1] w fun e w' => e = .returned (.tuple #[.string r1, .bool r2]) ∧ Below w.heap.size w w' := by
 have HB := Aside0.mk (Below.refl w.heap.size w)
 have H : ((roadbookref02_Fits.f k a0 a1).bind fun ci => (if ci = true then (roadbookref02_Put.l0 k a0 a1 (⟨#[]⟩ : ByteArray) 0) else (some ((⟨#[]⟩ : ByteArray), false)))) = some (r1, r2) := h
 clear h
 replace H := Option.bind_eq_some_iff.mp H
 obtain ⟨ci, ky, H⟩ := H
 replace H : (if ci = true then (roadbookref02_Put.l0 k a0 a1 (⟨#[]⟩ : ByteArray) 0) else (some ((⟨#[]⟩ : ByteArray), false))) = some (r1, r2) := H
 have A3 := Aside0.mk ky
 clear ky
 by_cases c4 : ci = true
 ·subst c4
  have H1 : (roadbookref02_Put.l0 k a0 a1 (⟨#[]⟩ : ByteArray) 0) = some (r1, r2) := by rw [if_pos rfl] at H; exact H
  clear H
  have H := H1
  clear H1
  have H' := Aside0.mk H
  clear H
  go_enter Try.func72, Try.ntmps72
  go_wp2_with (first | ((with_reducible refine gate_callee (f := 57) rfl ?_); refine goesL_ (some 10) rfl rfl Try.func57 Z6 rfl #[.int .i64 a0, .int .i64 a1] rfl Z5 ?_; (with_reducible refine (roadbookref02_Fits.calls k a0 a1 true _ A3.out).mono ?_); rintro e w' ⟨rfl, ⟨nd, rfl⟩⟩; refine ⟨_, rfl, ?_⟩))
  go_loopg [0, 6, 7] k (fun kq v0 v6 v7 w' => ∃ (iX : Int) (ea : ByteArray) (da : Int), v0 = .int .i64 iX ∧ v6 = .string ea ∧ v7 = .int .i64 da ∧ Aside0 (roadbookref02_Put.l0 kq iX a1 ea da = some (r1, r2)) ∧ Aside0 (kq ≤ k) ∧ Aside0 (Below w.heap.size w w'))
  case atStart => exact ⟨(a0), ((⟨#[]⟩ : ByteArray)), (0), Z14, Z14, Z14, H', ⟨Nat.le_refl _⟩, ⟨Z3⟩⟩
  case round =>
   clear H'
   try clear p2
   try clear c4
   obtain ⟨iX, ea, da, rfl, rfl, rfl, HA, HK1, HB⟩ := hrel
   cases gk with
   | zero => exact absurd HA.out (by simp [roadbookref02_Put.l0])
   | succ k1 =>
    have H := HA.out
    clear HA
    simp only [roadbookref02_Put.l0] at H
    by_cases c5 : da < a1
    ·rw [if_pos c5] at H
     have hm : decide (da < a1) = true := decide_eq_true c5
     clear c5
     obtain ⟨ku, hy102⟩ : ∃ y_ : List Int, y_ = (([(Int.tmod iX 256) % 256] : List Int)) := ⟨_, rfl⟩
     replace H : (if (strOfNums ku).size + ea.size ≤ 9223372036854775807 then (roadbookref02_Put.l0 k1 (wrap64 (Int.tdiv iX 256)) a1 ((strOfNums ku) ++ ea) (wrap64 (da + 1))) else (none)) = some (r1, r2) := by first | (rw [hy102]; with_reducible exact H) | (have H2_ := (Option.bind_some _ _).symm.trans H; rw [hy102]; with_reducible exact H2_) | (have H2_ := (Option.bind_some _ _).symm.trans H; with_reducible exact H2_) | with_reducible exact H | (rw [hy102]; exact H) | exact H
     have Ny102 := Aside0.mk hy102
     clear hy102
     by_cases c6 : (strOfNums ku).size + ea.size ≤ 9223372036854775807
     ·rw [if_pos c6] at H
      have gZ := eq_true c6
      have ii : decide ((strOfNums ku).size + ea.size ≤ 9223372036854775807) = true := decide_eq_true c6
      try have lM : (9223372036854775807 < (strOfNums ku).size + ea.size) = False := eq_false (Nat.not_lt.2 c6)
      try (have lN := lM; simp only [ByteArray.size_append] at lN)
      have H' := Aside0.mk H
      clear H
      go_wp2_with (first | ((with_reducible refine gate_dst (N := 20) rfl ?_); refine Kd.R_lit (Kd.int .u8) _ 5 ?hg (N := 20) ?hd (xs := ([(Int.tmod iX 256) % 256] : List Int)) (inner := [.int .u8 ((Int.tmod iX 256) % 256)]) (ok := fun _ => True) (okp := fun _ => True) ?hr ?hp (fun _ hk => hk) trivial (Below.refl _ _) (Nat.le_refl _) Z73 ?_; (case hd => rfl); (case hg => rfl); (case hr => first | (go_simp; done) | (go_simp; rfl)); (case hp => exact (Reps.one (show Kd.M (Kd.int .u8) _ _ _ ((Int.tmod iX 256) % 256) [.int .u8 ((Int.tmod iX 256) % 256)] from rfl) (Reps.none _ _))); intro tX w7 ho8 hb hg_ hnew_; clear hg_ hnew_; (first | rw [← Ny102.out] at ho8 | (simp only [Int.reduceToNat] at ho8; rw [← Ny102.out] at ho8)); have aG := Aside0.mk (Kd.R_lower ho8 (below_size Z3)); have aH := Aside0.mk (below_step Z3 hb); have pi := aG; replace HB := aH; clear aG aH; clear hb ho8; have hcv9 := own_string (P := Try.prog) Try.underlying51 Try.underlying5 Try.underlying9 (Kd.own_of_R pi.out)))
      go_roundg k1
      case measure => have := HK1.out; omega
      case rel => exact ⟨(wrap64 (Int.tdiv iX 256)), ((strOfNums ku) ++ ea), (wrap64 (da + 1)), Z14, Z14, Z14, H', ⟨Z112⟩, ⟨Z3⟩⟩
     ·rw [if_neg c6] at H
      exact absurd H Z73
    ·rw [if_neg c5] at H
     have hm : decide (da < a1) = false := decide_eq_false c5
     clear c5
     simp only [Option.some.injEq, Prod.mk.injEq] at H
     obtain ⟨rfl, rfl⟩ := H
     go_wp2
     go_ret2
     exact ⟨Z9, Z3⟩
 ·replace c4 := Bool.eq_false_iff.mpr c4
  subst c4
  have H1 : (some ((⟨#[]⟩ : ByteArray), false)) = some (r1, r2) := by rw [if_neg (show ¬ (false = true) by decide)] at H; exact H
  clear H
  have H := H1
  clear H1
  simp only [Option.some.injEq, Prod.mk.injEq] at H
  obtain ⟨rfl, rfl⟩ := H
  go_enter Try.func72, Try.ntmps72
  go_wp2_with (first | ((with_reducible refine gate_callee (f := 57) rfl ?_); refine goesL_ (some 10) rfl rfl Try.func57 Z6 rfl #[.int .i64 a0, .int .i64 a1] rfl Z5 ?_; (with_reducible refine (roadbookref02_Fits.calls k a0 a1 false _ A3.out).mono ?_); rintro e w' ⟨rfl, ⟨nd, rfl⟩⟩; refine ⟨_, rfl, ?_⟩))
  go_ret2
  exact ⟨Z9, Z3⟩

/-! ### roadbookref02_Of: function 52 -/
def roadbookref02_Of.f (k : Nat) (a0 : Int) (a1 : Int) : Option (ByteArray) := (roadbookref02_Put.f k a0 a1).bind fun aM => (some aM.1)
theorem roadbookref02_Of.mono : ∀ a0 a1 k, LeO (roadbookref02_Of.f k a0 a1) (roadbookref02_Of.f (k + 1) a0 a1) := by
 intro a0 a1 k
 unfold roadbookref02_Of.f
 repeat' first
   | (with_reducible exact roadbookref02_Put.mono _ _ _)
   | (with_reducible exact LeO.refl _)
   | (with_reducible exact LeO.none _)
   | (with_reducible refine LeO.ite ?_ ?_)
   | (with_reducible refine LeO.bind ?_ (fun _ => ?_))
   | exact roadbookref02_Put.mono _ _ _
   | exact LeO.none _
   | refine LeO.ite ?_ ?_
   | refine LeO.bind ?_ (fun _ => ?_)
set_option maxHeartbeats 8000000 in
set_option maxRecDepth 100000 in
theorem roadbookref02_Of.calls (k : Nat) (a0 : Int) (a1 : Int) (r : ByteArray) (w : World) (h : roadbookref02_Of.f k a0 a1 = some r) :
  Calls Try.prog 52 #[.int .i64 a0, .int .i64 a1] w fun e w' => e = .returned (.string r) ∧ Below w.heap.size w w' := by
 have HB := Aside0.mk (Below.refl w.heap.size w)
 have H : ((roadbookref02_Put.f k a0 a1).bind fun aM => (some aM.1)) = some r := h
 clear h
 replace H := Option.bind_eq_some_iff.mp H
 obtain ⟨⟨ci, ba⟩, ky, H⟩ := H
 replace H : (some ci) = some r := H
 have A3 := Aside0.mk ky
 clear ky
 obtain rfl := Option.some.inj H
 go_enter Try.func52, Try.ntmps52
 go_wp2_with (first | ((with_reducible refine gate_callee (f := 72) rfl ?_); refine goesL_ (some 10) rfl rfl Try.func72 Z6 rfl #[.int .i64 a0, .int .i64 a1] rfl Z5 ?_; (with_reducible refine (roadbookref02_Put.calls k a0 a1 ci ba _ A3.out).mono ?_); rintro e w4 ⟨rfl, hb⟩; refine ⟨_, rfl, ?_⟩; have aG := Aside0.mk (below_step Z3 hb); replace HB := aG; clear aG; (try clear hb); (try clear hb2); (try clear hk); (try clear hi)))
 go_ret
 exact ⟨Z9, Z3⟩

end Go.Proofs.Ytccjakjjaemmkaa.PR
