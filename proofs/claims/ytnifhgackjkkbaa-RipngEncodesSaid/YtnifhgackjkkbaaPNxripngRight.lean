-- Written by mp.py, a program of this work (wip/tools), out of the translation; Lean checks it.
import Derived.Test.YtnifhgackjkkbaaPNxZ
import Derived.Test.YtnifhgackjkkbaaPNxbits
import Derived.Test.YtnifhgackjkkbaaPNxmsgBare
import Derived.Test.YtnifhgackjkkbaaPNxoctet
import Derived.Test.YtnifhgackjkkbaaPNxstringslite
namespace Go.Proofs.Ytnifhgackjkkbaa.PN
open Go.RowKit Go.Proofs.YtnifhgackjkkbaaW.PrintWords Go.Proofs.YtnifhgackjkkbaaW.PrintLast Go.Proofs.YtnifhgackjkkbaaW.PrintMore
attribute [local go_sem] max2_int min2_int max_two min_two max_three min_three max_four min_four   -- for this text's walks alone
set_option linter.unusedVariables false
set_option linter.unusedSimpArgs false

/-! ### ripng_Right: function 12 -/
mutual
def ripng_Right.j0 : Nat → Bool → Int → Int → Int → ByteArray → Int → Int → ByteArray → Int → Int → ByteArray → Int → ByteArray → Int → Int → Int → Int → Int → Int → Int → ByteArray → ByteArray → List (S66) → Int → ByteArray → List (S68) → Option (Bool)
 | 0, _, _, _, _, _, _, _, _, _, _, _, _, _, _, _, _, _, _, _, _, _, _, _, _, _, _ => none
 | k + 1, x3, bN, bO, bP, bQ, bR, bS, bo, br, bT, bp, bq, bs, bu, bv, bw, bx, bA, bB, bC, bD, bE, bF, bG, bH, bI => if x3 = true then (some false) else (if bq < 1 then (ripng_Right.j1 k true bN bO bP bQ bR bS bo br bT bp bq bs bu bv bw bx bA bB bC bD bE bF bG bH bI) else (if bq > 16 then (ripng_Right.j1 k true bN bO bP bQ bR bS bo br bT bp bq bs bu bv bw bx bA bB bC bD bE bF bG bH bI) else (if (bo.size : Int) = 16 then ((prefix_Right.f bo br).bind fun cK => (ripng_Right.j1 k (!cK) bN bO bP bQ bR bS bo br bT bp bq bs bu bv bw bx bA bB bC bD bE bF bG bH bI)) else (ripng_Right.j1 k true bN bO bP bQ bR bS bo br bT bp bq bs bu bv bw bx bA bB bC bD bE bF bG bH bI))))
def ripng_Right.j1 : Nat → Bool → Int → Int → Int → ByteArray → Int → Int → ByteArray → Int → Int → ByteArray → Int → ByteArray → Int → Int → Int → Int → Int → Int → Int → ByteArray → ByteArray → List (S66) → Int → ByteArray → List (S68) → Option (Bool)
 | 0, _, _, _, _, _, _, _, _, _, _, _, _, _, _, _, _, _, _, _, _, _, _, _, _, _, _ => none
 | k + 1, jY, bN, bO, bP, bQ, bR, bS, bo, br, bT, bp, bq, bs, bu, bv, bw, bx, bA, bB, bC, bD, bE, bF, bG, bH, bI => if jY = true then (some false) else ((octet_Zeros.f 16).bind fun cI => (if bp.toList = cI.toList then (some true) else ((addr_Link.f bp).bind fun bJ => (some bJ))))
end
def ripng_Right.f (k : Nat) (aA : Int) (aq : Int) (ar : Int) (av : ByteArray) (aw : Int) (ax : Int) (aC : ByteArray) (aD : Int) (ay : Int) (az : ByteArray) (ag : Int) (ai : ByteArray) (ao : Int) (ac : Int) (ap : Int) (an : Int) (ak : Int) (al : Int) (ae : Int) (am : ByteArray) (aj : ByteArray) (ab : List (S66)) (af : Int) (ah : ByteArray) (au : List (S68)) : Option (Bool) := if aA = 2 then ((msg_Bare.f aA aq ar av aw ax aC aD ay az ag ai ao ac ap an ak al ae am aj ab af ah au).bind fun aI => (if aI = true then (if aq = 1 then ((octet_Fits.f ay 2).bind fun aN => (ripng_Right.j0 k (!aN) aA aq ar av aw ax aC aD ay az ag ai ao ac ap an ak al ae am aj ab af ah au)) else (if aq = 2 then ((octet_Fits.f ay 2).bind fun aJ => (ripng_Right.j0 k (!aJ) aA aq ar av aw ax aC aD ay az ag ai ao ac ap an ak al ae am aj ab af ah au)) else (ripng_Right.j0 k true aA aq ar av aw ax aC aD ay az ag ai ao ac ap an ak al ae am aj ab af ah au))) else (ripng_Right.j0 k true aA aq ar av aw ax aC aD ay az ag ai ao ac ap an ak al ae am aj ab af ah au))) else (ripng_Right.j0 k true aA aq ar av aw ax aC aD ay az ag ai ao ac ap an ak al ae am aj ab af ah au)
theorem ripng_Right.mono_l : ∀ k, (∀ y0 y1 y2 y3 y4 y5 y6 y7 y8 y9 el em en eo ep er es et eu ev ew ex ey ez eA eB, LeO (ripng_Right.j0 k y0 y1 y2 y3 y4 y5 y6 y7 y8 y9 el em en eo ep er es et eu ev ew ex ey ez eA eB) (ripng_Right.j0 (k + 1) y0 y1 y2 y3 y4 y5 y6 y7 y8 y9 el em en eo ep er es et eu ev ew ex ey ez eA eB)) ∧ (∀ y0 y1 y2 y3 y4 y5 y6 y7 y8 y9 el em en eo ep er es et eu ev ew ex ey ez eA eB, LeO (ripng_Right.j1 k y0 y1 y2 y3 y4 y5 y6 y7 y8 y9 el em en eo ep er es et eu ev ew ex ey ez eA eB) (ripng_Right.j1 (k + 1) y0 y1 y2 y3 y4 y5 y6 y7 y8 y9 el em en eo ep er es et eu ev ew ex ey ez eA eB))
 | 0 => ⟨Sq.mz, Sq.mz⟩
 | k + 1 => by
  obtain ⟨ih0, ih1⟩ := ripng_Right.mono_l k
  refine ⟨?_, ?_⟩
  ·intros
   unfold ripng_Right.j0
   exact Sq.mo
  ·intros
   unfold ripng_Right.j1
   exact Sq.mo
theorem ripng_Right.mono : ∀ a0 a1 a2 a3 a4 a5 a6 a7 a8 a9 gI gJ gK gL gM gN gO gP gQ gR gS gT gU gV gW k, LeO (ripng_Right.f k a0 a1 a2 a3 a4 a5 a6 a7 a8 a9 gI gJ gK gL gM gN gO gP gQ gR gS gT gU gV gW) (ripng_Right.f (k + 1) a0 a1 a2 a3 a4 a5 a6 a7 a8 a9 gI gJ gK gL gM gN gO gP gQ gR gS gT gU gV gW) := by
 intros
 rename_i k
 obtain ⟨ih0, ih1⟩ := ripng_Right.mono_l k
 unfold ripng_Right.f
 exact Sq.mo
def ripng_Right.T5 : Bool × List (List Nat × List Nat) := (true, [([], []), ([0], [0]), ([], []), ([1, 2], [1, 2]), ([3, 2], [3]), ([4], [4]), ([5, 4], [4, 5]), ([6, 4, 4], [4, 6]), ([4, 7], [4, 7]), ([8, 7, 0, 1, 2, 3, 4, 5, 6, 7, 8], [8])])
def ripng_Right.B5 : List Nat := [0, 1, 0, 7, 15, 31, 63, 127, 255, 511]
theorem ripng_Right.tab5 : rtab .any (opsOf Try.f12 5) = ripng_Right.T5 := by kernel_rfl
theorem ripng_Right.bits5 : waitsOk ripng_Right.T5.2 ripng_Right.B5 = true := by kernel_rfl

set_option maxHeartbeats 8000000 in
set_option maxRecDepth 100000 in
theorem ripng_Right.calls (k : Nat) (aA : Int) (aq : Int) (ar : Int) (av : ByteArray) (aw : Int) (ax : Int) (aC : ByteArray) (aD : Int) (ay : Int) (az : ByteArray) (ag : Int) (ai : ByteArray) (ao : Int) (ac : Int) (ap : Int) (an : Int) (ak : Int) (al : Int) (ae : Int) (am : ByteArray) (aj : ByteArray) (bZ : Option Addr) (ca : Nat) (ab : List (S66)) (af : Int) (ah : ByteArray) (cC : Option Addr) (cD : Nat) (au : List (S68)) (r : Bool) (w : World) (cM : Kd.C k66 w bZ ab.length ab) (cN : ab.length ≤ ca) (cO : Kd.C k68 w cC au.length au) (cP : au.length ≤ cD) (h : ripng_Right.f k aA aq ar av aw ax aC aD ay az ag ai ao ac ap an ak al ae am aj ab af ah au = some r) :
  Calls Try.prog 12 #[.agg #[.int .i64 aA, .int .i64 aq, .int .i64 ar, .string av, .int .i64 aw, .int .i64 ax, .string aC, .int .i64 aD, .int .i64 ay, .string az, .int .i64 ag, .string ai, .int .i64 ao, .int .i64 ac, .int .i64 ap, .int .i64 an, .int .i64 ak, .int .i64 al, .int .i64 ae, .string am, .string aj, .slice bZ ab.length ca, .int .i64 af, .string ah, .slice cC au.length cD]] w fun e w' => e = .returned (.bool r) ∧ Below w.heap.size w w' := by
 have fu := Try.underlying34
 have dZ := Aside0.mk cM
 have cU := Aside0.mk cN
 clear cM cN
 have dI := Aside0.mk cO
 have cZ := Aside0.mk cP
 clear cO cP
 have HB := Aside0.mk (Below.refl w.heap.size w)
 have H : (if aA = 2 then ((msg_Bare.f aA aq ar av aw ax aC aD ay az ag ai ao ac ap an ak al ae am aj ab af ah au).bind fun aI => (if aI = true then (if aq = 1 then ((octet_Fits.f ay 2).bind fun aN => (ripng_Right.j0 k (!aN) aA aq ar av aw ax aC aD ay az ag ai ao ac ap an ak al ae am aj ab af ah au)) else (if aq = 2 then ((octet_Fits.f ay 2).bind fun aJ => (ripng_Right.j0 k (!aJ) aA aq ar av aw ax aC aD ay az ag ai ao ac ap an ak al ae am aj ab af ah au)) else (ripng_Right.j0 k true aA aq ar av aw ax aC aD ay az ag ai ao ac ap an ak al ae am aj ab af ah au))) else (ripng_Right.j0 k true aA aq ar av aw ax aC aD ay az ag ai ao ac ap an ak al ae am aj ab af ah au))) else (ripng_Right.j0 k true aA aq ar av aw ax aC aD ay az ag ai ao ac ap an ak al ae am aj ab af ah au)) = some r := h
 clear h
 have jv := Aside0.mk H
 clear H
 go_enter Try.func12, Try.ntmps12
 go_upto_region 1 with (first | ((with_reducible refine Pre.gate_load 34 rfl ?_); (try (refine gate_guard Z27 ?_; dsimp only)); refine Pre.load_event rfl rfl rfl Z27 Z1 Try.underlying34 rfl Z16 ?_) | ((with_reducible refine gate_dst (N := 1) rfl ?_); (try (refine gate_guard Z27 ?_; dsimp only)); refine Sq.box 1 #[.int .i64 aA, .int .i64 aq, .int .i64 ar, .string av, .int .i64 aw, .int .i64 ax, .string aC, .int .i64 aD, .int .i64 ay, .string az, .int .i64 ag, .string ai, .int .i64 ao, .int .i64 ac, .int .i64 ap, .int .i64 an, .int .i64 ak, .int .i64 al, .int .i64 ae, .string am, .string aj, .slice bZ ab.length ca, .int .i64 af, .string ah, .slice cC au.length cD] 34 ?_; intro aE hg w3 hbox hb; have aG := Aside0.mk (hbox); have cS := Aside0.mk (Sq.ge hg Z0); have cL := Aside0.mk (Sq.ge hg Z0); replace HB := Aside0.mk (below_step Z0 hb); clear hb hbox hg))
 (try simp only [Act.put, Sq.s1, Sq.s2, Sq.s3])
 go_cut [3] (fun v3 wc => ∃ (kq : Nat) (ec : Bool), v3 = .bool ec ∧ Aside0 (ripng_Right.j0 kq ec aA aq ar av aw ax aC aD ay az ag ai ao ac ap an ak al ae am aj ab af ah au = some r) ∧ Aside0 (kq ≤ k) ∧ Aside0 (wc.heap[aE]? = some (.cells #[.int .i64 aA, .int .i64 aq, .int .i64 ar, .string av, .int .i64 aw, .int .i64 ax, .string aC, .int .i64 aD, .int .i64 ay, .string az, .int .i64 ag, .string ai, .int .i64 ao, .int .i64 ac, .int .i64 ap, .int .i64 an, .int .i64 ak, .int .i64 al, .int .i64 ae, .string am, .string aj, (.slice bZ ab.length ca), .int .i64 af, .string ah, (.slice cC au.length cD)] 34 (0, 0))) ∧ Aside0 (Below w.heap.size w wc))
 case first =>
  have H := jv.out
  clear jv
  by_cases c4 : aA = 2
  ·rw [if_pos c4] at H
   have cG : (aA == 2) = true := beq_iff_eq.mpr c4
   have dG : (aA != 2) = false := bne_eq_false_iff_eq.mpr c4
   clear c4
   (first | rw [cG] | (simp only [i64_w, i32_w]; rw [cG]) | skip)
   replace H := Option.bind_eq_some_iff.mp H
   obtain ⟨aI, fb, H⟩ := H
   replace H : (if aI = true then (if aq = 1 then ((octet_Fits.f ay 2).bind fun aN => (ripng_Right.j0 k (!aN) aA aq ar av aw ax aC aD ay az ag ai ao ac ap an ak al ae am aj ab af ah au)) else (if aq = 2 then ((octet_Fits.f ay 2).bind fun aJ => (ripng_Right.j0 k (!aJ) aA aq ar av aw ax aC aD ay az ag ai ao ac ap an ak al ae am aj ab af ah au)) else (ripng_Right.j0 k true aA aq ar av aw ax aC aD ay az ag ai ao ac ap an ak al ae am aj ab af ah au))) else (ripng_Right.j0 k true aA aq ar av aw ax aC aD ay az ag ai ao ac ap an ak al ae am aj ab af ah au)) = some r := H
   have A5 := Aside0.mk fb
   clear fb
   by_cases c6 : aI = true
   ·subst c6
    replace H := Sq.itT H
    by_cases c7 : aq = 1
    ·rw [if_pos c7] at H
     have dn : (aq == 1) = true := beq_iff_eq.mpr c7
     have eY : (aq != 1) = false := bne_eq_false_iff_eq.mpr c7
     clear c7
     replace H := Option.bind_eq_some_iff.mp H
     obtain ⟨aN, jI, H⟩ := H
     replace H : (ripng_Right.j0 k (!aN) aA aq ar av aw ax aC aD ay az ag ai ao ac ap an ak al ae am aj ab af ah au) = some r := H
     have A8 := Aside0.mk jI
     clear jI
     have H' := Aside0.mk H
     clear H
     have jt := cells_25 aG.out
     go_wp2_with (first | ((with_reducible refine Pre.gate_load 34 rfl ?_); (try (refine gate_guard Z27 ?_; dsimp only)); refine Pre.load_event rfl rfl rfl Z27 Z1 Try.underlying34 rfl Z16 ?_) | (go_at_call 27; (with_reducible refine (msg_Bare.calls aA aq ar av aw ax aC aD ay az ag ai ao ac ap an ak al ae am aj _ _ ab af ah _ _ au true _ ?side1 ?side2 ?side3 ?side4 A5.out).mono ?_); (case side1 => exact Z17); (case side2 => exact cU.out); (case side3 => exact Z22); (case side4 => exact cZ.out); rintro e jH ⟨rfl, hb⟩; replace aG := Aside0.mk (blk_below (g := aE) Z6 hb); replace HB := Aside0.mk (below_step Z3 hb); clear hb; have hcz11 := cells_25 aG.out) | (go_at_call 28; (with_reducible refine (octet_Fits.calls ay 2 aN _ A8.out).mono ?_); rintro e w' ⟨rfl, ⟨nd, rfl⟩⟩))
     go_meet
     case rel => exact ⟨_, (!aN), Z7, H', ⟨Z34⟩, ⟨Z6⟩, ⟨Z3⟩⟩
    ·rw [if_neg c7] at H
     have dn : (aq == 1) = false := beq_eq_false_iff_ne.mpr c7
     have eY : (aq != 1) = true := bne_iff_ne.mpr c7
     by_cases dm : aq = 2
     ·rw [if_pos dm] at H
      have dE : (aq == 2) = true := beq_iff_eq.mpr dm
      have dF : (aq != 2) = false := bne_eq_false_iff_eq.mpr dm
      clear dm
      replace H := Option.bind_eq_some_iff.mp H
      obtain ⟨aJ, ip, H⟩ := H
      replace H : (ripng_Right.j0 k (!aJ) aA aq ar av aw ax aC aD ay az ag ai ao ac ap an ak al ae am aj ab af ah au) = some r := H
      have jZ := Aside0.mk ip
      clear ip
      have H' := Aside0.mk H
      clear H
      have hcz14 := cells_25 aG.out
      go_wp2_with (first | ((with_reducible refine Pre.gate_load 34 rfl ?_); (try (refine gate_guard Z27 ?_; dsimp only)); refine Pre.load_event rfl rfl rfl Z27 Z1 Try.underlying34 rfl Z16 ?_) | (go_at_call 27; (with_reducible refine (msg_Bare.calls aA aq ar av aw ax aC aD ay az ag ai ao ac ap an ak al ae am aj _ _ ab af ah _ _ au true _ ?side1 ?side2 ?side3 ?side4 A5.out).mono ?_); (case side1 => exact Z17); (case side2 => exact cU.out); (case side3 => exact Z22); (case side4 => exact cZ.out); rintro e w15 ⟨rfl, hb⟩; replace aG := Aside0.mk (blk_below (g := aE) Z6 hb); replace HB := Aside0.mk (below_step Z3 hb); clear hb; have hcz16 := cells_25 aG.out) | (go_at_call 28; (with_reducible refine (octet_Fits.calls ay 2 aJ _ jZ.out).mono ?_); rintro e w' ⟨rfl, ⟨nd, rfl⟩⟩))
      go_meet
      case rel => exact ⟨_, (!aJ), Z7, H', ⟨Z34⟩, ⟨Z6⟩, ⟨Z3⟩⟩
     ·rw [if_neg dm] at H
      have dE : (aq == 2) = false := beq_eq_false_iff_ne.mpr dm
      have dF : (aq != 2) = true := bne_iff_ne.mpr dm
      have H' := Aside0.mk H
      clear H
      have hcz17 := cells_25 aG.out
      go_wp2_with (first | ((with_reducible refine Pre.gate_load 34 rfl ?_); (try (refine gate_guard Z27 ?_; dsimp only)); refine Pre.load_event rfl rfl rfl Z27 Z1 Try.underlying34 rfl Z16 ?_) | (go_at_call 27; (with_reducible refine (msg_Bare.calls aA aq ar av aw ax aC aD ay az ag ai ao ac ap an ak al ae am aj _ _ ab af ah _ _ au true _ ?side1 ?side2 ?side3 ?side4 A5.out).mono ?_); (case side1 => exact Z17); (case side2 => exact cU.out); (case side3 => exact Z22); (case side4 => exact cZ.out); rintro e jM ⟨rfl, hb⟩; replace aG := Aside0.mk (blk_below (g := aE) Z6 hb); replace HB := Aside0.mk (below_step Z3 hb); clear hb; have hcz19 := cells_25 aG.out))
      go_meet
      case rel => exact ⟨_, (true), Z7, H', ⟨Z34⟩, ⟨Z6⟩, ⟨Z3⟩⟩
   ·replace c6 := Bool.eq_false_iff.mpr c6
    subst c6
    replace H := Sq.itF H
    have H' := Aside0.mk H
    clear H
    have fT := cells_25 aG.out
    go_wp2_with (first | ((with_reducible refine Pre.gate_load 34 rfl ?_); (try (refine gate_guard Z27 ?_; dsimp only)); refine Pre.load_event rfl rfl rfl Z27 Z1 Try.underlying34 rfl Z16 ?_) | (go_at_call 27; (with_reducible refine (msg_Bare.calls aA aq ar av aw ax aC aD ay az ag ai ao ac ap an ak al ae am aj _ _ ab af ah _ _ au false _ ?side1 ?side2 ?side3 ?side4 A5.out).mono ?_); (case side1 => exact Z17); (case side2 => exact cU.out); (case side3 => exact Z22); (case side4 => exact cZ.out); rintro e hG ⟨rfl, hb⟩; replace aG := Aside0.mk (blk_below (g := aE) Z6 hb); replace HB := Aside0.mk (below_step Z3 hb); clear hb))
    go_meet
    case rel => exact ⟨_, (true), Z7, H', ⟨Z34⟩, ⟨Z6⟩, ⟨Z3⟩⟩
  ·rw [if_neg c4] at H
   have cG : (aA == 2) = false := beq_eq_false_iff_ne.mpr c4
   have dG : (aA != 2) = true := bne_iff_ne.mpr c4
   (first | rw [cG] | (simp only [i64_w, i32_w]; rw [cG]) | skip)
   have H' := Aside0.mk H
   clear H
   have fU := cells_25 aG.out
   go_wp2_with (first | ((with_reducible refine Pre.gate_load 34 rfl ?_); (try (refine gate_guard Z27 ?_; dsimp only)); refine Pre.load_event rfl rfl rfl Z27 Z1 Try.underlying34 rfl Z16 ?_))
   go_meet
   case rel => exact ⟨_, (true), Z7, H', ⟨Z34⟩, ⟨Z6⟩, ⟨Z3⟩⟩
 case rest =>
  clear jv
  try clear c1
  try clear dm
  obtain ⟨kq, ec, rfl, HA, ka, aG, HB⟩ := hcut
  cases kq with
  | zero => exact absurd HA.out (by simp [ripng_Right.j0])
  | succ kj1 =>
   have H := HA.out
   clear HA
   simp only [ripng_Right.j0] at H
   by_cases eV : ec = true
   ·subst eV
    replace H := Sq.itT H
    obtain rfl := Option.some.inj H
    go_wp2_with (first | ((with_reducible refine Pre.gate_load 34 rfl ?_); (try (refine gate_guard Z27 ?_; dsimp only)); refine Pre.load_event rfl rfl rfl Z27 Z1 Try.underlying34 rfl Z16 ?_))
    go_ret
    exact ⟨Z2, Z3⟩
   ·replace eV := Bool.eq_false_iff.mpr eV
    subst eV
    replace H := Sq.itF H
    have he := Aside0.mk H
    clear H
    go_upto_region 3 with (first | ((with_reducible refine Pre.gate_load 34 rfl ?_); (try (refine gate_guard Z27 ?_; dsimp only)); refine Pre.load_event rfl rfl rfl Z27 Z1 Try.underlying34 rfl Z16 ?_))
    go_cut [28] (fun kb wc => ∃ (kq : Nat) (ed : Bool), kb = .bool ed ∧ Aside0 (ripng_Right.j1 kq ed aA aq ar av aw ax aC aD ay az ag ai ao ac ap an ak al ae am aj ab af ah au = some r) ∧ Aside0 (kq ≤ kj1) ∧ Aside0 (wc.heap[aE]? = some (.cells #[.int .i64 aA, .int .i64 aq, .int .i64 ar, .string av, .int .i64 aw, .int .i64 ax, .string aC, .int .i64 aD, .int .i64 ay, .string az, .int .i64 ag, .string ai, .int .i64 ao, .int .i64 ac, .int .i64 ap, .int .i64 an, .int .i64 ak, .int .i64 al, .int .i64 ae, .string am, .string aj, (.slice bZ ab.length ca), .int .i64 af, .string ah, (.slice cC au.length cD)] 34 (0, 0))) ∧ Aside0 (Below w.heap.size w wc))
    case first =>
     have H := he.out
     clear he
     by_cases eO : ag < 1
     ·rw [if_pos eO] at H
      have dJ : decide (ag < 1) = true := decide_eq_true eO
      clear eO
      (first | rw [dJ] | (simp only [i64_w, i32_w]; rw [dJ]) | skip)
      have H' := Aside0.mk H
      clear H
      have iq := cells_25 aG.out
      go_wp2_with (first | ((with_reducible refine Pre.gate_load 34 rfl ?_); (try (refine gate_guard Z27 ?_; dsimp only)); refine Pre.load_event rfl rfl rfl Z27 Z1 Try.underlying34 rfl Z16 ?_))
      go_meet
      case rel => exact ⟨_, (true), Z7, H', ⟨Z45⟩, ⟨Z6⟩, ⟨Z3⟩⟩
     ·rw [if_neg eO] at H
      have dJ : decide (ag < 1) = false := decide_eq_false eO
      clear eO
      (first | rw [dJ] | (simp only [i64_w, i32_w]; rw [dJ]) | skip)
      by_cases hm : ag > 16
      ·rw [if_pos hm] at H
       have ir : decide (16 < ag) = true := decide_eq_true hm
       clear hm
       have H' := Aside0.mk H
       clear H
       have hcz28 := cells_25 aG.out
       go_wp2_with (first | ((with_reducible refine Pre.gate_load 34 rfl ?_); (try (refine gate_guard Z27 ?_; dsimp only)); refine Pre.load_event rfl rfl rfl Z27 Z1 Try.underlying34 rfl Z16 ?_))
       go_meet
       case rel => exact ⟨_, (true), Z7, H', ⟨Z45⟩, ⟨Z6⟩, ⟨Z3⟩⟩
      ·rw [if_neg hm] at H
       have ir : decide (16 < ag) = false := decide_eq_false hm
       clear hm
       by_cases hh : (aC.size : Int) = 16
       ·rw [if_pos hh] at H
        have iu : ((aC.size : Int) == 16) = true := beq_iff_eq.mpr hh
        have iv : ((aC.size : Int) != 16) = false := bne_eq_false_iff_eq.mpr hh
        clear hh
        replace H := Option.bind_eq_some_iff.mp H
        obtain ⟨cK, iw, H⟩ := H
        replace H : (ripng_Right.j1 kj1 (!cK) aA aq ar av aw ax aC aD ay az ag ai ao ac ap an ak al ae am aj ab af ah au) = some r := H
        have eT := Aside0.mk iw
        clear iw
        have H' := Aside0.mk H
        clear H
        have hcz31 := cells_25 aG.out
        go_wp2_with (first | ((with_reducible refine Pre.gate_load 34 rfl ?_); (try (refine gate_guard Z27 ?_; dsimp only)); refine Pre.load_event rfl rfl rfl Z27 Z1 Try.underlying34 rfl Z16 ?_) | (go_at_call 29; (with_reducible refine (prefix_Right.calls aC aD cK _ eT.out).mono ?_); rintro e w32 ⟨rfl, hb⟩; replace aG := Aside0.mk (blk_below (g := aE) Z6 hb); replace HB := Aside0.mk (below_step Z3 hb); clear hb))
        go_meet
        case rel => exact ⟨_, (!cK), Z7, H', ⟨Z45⟩, ⟨Z6⟩, ⟨Z3⟩⟩
       ·rw [if_neg hh] at H
        have iu : ((aC.size : Int) == 16) = false := beq_eq_false_iff_ne.mpr hh
        have iv : ((aC.size : Int) != 16) = true := bne_iff_ne.mpr hh
        have H' := Aside0.mk H
        clear H
        have hcz33 := cells_25 aG.out
        go_wp2_with (first | ((with_reducible refine Pre.gate_load 34 rfl ?_); (try (refine gate_guard Z27 ?_; dsimp only)); refine Pre.load_event rfl rfl rfl Z27 Z1 Try.underlying34 rfl Z16 ?_))
        go_meet
        case rel => exact ⟨_, (true), Z7, H', ⟨Z45⟩, ⟨Z6⟩, ⟨Z3⟩⟩
    case rest =>
     clear he
     try clear c1
     try clear c2
     try clear p2
     try clear c4
     try clear cG
     try clear dG
     try clear c6
     try clear c7
     try clear dm
     try clear eV
     try clear fT
     try clear fU
     obtain ⟨kq, ed, rfl, HA, HJ23, aG, HB⟩ := hcut
     cases kq with
     | zero => exact absurd HA.out (by simp [ripng_Right.j1])
     | succ kj23 =>
      have H := HA.out
      clear HA
      simp only [ripng_Right.j1] at H
      by_cases iM : ed = true
      ·subst iM
       replace H := Sq.itT H
       obtain rfl := Option.some.inj H
       go_wp2_with (first | ((with_reducible refine Pre.gate_load 34 rfl ?_); (try (refine gate_guard Z27 ?_; dsimp only)); refine Pre.load_event rfl rfl rfl Z27 Z1 Try.underlying34 rfl Z16 ?_))
       go_ret
       exact ⟨Z2, Z3⟩
      ·replace iM := Bool.eq_false_iff.mpr iM
       subst iM
       replace H := Sq.itF H
       replace H := Option.bind_eq_some_iff.mp H
       obtain ⟨cI, ix, H⟩ := H
       replace H : (if az.toList = cI.toList then (some true) else ((addr_Link.f az).bind fun bJ => (some bJ))) = some r := H
       have jJ := Aside0.mk ix
       clear ix
       by_cases eX : az.toList = cI.toList
       ·rw [if_pos eX] at H
        have iy : (az.toList == cI.toList) = true := beq_iff_eq.mpr eX
        have iz : (az.toList != cI.toList) = false := bne_eq_false_iff_eq.mpr eX
        clear eX
        obtain rfl := Option.some.inj H
        try go_wp2_with (first | ((with_reducible refine Pre.gate_load 34 rfl ?_); (try (refine gate_guard Z27 ?_; dsimp only)); refine Pre.load_event rfl rfl rfl Z27 Z1 Try.underlying34 rfl Z16 ?_))
        have cQ := Aside0.mk (blk_drew aG.out)
        have de := Aside0.mk (below_drew1 HB.out)
        clear aG
        clear HB
        have aG := cQ
        have HB := de
        clear cQ de
        refine start_ (n := 10) (S := fun w' => w'.cell? ⟨aE, 9, none⟩ = some (.string az)) (ds := []) (Sq.b 10 0) Z16 rfl rfl ((blk_cell aG.out 9).trans rfl) (fun hHeld => ?_); refine with_tabW ripng_Right.tab5 ripng_Right.bits5 (fun HT_ HW_ => ?_)
        generalize wc.drew = w37 at aG HB hHeld ⊢
        refine Sq.pur 0 (some 51) (Sq.b 10 1) HT_.out ?_
        refine Sq.tak 1 (some 52) (Sq.b 10 3) HT_.out HW_.out hHeld (v := ?_) (a' := ?_) ?_ ?_ ?_
        rotate_left
        ·intro w' s0
         go_simp
         with_reducible rfl
        rotate_left
        ·simp only [Act.put, Sq.s1, Sq.s2, Sq.s3, i64_w, i32_w]
         rfl
        refine one_ (i := 2) (N := some 53) (Sq.b 10 7) rfl rfl (one_of HT_.out Z16) Z18 (fun K hK => ?_)
        refine goes_ Try.func18 Z16 rfl #[.int .i64 16] Z27 rfl rfl Z4 ?_
        with_reducible refine (octet_Zeros.calls 16 cI _ jJ.out).mono ?_
        rintro e w38 ⟨rfl, hb⟩
        refine ⟨_, rfl, ?_⟩
        have cQ := Aside0.mk (blk_below (g := aE) Z6 hb)
        have de := Aside0.mk (below_step Z3 hb)
        clear aG
        clear HB
        have aG := cQ
        have HB := de
        clear cQ de
        (try clear hb)
        (try clear hb2)
        (try clear hk)
        (try clear hi)
        refine hK.out _ _ ((blk_cell aG.out 9).trans rfl) (fun hHeld => ?_)
        clear hK K
        refine norm_ (a' := ?_) ?_ ?_
        rotate_left
        ·show Act.put _ (some 53) _ = _
         simp only [Act.put, Sq.s1, Sq.s2, Sq.s3, i64_w, i32_w]
         rfl
        refine Sq.pur 3 (some 54) (Sq.b 10 15) HT_.out ?_
        refine Sq.pur 4 (some 55) (Sq.b 10 31) HT_.out ?_
        refine pure_ (i := 5) (N := some 56) (v := undef) (a' := ?_) (Sq.b 10 63) rfl rfl (any_of HT_.out Z16) (fun _ _ _ h => h) (Or.inr ⟨Z27, rfl⟩) ?_ ?_
        rotate_left
        ·simp only [Act.put, Sq.s1, Sq.s2, Sq.s3, i64_w, i32_w]
         rfl
        refine pure_ (i := 6) (N := some 57) (v := undef) (a' := ?_) (Sq.b 10 127) rfl rfl (any_of HT_.out Z16) (fun _ _ _ h => h) (Or.inr ⟨Z27, rfl⟩) ?_ ?_
        rotate_left
        ·simp only [Act.put, Sq.s1, Sq.s2, Sq.s3, i64_w, i32_w]
         rfl
        refine pure_ (i := 7) (N := some 58) (v := undef) (a' := ?_) (Sq.b 10 255) rfl rfl (any_of HT_.out Z16) (fun _ _ _ h => h) (Or.inr ⟨Z27, rfl⟩) ?_ ?_
        rotate_left
        ·simp only [Act.put, Sq.s1, Sq.s2, Sq.s3, i64_w, i32_w]
         rfl
        refine Sq.pur 8 (some 59) (Sq.b 10 511) HT_.out ?_
        refine Sq.pur 9 (some 2) (Sq.b 10 1023) HT_.out ?_
        refine done_ (done_of HT_.out Z16) ?_
        try go_wp2_with (first | ((with_reducible refine Pre.gate_load 34 rfl ?_); (try (refine gate_guard Z27 ?_; dsimp only)); refine Pre.load_event rfl rfl rfl Z27 Z1 Try.underlying34 rfl Z16 ?_))
        go_ret
        exact ⟨Z2, Z3⟩
       ·rw [if_neg eX] at H
        have iy : (az.toList == cI.toList) = false := beq_eq_false_iff_ne.mpr eX
        have iz : (az.toList != cI.toList) = true := bne_iff_ne.mpr eX
        replace H := Option.bind_eq_some_iff.mp H
        obtain ⟨bJ, iA, H⟩ := H
        replace H : (some bJ) = some r := H
        have kc := Aside0.mk iA
        clear iA
        obtain rfl := Option.some.inj H
        try go_wp2_with (first | ((with_reducible refine Pre.gate_load 34 rfl ?_); (try (refine gate_guard Z27 ?_; dsimp only)); refine Pre.load_event rfl rfl rfl Z27 Z1 Try.underlying34 rfl Z16 ?_))
        have cQ := Aside0.mk (blk_drew aG.out)
        have de := Aside0.mk (below_drew1 HB.out)
        clear aG
        clear HB
        have aG := cQ
        have HB := de
        clear cQ de
        refine start_ (n := 10) (S := fun w' => w'.cell? ⟨aE, 9, none⟩ = some (.string az)) (ds := []) (Sq.b 10 0) Z16 rfl rfl ((blk_cell aG.out 9).trans rfl) (fun hHeld => ?_); refine with_tabW ripng_Right.tab5 ripng_Right.bits5 (fun HT_ HW_ => ?_)
        generalize wc.drew = jU at aG HB hHeld ⊢
        refine Sq.pur 0 (some 51) (Sq.b 10 1) HT_.out ?_
        refine Sq.tak 1 (some 52) (Sq.b 10 3) HT_.out HW_.out hHeld (v := ?_) (a' := ?_) ?_ ?_ ?_
        rotate_left
        ·intro w' s0
         go_simp
         with_reducible rfl
        rotate_left
        ·simp only [Act.put, Sq.s1, Sq.s2, Sq.s3, i64_w, i32_w]
         rfl
        refine one_ (i := 2) (N := some 53) (Sq.b 10 7) rfl rfl (one_of HT_.out Z16) Z18 (fun K hK => ?_)
        refine goes_ Try.func18 Z16 rfl #[.int .i64 16] Z27 rfl rfl Z4 ?_
        with_reducible refine (octet_Zeros.calls 16 cI _ jJ.out).mono ?_
        rintro e w41 ⟨rfl, hb⟩
        refine ⟨_, rfl, ?_⟩
        have cQ := Aside0.mk (blk_below (g := aE) Z6 hb)
        have de := Aside0.mk (below_step Z3 hb)
        clear aG
        clear HB
        have aG := cQ
        have HB := de
        clear cQ de
        (try clear hb)
        (try clear hb2)
        (try clear hk)
        (try clear hi)
        refine hK.out _ _ ((blk_cell aG.out 9).trans rfl) (fun hHeld => ?_)
        clear hK K
        refine norm_ (a' := ?_) ?_ ?_
        rotate_left
        ·show Act.put _ (some 53) _ = _
         simp only [Act.put, Sq.s1, Sq.s2, Sq.s3, i64_w, i32_w]
         rfl
        refine Sq.pur 3 (some 54) (Sq.b 10 15) HT_.out ?_
        refine Sq.pur 4 (some 55) (Sq.b 10 31) HT_.out ?_
        refine Sq.pur 5 (some 56) (Sq.b 10 63) HT_.out ?_
        refine Sq.tak 6 (some 57) (Sq.b 10 127) HT_.out HW_.out hHeld (v := ?_) (a' := ?_) ?_ ?_ ?_
        rotate_left
        ·intro w' s0
         go_simp
         with_reducible rfl
        rotate_left
        ·simp only [Act.put, Sq.s1, Sq.s2, Sq.s3, i64_w, i32_w]
         rfl
        refine one_ (i := 7) (N := some 58) (Sq.b 10 255) rfl rfl (one_of HT_.out Z16) Z18 (fun K hK => ?_)
        refine goes_ Try.func30 Z16 rfl #[.string az] Z27 rfl rfl Z4 ?_
        with_reducible refine (addr_Link.calls az bJ _ kc.out).mono ?_
        rintro e w' ⟨rfl, ⟨nd, rfl⟩⟩
        refine ⟨_, rfl, ?_⟩
        refine hK.out _ _ ((blk_cell aG.out 9).trans rfl) (fun hHeld => ?_)
        clear hK K
        refine norm_ (a' := ?_) ?_ ?_
        rotate_left
        ·show Act.put _ (some 58) _ = _
         simp only [Act.put, Sq.s1, Sq.s2, Sq.s3, i64_w, i32_w]
         rfl
        refine Sq.pur 8 (some 59) (Sq.b 10 511) HT_.out ?_
        refine Sq.pur 9 (some 2) (Sq.b 10 1023) HT_.out ?_
        refine done_ (done_of HT_.out Z16) ?_
        try go_wp2_with (first | ((with_reducible refine Pre.gate_load 34 rfl ?_); (try (refine gate_guard Z27 ?_; dsimp only)); refine Pre.load_event rfl rfl rfl Z27 Z1 Try.underlying34 rfl Z16 ?_))
        go_ret
        exact ⟨Z2, Z3⟩

end Go.Proofs.Ytnifhgackjkkbaa.PN
