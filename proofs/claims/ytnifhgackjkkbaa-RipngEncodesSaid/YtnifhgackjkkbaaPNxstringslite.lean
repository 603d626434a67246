-- Written by mp.py, a program of this work (wip/tools), out of the translation; Lean checks it.
import Derived.Test.YtnifhgackjkkbaaPNxZ
namespace Go.Proofs.Ytnifhgackjkkbaa.PN
open Go.RowKit Go.Proofs.YtnifhgackjkkbaaW.PrintWords Go.Proofs.YtnifhgackjkkbaaW.PrintLast Go.Proofs.YtnifhgackjkkbaaW.PrintMore
attribute [local go_sem] max2_int min2_int max_two min_two max_three min_three max_four min_four   -- for this text's walks alone
set_option linter.unusedVariables false
set_option linter.unusedSimpArgs false

/-! ### stringslite_HasPrefix: function 50 -/
def stringslite_HasPrefix.f (a0 : ByteArray) (a1 : ByteArray) : Option (Bool) := if (a0.size : Int) ≥ (a1.size : Int) then (if 0 ≤ (a1.size : Int) then (if (a1.size : Int) ≤ (a0.size : Int) then (some ((a0.extract 0 ((a1.size : Int) : Int).toNat).toList == a1.toList)) else (none)) else (none)) else (some false)
set_option maxHeartbeats 8000000 in
set_option maxRecDepth 100000 in
theorem stringslite_HasPrefix.calls (a0 : ByteArray) (a1 : ByteArray) (r : Bool) (w : World) (h : stringslite_HasPrefix.f a0 a1 = some r) :
  Calls Try.prog 50 #[.string a0, .string a1] w fun e w' => e = .returned (.bool r) ∧ Drawn0 w w' := by
 have H : (if (a0.size : Int) ≥ (a1.size : Int) then (if 0 ≤ (a1.size : Int) then (if (a1.size : Int) ≤ (a0.size : Int) then (some ((a0.extract 0 ((a1.size : Int) : Int).toNat).toList == a1.toList)) else (none)) else (none)) else (some false)) = some r := h
 clear h
 by_cases c3 : (a0.size : Int) ≥ (a1.size : Int)
 ·rw [if_pos c3] at H
  have bY : decide ((a1.size : Int) ≤ (a0.size : Int)) = true := decide_eq_true c3
  have cE : decide (a1.size ≤ a0.size) = true := decide_eq_true (Int.ofNat_le.mp c3)
  clear c3
  by_cases c4 : 0 ≤ (a1.size : Int)
  ·rw [if_pos c4] at H
   have cG := eq_true c4
   have dG : decide (0 ≤ (a1.size : Int)) = true := decide_eq_true c4
   clear c4
   by_cases c5 : (a1.size : Int) ≤ (a0.size : Int)
   ·rw [if_pos c5] at H
    have cY := eq_true c5
    have eR : decide ((a1.size : Int) ≤ (a0.size : Int)) = true := decide_eq_true c5
    clear c5
    obtain rfl := Option.some.inj H
    go_enter Try.func50, Try.ntmps50
    go_wp2
    go_ret
    exact ⟨Z7, Z10⟩
   ·rw [if_neg c5] at H
    exact absurd H Z36
  ·rw [if_neg c4] at H
   exact absurd H Z36
 ·rw [if_neg c3] at H
  have bY : decide ((a1.size : Int) ≤ (a0.size : Int)) = false := decide_eq_false c3
  have cE : decide (a1.size ≤ a0.size) = false := decide_eq_false (fun h => c3 (Int.ofNat_le.mpr h))
  clear c3
  obtain rfl := Option.some.inj H
  go_enter Try.func50, Try.ntmps50
  go_wp2
  go_ret
  exact ⟨Z7, Z10⟩

/-! ### strings_HasPrefix: function 45 -/
def strings_HasPrefix.f (a0 : ByteArray) (a1 : ByteArray) : Option (Bool) := (stringslite_HasPrefix.f a0 a1).bind fun aM => (some aM)
set_option maxHeartbeats 8000000 in
set_option maxRecDepth 100000 in
theorem strings_HasPrefix.calls (a0 : ByteArray) (a1 : ByteArray) (r : Bool) (w : World) (h : strings_HasPrefix.f a0 a1 = some r) :
  Calls Try.prog 45 #[.string a0, .string a1] w fun e w' => e = .returned (.bool r) ∧ Drawn0 w w' := by
 have H : ((stringslite_HasPrefix.f a0 a1).bind fun aM => (some aM)) = some r := h
 clear h
 replace H := Option.bind_eq_some_iff.mp H
 obtain ⟨aM, eT, H⟩ := H
 replace H : (some aM) = some r := H
 have A3 := Aside0.mk eT
 clear eT
 obtain rfl := Option.some.inj H
 go_enter Try.func45, Try.ntmps45
 go_wp2_with (first | ((with_reducible refine gate_callee (f := 50) rfl ?_); refine goesL_ (some 7) rfl rfl Try.func50 Z16 rfl #[.string a0, .string a1] rfl Z4 ?_; (with_reducible refine (stringslite_HasPrefix.calls a0 a1 aM _ A3.out).mono ?_); rintro e w' ⟨rfl, ⟨nd, rfl⟩⟩; refine ⟨_, rfl, ?_⟩))
 go_ret
 exact ⟨Z7, Z10⟩

/-! ### addr_Link: function 30 -/
def addr_Link.f (a0 : ByteArray) : Option (Bool) := if (a0.size : Int) = 16 then ((strings_HasPrefix.f a0 (⟨#[254, 128, 0, 0, 0, 0, 0, 0]⟩ : ByteArray)).bind fun aM => (some aM)) else (some false)
set_option maxHeartbeats 8000000 in
set_option maxRecDepth 100000 in
theorem addr_Link.calls (a0 : ByteArray) (r : Bool) (w : World) (h : addr_Link.f a0 = some r) :
  Calls Try.prog 30 #[.string a0] w fun e w' => e = .returned (.bool r) ∧ Drawn0 w w' := by
 have H : (if (a0.size : Int) = 16 then ((strings_HasPrefix.f a0 (⟨#[254, 128, 0, 0, 0, 0, 0, 0]⟩ : ByteArray)).bind fun aM => (some aM)) else (some false)) = some r := h
 clear h
 by_cases c2 : (a0.size : Int) = 16
 ·rw [if_pos c2] at H
  have cV : ((a0.size : Int) == 16) = true := beq_iff_eq.mpr c2
  have dj : ((a0.size : Int) != 16) = false := bne_eq_false_iff_eq.mpr c2
  clear c2
  replace H := Option.bind_eq_some_iff.mp H
  obtain ⟨aM, eT, H⟩ := H
  replace H : (some aM) = some r := H
  have A3 := Aside0.mk eT
  clear eT
  obtain rfl := Option.some.inj H
  go_enter Try.func30, Try.ntmps30
  go_wp2_with (first | (go_at_call 45; (with_reducible refine (strings_HasPrefix.calls a0 (⟨#[254, 128, 0, 0, 0, 0, 0, 0]⟩ : ByteArray) aM _ A3.out).mono ?_); rintro e w' ⟨rfl, ⟨nd, rfl⟩⟩))
  go_ret
  exact ⟨Z7, Z10⟩
 ·rw [if_neg c2] at H
  have cV : ((a0.size : Int) == 16) = false := beq_eq_false_iff_ne.mpr c2
  have dj : ((a0.size : Int) != 16) = true := bne_iff_ne.mpr c2
  obtain rfl := Option.some.inj H
  go_enter Try.func30, Try.ntmps30
  go_wp2
  go_ret
  exact ⟨Z7, Z10⟩

/-! ### msg_strip: function 43 -/
def msg_strip.f (aA : Int) (aq : Int) (ar : Int) (av : ByteArray) (aw : Int) (ax : Int) (aC : ByteArray) (aD : Int) (ay : Int) (az : ByteArray) (ag : Int) (ai : ByteArray) (ao : Int) (ac : Int) (ap : Int) (an : Int) (ak : Int) (al : Int) (ae : Int) (am : ByteArray) (aj : ByteArray) (ab : List (S66)) (af : Int) (ah : ByteArray) (au : List (S68)) : Option (Int × Int × Int × Int × Int × Int × Int × Int × Int × Int × Int × Int × Int × Int × Int × Int × ByteArray × ByteArray × ByteArray × ByteArray × ByteArray × ByteArray × ByteArray) := some (aA, aq, ar, aw, ax, aD, ay, ag, ao, ac, ap, an, ak, al, ae, af, av, aC, az, ai, am, aj, ah)
set_option maxRecDepth 100000 in
theorem msg_strip.bd49 (v0 : Int) (v1 : Int) (v2 : Int) (v3 : Int) (v4 : Int) (v5 : Int) (v6 : Int) (v7 : Int) (v8 : Int) (v9 : Int) (fe : Int) (fF : Int) (fG : Int) (fH : Int) (fp : Int) (fI : Int) (fJ : ByteArray) (fK : ByteArray) (fL : ByteArray) (fq : ByteArray) (fs : ByteArray) (da : ByteArray) (fM : ByteArray) : Try.prog.built 70 [(0, .int .i64 v0), (1, .int .i64 v1), (2, .int .i64 v2), (3, .int .i64 v3), (4, .int .i64 v4), (5, .int .i64 v5), (6, .int .i64 v6), (7, .int .i64 v7), (8, .int .i64 v8), (9, .int .i64 v9), (10, .int .i64 fe), (11, .int .i64 fF), (12, .int .i64 fG), (13, .int .i64 fH), (14, .int .i64 fp), (15, .int .i64 fI), (16, .string fJ), (17, .string fK), (18, .string fL), (19, .string fq), (20, .string fs), (21, .string da), (22, .string fM)] = some #[.int .i64 v0, .int .i64 v1, .int .i64 v2, .int .i64 v3, .int .i64 v4, .int .i64 v5, .int .i64 v6, .int .i64 v7, .int .i64 v8, .int .i64 v9, .int .i64 fe, .int .i64 fF, .int .i64 fG, .int .i64 fH, .int .i64 fp, .int .i64 fI, .string fJ, .string fK, .string fL, .string fq, .string fs, .string da, .string fM] := by kernel_rfl
set_option maxHeartbeats 8000000 in
set_option maxRecDepth 100000 in
theorem msg_strip.calls (aA : Int) (aq : Int) (ar : Int) (av : ByteArray) (aw : Int) (ax : Int) (aC : ByteArray) (aD : Int) (ay : Int) (az : ByteArray) (ag : Int) (ai : ByteArray) (ao : Int) (ac : Int) (ap : Int) (an : Int) (ak : Int) (al : Int) (ae : Int) (am : ByteArray) (aj : ByteArray) (bZ : Option Addr) (ca : Nat) (ab : List (S66)) (af : Int) (ah : ByteArray) (cC : Option Addr) (cD : Nat) (au : List (S68)) (r1 : Int) (r2 : Int) (r3 : Int) (r4 : Int) (r5 : Int) (r6 : Int) (r7 : Int) (r8 : Int) (r9 : Int) (r10 : Int) (r11 : Int) (r12 : Int) (r13 : Int) (r14 : Int) (r15 : Int) (r16 : Int) (r17 : ByteArray) (r18 : ByteArray) (r19 : ByteArray) (r20 : ByteArray) (r21 : ByteArray) (r22 : ByteArray) (r23 : ByteArray) (w : World) (cM : Kd.C k66 w bZ ab.length ab) (cN : ab.length ≤ ca) (cO : Kd.C k68 w cC au.length au) (cP : au.length ≤ cD) (h : msg_strip.f aA aq ar av aw ax aC aD ay az ag ai ao ac ap an ak al ae am aj ab af ah au = some (r1, r2, r3, r4, r5, r6, r7, r8, r9, r10, r11, r12, r13, r14, r15, r16, r17, r18, r19, r20, r21, r22, r23)) :
  Calls Try.prog 43 #[.agg #[.int .i64 aA, .int .i64 aq, .int .i64 ar, .string av, .int .i64 aw, .int .i64 ax, .string aC, .int .i64 aD, .int .i64 ay, .string az, .int .i64 ag, .string ai, .int .i64 ao, .int .i64 ac, .int .i64 ap, .int .i64 an, .int .i64 ak, .int .i64 al, .int .i64 ae, .string am, .string aj, .slice bZ ab.length ca, .int .i64 af, .string ah, .slice cC au.length cD]] w fun e w' => e = .returned (.agg #[.int .i64 r1, .int .i64 r2, .int .i64 r3, .int .i64 r4, .int .i64 r5, .int .i64 r6, .int .i64 r7, .int .i64 r8, .int .i64 r9, .int .i64 r10, .int .i64 r11, .int .i64 r12, .int .i64 r13, .int .i64 r14, .int .i64 r15, .int .i64 r16, .string r17, .string r18, .string r19, .string r20, .string r21, .string r22, .string r23]) ∧ Below w.heap.size w w' := by
 have fu := Try.underlying34
 have hu70 := Try.underlying70
 have dZ := Aside0.mk cM
 have cU := Aside0.mk cN
 clear cM cN
 have dI := Aside0.mk cO
 have cZ := Aside0.mk cP
 clear cO cP
 have HB := Aside0.mk (Below.refl w.heap.size w)
 have H : (some (aA, aq, ar, aw, ax, aD, ay, ag, ao, ac, ap, an, ak, al, ae, af, av, aC, az, ai, am, aj, ah)) = some (r1, r2, r3, r4, r5, r6, r7, r8, r9, r10, r11, r12, r13, r14, r15, r16, r17, r18, r19, r20, r21, r22, r23) := h
 clear h
 simp only [Option.some.injEq, Prod.mk.injEq] at H
 obtain ⟨rfl, rfl, rfl, rfl, rfl, rfl, rfl, rfl, rfl, rfl, rfl, rfl, rfl, rfl, rfl, rfl, rfl, rfl, rfl, rfl, rfl, rfl, rfl⟩ := H
 go_enter Try.func43, Try.ntmps43
 go_wp2_with (first | ((with_reducible refine gate_dst (N := 49) rfl ?_); refine Pre.build_event 49 70 [(0, Go.Operand.tmp 4), (1, Go.Operand.tmp 6), (2, Go.Operand.tmp 8), (3, Go.Operand.tmp 10), (4, Go.Operand.tmp 12), (5, Go.Operand.tmp 14), (6, Go.Operand.tmp 16), (7, Go.Operand.tmp 18), (8, Go.Operand.tmp 20), (9, Go.Operand.tmp 22), (10, Go.Operand.tmp 24), (11, Go.Operand.tmp 26), (12, Go.Operand.tmp 28), (13, Go.Operand.tmp 30), (14, Go.Operand.tmp 32), (15, Go.Operand.tmp 34), (16, Go.Operand.tmp 36), (17, Go.Operand.tmp 38), (18, Go.Operand.tmp 40), (19, Go.Operand.tmp 42), (20, Go.Operand.tmp 44), (21, Go.Operand.tmp 46), (22, Go.Operand.tmp 48)] rfl rfl rfl (msg_strip.bd49 _ _ _ _ _ _ _ _ _ _ _ _ _ _ _ _ _ _ _ _ _ _ _) ?_) | ((with_reducible refine gate_dst (N := 1) rfl ?_); refine Sq.box 1 #[.int .i64 aA, .int .i64 aq, .int .i64 ar, .string av, .int .i64 aw, .int .i64 ax, .string aC, .int .i64 aD, .int .i64 ay, .string az, .int .i64 ag, .string ai, .int .i64 ao, .int .i64 ac, .int .i64 ap, .int .i64 an, .int .i64 ak, .int .i64 al, .int .i64 ae, .string am, .string aj, .slice bZ ab.length ca, .int .i64 af, .string ah, .slice cC au.length cD] 34 ?_; intro aE hg w2 hbox hb; have aG := Aside0.mk (hbox); have cS := Aside0.mk (Sq.ge hg Z0); have cL := Aside0.mk (Sq.ge hg Z0); replace HB := Aside0.mk (below_step Z0 hb); clear hb hbox hg) | ((with_reducible refine gate_dst (N := 2) rfl ?_); refine Sq.box 2 #[.int .i64 0, .int .i64 0, .int .i64 0, .int .i64 0, .int .i64 0, .int .i64 0, .int .i64 0, .int .i64 0, .int .i64 0, .int .i64 0, .int .i64 0, .int .i64 0, .int .i64 0, .int .i64 0, .int .i64 0, .int .i64 0, .string ⟨#[]⟩, .string ⟨#[]⟩, .string ⟨#[]⟩, .string ⟨#[]⟩, .string ⟨#[]⟩, .string ⟨#[]⟩, .string ⟨#[]⟩] 70 ?_; intro aK hg w3 hbox hb; have cW := Aside0.mk (hbox); have ii := Aside0.mk (Sq.ge hg Z3); have fn := Aside0.mk (Sq.ge hg Z3); have cX := Aside0.mk (Sq.nl hg (blk_lt (g := aE) Z6)); have dh := Aside0.mk (Sq.ng hg (blk_lt (g := aE) Z6)); replace aG := Aside0.mk (blk_below (g := aE) Z6 hb); replace HB := Aside0.mk (below_step Z3 hb); clear hb hbox hg; have hnb4 := cX.out; have hnc4 := dh.out; have hcz5 := cells_25 aG.out; have hcz6 := cells_23 cW.out) | ((with_reducible refine Pre.gate_store 70 rfl ?_); refine Pre.store_abs (cur := #[.int .i64 0, .int .i64 0, .int .i64 0, .int .i64 0, .int .i64 0, .int .i64 0, .int .i64 0, .int .i64 0, .int .i64 0, .int .i64 0, .int .i64 0, .int .i64 0, .int .i64 0, .int .i64 0, .int .i64 0, .int .i64 0, .string ⟨#[]⟩, .string ⟨#[]⟩, .string ⟨#[]⟩, .string ⟨#[]⟩, .string ⟨#[]⟩, .string ⟨#[]⟩, .string ⟨#[]⟩]) (e := 70) rfl rfl rfl Z27 Z27 (by (with_reducible repeat (first | refine blk_drewN ?_ _ | refine blk_drew ?_ | refine blk_alloc ?_ _)); exact cW.out) Z16 Z27 Z27 ?_; intro w7 hbS_ sS_; have cQ : Aside0 (w7.heap[aE]? = some (.cells #[.int .i64 aA, .int .i64 aq, .int .i64 ar, .string av, .int .i64 aw, .int .i64 ax, .string aC, .int .i64 aD, .int .i64 ay, .string az, .int .i64 ag, .string ai, .int .i64 ao, .int .i64 ac, .int .i64 ap, .int .i64 an, .int .i64 ak, .int .i64 al, .int .i64 ae, .string am, .string aj, .slice bZ ab.length ca, .int .i64 af, .string ah, .slice cC au.length cD] 34 (0, 0))) := ⟨sS_.blk Z6 cX.out⟩; have de : Aside0 (w7.heap[aK]? = some (.cells #[.int .i64 aA, .int .i64 aq, .int .i64 ar, .int .i64 aw, .int .i64 ax, .int .i64 aD, .int .i64 ay, .int .i64 ag, .int .i64 ao, .int .i64 ac, .int .i64 ap, .int .i64 an, .int .i64 ak, .int .i64 al, .int .i64 ae, .int .i64 af, .string av, .string aC, .string az, .string ai, .string am, .string aj, .string ah] 70 (0, 0))) := ⟨hbS_⟩; have eH : Aside0 (Below w.heap.size w w7) := ⟨sS_.below Z13 fn.out⟩; clear hbS_ sS_; replace aG := cQ; replace cW := de; replace HB := eH; clear cQ de eH))
 refine bodyPost_ret (results_cell_row rfl _ _ aK 70 #[.int .i64 aA, .int .i64 aq, .int .i64 ar, .int .i64 aw, .int .i64 ax, .int .i64 aD, .int .i64 ay, .int .i64 ag, .int .i64 ao, .int .i64 ac, .int .i64 ap, .int .i64 an, .int .i64 ak, .int .i64 al, .int .i64 ae, .int .i64 af, .string av, .string aC, .string az, .string ai, .string am, .string aj, .string ah] (0, 0) _ rfl (by (with_reducible repeat (first | refine blk_drewN ?_ _ | refine blk_drew ?_ | refine blk_alloc ?_ _)); exact cW.out) Try.underlying70 rfl Z16) rfl ?_
 exact ⟨Z2, Z13⟩

/-! ### roadbooklaw12_hop: function 16 -/
def roadbooklaw12_hop.f  : Option (ByteArray) := some (⟨#[254, 128, 0, 0, 0, 0, 0, 0, 97, 98, 99, 100, 101, 102, 103, 104]⟩ : ByteArray)
set_option maxHeartbeats 8000000 in
set_option maxRecDepth 100000 in
theorem roadbooklaw12_hop.calls  (r : ByteArray) (w : World) (h : roadbooklaw12_hop.f  = some r) :
  Calls Try.prog 16 #[] w fun e w' => e = .returned (.string r) ∧ Drawn0 w w' := by
 have H : (some (⟨#[254, 128, 0, 0, 0, 0, 0, 0, 97, 98, 99, 100, 101, 102, 103, 104]⟩ : ByteArray)) = some r := h
 clear h
 obtain rfl := Option.some.inj H
 go_enter Try.func16, Try.ntmps16
 go_wp2
 go_ret
 exact ⟨Z7, Z10⟩

end Go.Proofs.Ytnifhgackjkkbaa.PN
