-- Written by mp.py, a program of this work (wip/tools), out of the translation; Lean checks it.
import Derived.Test.YtnifhgackjkkbaaPNxZ
import Derived.Test.YtnifhgackjkkbaaPNxroadbookref02
import Derived.Test.YtnifhgackjkkbaaPNxroadbookref07Bare
import Derived.Test.YtnifhgackjkkbaaLoad
import Derived.Test.YtnifhgackjkkbaaSqB
import Derived.Test.YtnifhgackjkkbaaSqC
namespace Go.Proofs.Ytnifhgackjkkbaa.PN
open Go.RowKit Go.Proofs.YtnifhgackjkkbaaW.PrintWords Go.Proofs.YtnifhgackjkkbaaW.PrintLast Go.Proofs.YtnifhgackjkkbaaW.PrintMore
attribute [local go_sem] max2_int min2_int max_two min_two max_three min_three max_four min_four   -- for this text's walks alone
set_option linter.unusedVariables false
set_option linter.unusedSimpArgs false

/-! ### roadbookref12_Right: function 13 -/
def roadbookref12_Right.f (k : Nat) (aA : Int) (aq : Int) (ar : Int) (av : ByteArray) (aw : Int) (ax : Int) (aC : ByteArray) (aD : Int) (ay : Int) (az : ByteArray) (ag : Int) (ai : ByteArray) (ao : Int) (ac : Int) (ap : Int) (an : Int) (ak : Int) (al : Int) (ae : Int) (am : ByteArray) (aj : ByteArray) (ab : List S66) (af : Int) (ah : ByteArray) (au : List S68) : Option Bool := if aA = 2 then ((roadbookref07_Bare.f k aA aq ar av aw ax aC aD ay az ag ai ao ac ap an ak al ae am aj ab af ah au).bind fun t => (if t = true then (if aq ≥ 1 then (if aq ≤ 2 then (if ay ≥ 0 then (if ay ≤ 65535 then (if ag ≥ 1 then (if ag ≤ 16 then (if (aC.size : Int) = 16 then ((roadbookref04_Right.f k aC aD).bind fun p => (if p = true then ((roadbookref12_none.f).bind fun z => (if az.toList = z.toList then (some true) else ((roadbookref06_Link.f az).bind fun q => (some q)))) else (some false))) else (some false)) else (some false)) else (some false)) else (some false)) else (some false)) else (some false)) else (some false)) else (some false))) else (some false)
theorem roadbookref12_Right.mono : ∀ aA aq ar av aw ax aC aD ay az ag ai ao ac ap an ak al ae am aj ab af ah au k, LeO (roadbookref12_Right.f k aA aq ar av aw ax aC aD ay az ag ai ao ac ap an ak al ae am aj ab af ah au) (roadbookref12_Right.f (k + 1) aA aq ar av aw ax aC aD ay az ag ai ao ac ap an ak al ae am aj ab af ah au) := by
 intros
 rename_i k
 unfold roadbookref12_Right.f
 have m0 := roadbookref04_Right.mono
 have m1 := roadbookref07_Bare.mono
 exact Sq.mo
def roadbookref12_Right.T1 : Bool × List (List Nat × List Nat) := (true, [([], []), ([0], [0]), ([1], [1]), ([2], [2]), ([3], [3]), ([4, 3, 3], [3, 4]), ([3, 5], [3, 5]), ([6, 5], [6]), ([7], [7]), ([8, 7], [7, 8]), ([9, 7], [7, 9]), ([7, 10], [7, 10]), ([11, 7], [11]), ([12], [12]), ([13, 12], [12, 13]), ([14, 12], [12, 14]), ([12, 15], [12, 15]), ([16, 12], [16]), ([17], [17]), ([18, 17], [17, 18]), ([19, 17], [17, 19]), ([17, 20], [17, 20]), ([21, 17], [21]), ([22], [22]), ([23, 22], [22, 23]), ([24, 22], [22, 24]), ([22, 25], [22, 25]), ([26, 22], [26]), ([27], [27]), ([28, 27], [27, 28]), ([29, 27], [27, 29]), ([27, 30], [27, 30]), ([31, 27], [31]), ([32], [32]), ([33, 32], [32, 33]), ([34, 32], [32, 34]), ([32, 35], [32, 35]), ([36, 32], [36]), ([37], [37]), ([38, 37], [37, 38]), ([39, 37], [37, 39]), ([40, 37], [37, 40]), ([37, 41], [37, 41]), ([42, 37], [42]), ([43], [43]), ([44, 43], [43, 44]), ([43], [43]), ([46, 43], [43, 46]), ([45, 47, 43, 43], [43, 45, 47]), ([43, 48], [43, 48]), ([49, 48], [49]), ([50], [50]), ([51, 50], [50, 51]), ([50, 50], [50]), ([52, 53, 50], [50, 52, 53]), ([54, 53, 50], [50, 54]), ([55], [55]), ([56, 55], [55, 56]), ([57, 55, 55], [55, 57]), ([55, 58, 50], [50, 55, 58]), ([50, 59], [50, 59]), ([60, 58, 0, 1, 2, 3, 4, 5, 6, 7, 8, 9, 10, 11, 12, 13, 14, 15, 16, 17, 18, 19, 20, 21, 22, 23, 24, 25, 26, 27, 28, 29, 30, 31, 32, 33, 34, 35, 36, 37, 38, 39, 40, 41, 42, 43, 44, 45, 46, 47, 48, 49, 50, 51, 52, 53, 54, 55, 56, 57, 58, 59, 60], [60])])
def roadbookref12_Right.B1 : List Nat := [0, 1, 3, 7, 15, 31, 63, 127, 255, 511, 1023, 2047, 4095, 8191, 16383, 32767, 65535, 131071, 262143, 524287, 1048575, 2097151, 4194303, 8388607, 16777215, 33554431, 67108863, 134217727, 268435455, 536870911, 1073741823, 2147483647, 4294967295, 8589934591, 17179869183, 34359738367, 68719476735, 137438953471, 274877906943, 549755813887, 1099511627775, 2199023255551, 4398046511103, 8796093022207, 17592186044415, 35184372088831, 17592186044415, 87960930222079, 281474976710655, 562949953421311, 1125899906842623, 2251799813685247, 4503599627370495, 2251799813685247, 18014398509481983, 36028797018963967, 72057594037927935, 144115188075855871, 288230376151711743, 576460752303423487, 1152921504606846975, 2305843009213693951]
theorem roadbookref12_Right.tab1 : rtab .any (opsOf Try.f13 1) = roadbookref12_Right.T1 := by kernel_rfl
theorem roadbookref12_Right.bits1 : waitsOk roadbookref12_Right.T1.2 roadbookref12_Right.B1 = true := by kernel_rfl
/-- An operation whose guard is false yields nothing. -/
theorem roadbookref12_Right.und {P : Program} {ops : Array Oper} {Q : Exit → Act → World → Prop} {md : Region.Mode} {S : World → Prop} {ds : List Nat} {T : Bool × List (List Nat × List Nat)} {oi : Oper} {fuel : Nat} {l : Array Bool} {a a' : Act} {w : World} (i : Nat) (N : Option Tmp) (l' : Array Bool) (hT : rtab md ops = T)
  (h : wpAnyLast P md ops Q S ds fuel l' a' w) (hi : ops[i]? = some oi := by rfl) (hN : oi.dst = N := by rfl) (hc : anyT T l.toList l'.toList i = true := by kernel_rfl)
  (hQ : ∀ c a w, Q (.panic c) (a.put oi.dst undef) w → Q (.panic c) a w := by exact fun _ _ _ h => h) (hw : Region.wanted oi (yielded ops a.tmps) = false := by rfl)
  (ha : a.put N undef = a' := by (simp only [Act.put, Sq.s1, Sq.s2, Sq.s3, i64_w, i32_w]; rfl)) : wpAnyLast P md ops Q S ds (fuel + 1) l a w :=
 pure_ (i := i) (N := N) (v := undef) l' hi hN (any_of hT hc) hQ (Or.inr ⟨hw, rfl⟩) ha h
set_option maxHeartbeats 8000000 in
set_option maxRecDepth 100000 in
theorem roadbookref12_Right.calls (k : Nat) (aA : Int) (aq : Int) (ar : Int) (av : ByteArray) (aw : Int) (ax : Int) (aC : ByteArray) (aD : Int) (ay : Int) (az : ByteArray) (ag : Int) (ai : ByteArray) (ao : Int) (ac : Int) (ap : Int) (an : Int) (ak : Int) (al : Int) (ae : Int) (am : ByteArray) (aj : ByteArray) (bZ : Option Addr) (ca : Nat) (ab : List S66) (af : Int) (ah : ByteArray) (cC : Option Addr) (cD : Nat) (au : List S68) (r : Bool) (w : World) (cM : Kd.C k66 w bZ ab.length ab) (cN : ab.length ≤ ca) (cO : Kd.C k68 w cC au.length au) (cP : au.length ≤ cD) (h : roadbookref12_Right.f k aA aq ar av aw ax aC aD ay az ag ai ao ac ap an ak al ae am aj ab af ah au = some r) :
  Calls Try.prog 13 #[.agg #[.int .i64 aA, .int .i64 aq, .int .i64 ar, .string av, .int .i64 aw, .int .i64 ax, .string aC, .int .i64 aD, .int .i64 ay, .string az, .int .i64 ag, .string ai, .int .i64 ao, .int .i64 ac, .int .i64 ap, .int .i64 an, .int .i64 ak, .int .i64 al, .int .i64 ae, .string am, .string aj, .slice bZ ab.length ca, .int .i64 af, .string ah, .slice cC au.length cD]] w fun e w' => e = .returned (.bool r) ∧ Below w.heap.size w w' := by
 have hu := Try.underlying34
 have HR21 := Aside0.mk cM
 have HC21 := Aside0.mk cN
 have HR24 := Aside0.mk cO
 have he := Aside0.mk cP
 clear cM cN cO cP
 have HB := Aside0.mk (Below.refl w.heap.size w)
 unfold roadbookref12_Right.f at h
 have HA := Aside0.mk h
 clear h
 go_enter Try.func13, Try.ntmps13
 try go_wp2_with (first | ((with_reducible refine gate_dst (N := 1) rfl ?_); (try (refine gate_guard Z27 ?_; dsimp only)); refine Sq.box 1 #[.int .i64 aA, .int .i64 aq, .int .i64 ar, .string av, .int .i64 aw, .int .i64 ax, .string aC, .int .i64 aD, .int .i64 ay, .string az, .int .i64 ag, .string ai, .int .i64 ao, .int .i64 ac, .int .i64 ap, .int .i64 an, .int .i64 ak, .int .i64 al, .int .i64 ae, .string am, .string aj, .slice bZ ab.length ca, .int .i64 af, .string ah, .slice cC au.length cD] 34 ?_; intro g hg w1 hbox hb; have BK := Aside0.mk hbox; replace HB := Aside0.mk (below_step Z0 hb); clear hb hbox hg))
 replace BK := Aside0.mk (blk_drew BK.out)
 replace HB := Aside0.mk (below_drew1 HB.out)
 refine start_ (n := 62) (S := fun w' => w'.heap[g]? = some (.cells #[.int .i64 aA, .int .i64 aq, .int .i64 ar, .string av, .int .i64 aw, .int .i64 ax, .string aC, .int .i64 aD, .int .i64 ay, .string az, .int .i64 ag, .string ai, .int .i64 ao, .int .i64 ac, .int .i64 ap, .int .i64 an, .int .i64 ak, .int .i64 al, .int .i64 ae, .string am, .string aj, .slice bZ ab.length ca, .int .i64 af, .string ah, .slice cC au.length cD] 34 (0, 0)) ∧ w'.cell? ⟨g, 0, none⟩ = some (.int .i64 aA) ∧ w'.cell? ⟨g, 1, none⟩ = some (.int .i64 aq) ∧ w'.cell? ⟨g, 6, none⟩ = some (.string aC) ∧ w'.cell? ⟨g, 7, none⟩ = some (.int .i64 aD) ∧ w'.cell? ⟨g, 8, none⟩ = some (.int .i64 ay) ∧ w'.cell? ⟨g, 9, none⟩ = some (.string az) ∧ w'.cell? ⟨g, 10, none⟩ = some (.int .i64 ag)) (ds := []) (Sq.b 62 0) Z16 rfl rfl ⟨BK.out, Sq.bc BK 0, Sq.bc BK 1, Sq.bc BK 6, Sq.bc BK 7, Sq.bc BK 8, Sq.bc BK 9, Sq.bc BK 10⟩ (fun hHeld => ?_); refine with_tabW roadbookref12_Right.tab1 roadbookref12_Right.bits1 (fun HT_ HW_ => ?_)
 generalize w1.drew = w2 at BK HB hHeld ⊢
 refine Sq.pur 0 (some 3) (Sq.b 62 1) HT_.out ?_
 refine Sq.tak 1 (some 4) (Sq.b 62 3) HT_.out HW_.out hHeld (v := ?_) (a' := ?_) ?_ ?_ ?_
 rotate_left
 ·rintro w' ⟨s0, s1, s2, s3, s4, s5, s6, s7⟩
  first | (refine Eq.trans (Pre.load_run (ty := 34) rfl Z27 (by with_reducible assumption) Try.underlying34 rfl Z16) ?_; with_reducible rfl) | (go_simp; with_reducible rfl)
 rotate_left
 ·simp only [Act.put, Sq.s1, Sq.s2, Sq.s3, i64_w, i32_w]
  rfl
 have H := HA.out
 clear HA
 by_cases c : aA = 2
 rotate_left
 ·rw [if_neg c] at H
  have e1 : (aA == 2) = false := beq_eq_false_iff_ne.mpr c
  obtain rfl := Option.some.inj H
  clear c H
  refine Sq.pur 2 (some 5) (Sq.b 62 7) HT_.out ?_
  refine Sq.pur 3 (some 6) (Sq.b 62 15) HT_.out ?_
  refine roadbookref12_Right.und 4 (some 7) (Sq.b 62 31) HT_.out ?_
  refine roadbookref12_Right.und 5 (some 8) (Sq.b 62 63) HT_.out ?_
  refine Sq.pur 6 (some 9) (Sq.b 62 127) HT_.out ?_
  refine Sq.pur 7 (some 10) (Sq.b 62 255) HT_.out ?_
  refine roadbookref12_Right.und 8 (some 11) (Sq.b 62 511) HT_.out ?_
  refine roadbookref12_Right.und 9 (some 12) (Sq.b 62 1023) HT_.out ?_
  refine roadbookref12_Right.und 10 (some 13) (Sq.b 62 2047) HT_.out ?_
  refine Sq.pur 11 (some 14) (Sq.b 62 4095) HT_.out ?_
  refine Sq.pur 12 (some 15) (Sq.b 62 8191) HT_.out ?_
  refine roadbookref12_Right.und 13 (some 16) (Sq.b 62 16383) HT_.out ?_
  refine roadbookref12_Right.und 14 (some 17) (Sq.b 62 32767) HT_.out ?_
  refine roadbookref12_Right.und 15 (some 18) (Sq.b 62 65535) HT_.out ?_
  refine Sq.pur 16 (some 19) (Sq.b 62 131071) HT_.out ?_
  refine Sq.pur 17 (some 20) (Sq.b 62 262143) HT_.out ?_
  refine roadbookref12_Right.und 18 (some 21) (Sq.b 62 524287) HT_.out ?_
  refine roadbookref12_Right.und 19 (some 22) (Sq.b 62 1048575) HT_.out ?_
  refine roadbookref12_Right.und 20 (some 23) (Sq.b 62 2097151) HT_.out ?_
  refine Sq.pur 21 (some 24) (Sq.b 62 4194303) HT_.out ?_
  refine Sq.pur 22 (some 25) (Sq.b 62 8388607) HT_.out ?_
  refine roadbookref12_Right.und 23 (some 26) (Sq.b 62 16777215) HT_.out ?_
  refine roadbookref12_Right.und 24 (some 27) (Sq.b 62 33554431) HT_.out ?_
  refine roadbookref12_Right.und 25 (some 28) (Sq.b 62 67108863) HT_.out ?_
  refine Sq.pur 26 (some 29) (Sq.b 62 134217727) HT_.out ?_
  refine Sq.pur 27 (some 30) (Sq.b 62 268435455) HT_.out ?_
  refine roadbookref12_Right.und 28 (some 31) (Sq.b 62 536870911) HT_.out ?_
  refine roadbookref12_Right.und 29 (some 32) (Sq.b 62 1073741823) HT_.out ?_
  refine roadbookref12_Right.und 30 (some 33) (Sq.b 62 2147483647) HT_.out ?_
  refine Sq.pur 31 (some 34) (Sq.b 62 4294967295) HT_.out ?_
  refine Sq.pur 32 (some 35) (Sq.b 62 8589934591) HT_.out ?_
  refine roadbookref12_Right.und 33 (some 36) (Sq.b 62 17179869183) HT_.out ?_
  refine roadbookref12_Right.und 34 (some 37) (Sq.b 62 34359738367) HT_.out ?_
  refine roadbookref12_Right.und 35 (some 38) (Sq.b 62 68719476735) HT_.out ?_
  refine Sq.pur 36 (some 39) (Sq.b 62 137438953471) HT_.out ?_
  refine Sq.pur 37 (some 40) (Sq.b 62 274877906943) HT_.out ?_
  refine roadbookref12_Right.und 38 (some 41) (Sq.b 62 549755813887) HT_.out ?_
  refine roadbookref12_Right.und 39 (some 42) (Sq.b 62 1099511627775) HT_.out ?_
  refine roadbookref12_Right.und 40 (some 43) (Sq.b 62 2199023255551) HT_.out ?_
  refine roadbookref12_Right.und 41 (some 44) (Sq.b 62 4398046511103) HT_.out ?_
  refine Sq.pur 42 (some 45) (Sq.b 62 8796093022207) HT_.out ?_
  refine Sq.pur 43 (some 46) (Sq.b 62 17592186044415) HT_.out ?_
  refine roadbookref12_Right.und 44 (some 47) (Sq.b 62 35184372088831) HT_.out ?_
  refine roadbookref12_Right.und 45 (some 48) (Sq.b 62 70368744177663) HT_.out ?_
  refine roadbookref12_Right.und 46 (some 49) (Sq.b 62 140737488355327) HT_.out ?_
  refine roadbookref12_Right.und 47 (some 50) (Sq.b 62 281474976710655) HT_.out ?_
  refine roadbookref12_Right.und 48 (some 51) (Sq.b 62 562949953421311) HT_.out ?_
  refine Sq.pur 49 (some 52) (Sq.b 62 1125899906842623) HT_.out ?_
  refine Sq.pur 50 (some 53) (Sq.b 62 2251799813685247) HT_.out ?_
  refine roadbookref12_Right.und 51 (some 54) (Sq.b 62 4503599627370495) HT_.out ?_
  refine roadbookref12_Right.und 52 (some 55) (Sq.b 62 9007199254740991) HT_.out ?_
  refine roadbookref12_Right.und 53 (some 56) (Sq.b 62 18014398509481983) HT_.out ?_
  refine roadbookref12_Right.und 54 (some 57) (Sq.b 62 36028797018963967) HT_.out ?_
  refine roadbookref12_Right.und 55 (some 58) (Sq.b 62 72057594037927935) HT_.out ?_
  refine roadbookref12_Right.und 56 (some 59) (Sq.b 62 144115188075855871) HT_.out ?_
  refine roadbookref12_Right.und 57 (some 60) (Sq.b 62 288230376151711743) HT_.out ?_
  refine roadbookref12_Right.und 58 (some 61) (Sq.b 62 576460752303423487) HT_.out ?_
  refine roadbookref12_Right.und 59 (some 62) (Sq.b 62 1152921504606846975) HT_.out ?_
  refine Sq.pur 60 (some 63) (Sq.b 62 2305843009213693951) HT_.out ?_
  refine Sq.pur 61 (some 2) (Sq.b 62 4611686018427387903) HT_.out ?_
  refine done_ (done_of HT_.out Z16) ?_
  go_wp2
  go_ret
  exact ⟨rfl, Z0⟩
 rw [if_pos c] at H
 have e1 : (aA == 2) = true := beq_iff_eq.mpr c
 have HA := Aside0.mk H
 clear c H
 refine Sq.pur 2 (some 5) (Sq.b 62 7) HT_.out ?_
 refine Sq.pur 3 (some 6) (Sq.b 62 15) HT_.out ?_
 refine Sq.tak 4 (some 7) (Sq.b 62 31) HT_.out HW_.out hHeld (v := ?_) (a' := ?_) ?_ ?_ ?_
 rotate_left
 ·rintro w' ⟨s0, s1, s2, s3, s4, s5, s6, s7⟩
  first | (refine Eq.trans (Pre.load_run (ty := 34) rfl Z27 (by with_reducible assumption) Try.underlying34 rfl Z16) ?_; with_reducible rfl) | (go_simp; with_reducible rfl)
 rotate_left
 ·simp only [Act.put, Sq.s1, Sq.s2, Sq.s3, i64_w, i32_w]
  rfl
 obtain ⟨t, c, H⟩ := Option.bind_eq_some_iff.mp HA.out
 have A3 := Aside0.mk c
 clear HA c
 have HA := Aside0.mk H
 clear H
 refine one_ (i := 5) (N := some 8) (Sq.b 62 63) rfl rfl (one_of HT_.out Z16) Z18 (fun K hK => ?_)
 refine goes_ Try.func31 Z16 rfl #[.agg #[.int .i64 aA, .int .i64 aq, .int .i64 ar, .string av, .int .i64 aw, .int .i64 ax, .string aC, .int .i64 aD, .int .i64 ay, .string az, .int .i64 ag, .string ai, .int .i64 ao, .int .i64 ac, .int .i64 ap, .int .i64 an, .int .i64 ak, .int .i64 al, .int .i64 ae, .string am, .string aj, .slice bZ ab.length ca, .int .i64 af, .string ah, .slice cC au.length cD]] Z27 rfl rfl Z4 ?_
 with_reducible refine (roadbookref07_Bare.calls k aA aq ar av aw ax aC aD ay az ag ai ao ac ap an ak al ae am aj _ _ ab af ah _ _ au t _ ?side1 ?side2 ?side3 ?side4 A3.out).mono ?_
 (case side1 => exact (Kd.C_below HR21.out HB.out))
 (case side2 => exact HC21.out)
 (case side3 => exact (Kd.C_below HR24.out HB.out))
 (case side4 => exact he.out)
 rintro e w2 ⟨rfl, hb⟩
 refine ⟨_, rfl, ?_⟩
 replace BK := Aside0.mk (blk_below (g := g) BK.out hb)
 replace HB := Aside0.mk (below_step HB.out hb)
 clear hb
 refine hK.out _ _ ⟨BK.out, Sq.bc BK 0, Sq.bc BK 1, Sq.bc BK 6, Sq.bc BK 7, Sq.bc BK 8, Sq.bc BK 9, Sq.bc BK 10⟩ (fun hHeld => ?_)
 clear hK K
 refine norm_ (a' := ?_) ?_ ?_
 rotate_left
 ·show Act.put _ (some 8) _ = _
  simp only [Act.put, Sq.s1, Sq.s2, Sq.s3, i64_w, i32_w]
  rfl
 have H := HA.out
 clear HA
 cases t
 ·replace H := (if_neg Bool.false_ne_true).symm.trans H
  obtain rfl := Option.some.inj H
  clear H
  refine Sq.pur 6 (some 9) (Sq.b 62 127) HT_.out ?_
  refine Sq.pur 7 (some 10) (Sq.b 62 255) HT_.out ?_
  refine roadbookref12_Right.und 8 (some 11) (Sq.b 62 511) HT_.out ?_
  refine roadbookref12_Right.und 9 (some 12) (Sq.b 62 1023) HT_.out ?_
  refine roadbookref12_Right.und 10 (some 13) (Sq.b 62 2047) HT_.out ?_
  refine Sq.pur 11 (some 14) (Sq.b 62 4095) HT_.out ?_
  refine Sq.pur 12 (some 15) (Sq.b 62 8191) HT_.out ?_
  refine roadbookref12_Right.und 13 (some 16) (Sq.b 62 16383) HT_.out ?_
  refine roadbookref12_Right.und 14 (some 17) (Sq.b 62 32767) HT_.out ?_
  refine roadbookref12_Right.und 15 (some 18) (Sq.b 62 65535) HT_.out ?_
  refine Sq.pur 16 (some 19) (Sq.b 62 131071) HT_.out ?_
  refine Sq.pur 17 (some 20) (Sq.b 62 262143) HT_.out ?_
  refine roadbookref12_Right.und 18 (some 21) (Sq.b 62 524287) HT_.out ?_
  refine roadbookref12_Right.und 19 (some 22) (Sq.b 62 1048575) HT_.out ?_
  refine roadbookref12_Right.und 20 (some 23) (Sq.b 62 2097151) HT_.out ?_
  refine Sq.pur 21 (some 24) (Sq.b 62 4194303) HT_.out ?_
  refine Sq.pur 22 (some 25) (Sq.b 62 8388607) HT_.out ?_
  refine roadbookref12_Right.und 23 (some 26) (Sq.b 62 16777215) HT_.out ?_
  refine roadbookref12_Right.und 24 (some 27) (Sq.b 62 33554431) HT_.out ?_
  refine roadbookref12_Right.und 25 (some 28) (Sq.b 62 67108863) HT_.out ?_
  refine Sq.pur 26 (some 29) (Sq.b 62 134217727) HT_.out ?_
  refine Sq.pur 27 (some 30) (Sq.b 62 268435455) HT_.out ?_
  refine roadbookref12_Right.und 28 (some 31) (Sq.b 62 536870911) HT_.out ?_
  refine roadbookref12_Right.und 29 (some 32) (Sq.b 62 1073741823) HT_.out ?_
  refine roadbookref12_Right.und 30 (some 33) (Sq.b 62 2147483647) HT_.out ?_
  refine Sq.pur 31 (some 34) (Sq.b 62 4294967295) HT_.out ?_
  refine Sq.pur 32 (some 35) (Sq.b 62 8589934591) HT_.out ?_
  refine roadbookref12_Right.und 33 (some 36) (Sq.b 62 17179869183) HT_.out ?_
  refine roadbookref12_Right.und 34 (some 37) (Sq.b 62 34359738367) HT_.out ?_
  refine roadbookref12_Right.und 35 (some 38) (Sq.b 62 68719476735) HT_.out ?_
  refine Sq.pur 36 (some 39) (Sq.b 62 137438953471) HT_.out ?_
  refine Sq.pur 37 (some 40) (Sq.b 62 274877906943) HT_.out ?_
  refine roadbookref12_Right.und 38 (some 41) (Sq.b 62 549755813887) HT_.out ?_
  refine roadbookref12_Right.und 39 (some 42) (Sq.b 62 1099511627775) HT_.out ?_
  refine roadbookref12_Right.und 40 (some 43) (Sq.b 62 2199023255551) HT_.out ?_
  refine roadbookref12_Right.und 41 (some 44) (Sq.b 62 4398046511103) HT_.out ?_
  refine Sq.pur 42 (some 45) (Sq.b 62 8796093022207) HT_.out ?_
  refine Sq.pur 43 (some 46) (Sq.b 62 17592186044415) HT_.out ?_
  refine roadbookref12_Right.und 44 (some 47) (Sq.b 62 35184372088831) HT_.out ?_
  refine roadbookref12_Right.und 45 (some 48) (Sq.b 62 70368744177663) HT_.out ?_
  refine roadbookref12_Right.und 46 (some 49) (Sq.b 62 140737488355327) HT_.out ?_
  refine roadbookref12_Right.und 47 (some 50) (Sq.b 62 281474976710655) HT_.out ?_
  refine roadbookref12_Right.und 48 (some 51) (Sq.b 62 562949953421311) HT_.out ?_
  refine Sq.pur 49 (some 52) (Sq.b 62 1125899906842623) HT_.out ?_
  refine Sq.pur 50 (some 53) (Sq.b 62 2251799813685247) HT_.out ?_
  refine roadbookref12_Right.und 51 (some 54) (Sq.b 62 4503599627370495) HT_.out ?_
  refine roadbookref12_Right.und 52 (some 55) (Sq.b 62 9007199254740991) HT_.out ?_
  refine roadbookref12_Right.und 53 (some 56) (Sq.b 62 18014398509481983) HT_.out ?_
  refine roadbookref12_Right.und 54 (some 57) (Sq.b 62 36028797018963967) HT_.out ?_
  refine roadbookref12_Right.und 55 (some 58) (Sq.b 62 72057594037927935) HT_.out ?_
  refine roadbookref12_Right.und 56 (some 59) (Sq.b 62 144115188075855871) HT_.out ?_
  refine roadbookref12_Right.und 57 (some 60) (Sq.b 62 288230376151711743) HT_.out ?_
  refine roadbookref12_Right.und 58 (some 61) (Sq.b 62 576460752303423487) HT_.out ?_
  refine roadbookref12_Right.und 59 (some 62) (Sq.b 62 1152921504606846975) HT_.out ?_
  refine Sq.pur 60 (some 63) (Sq.b 62 2305843009213693951) HT_.out ?_
  refine Sq.pur 61 (some 2) (Sq.b 62 4611686018427387903) HT_.out ?_
  refine done_ (done_of HT_.out Z16) ?_
  go_wp2
  go_ret
  exact ⟨rfl, Z0⟩
 replace H := (if_pos rfl).symm.trans H
 have HA := Aside0.mk H
 clear H
 refine Sq.pur 6 (some 9) (Sq.b 62 127) HT_.out ?_
 refine Sq.pur 7 (some 10) (Sq.b 62 255) HT_.out ?_
 refine Sq.pur 8 (some 11) (Sq.b 62 511) HT_.out ?_
 refine Sq.tak 9 (some 12) (Sq.b 62 1023) HT_.out HW_.out hHeld (v := ?_) (a' := ?_) ?_ ?_ ?_
 rotate_left
 ·rintro w' ⟨s0, s1, s2, s3, s4, s5, s6, s7⟩
  first | (refine Eq.trans (Pre.load_run (ty := 34) rfl Z27 (by with_reducible assumption) Try.underlying34 rfl Z16) ?_; with_reducible rfl) | (go_simp; with_reducible rfl)
 rotate_left
 ·simp only [Act.put, Sq.s1, Sq.s2, Sq.s3, i64_w, i32_w]
  rfl
 have H := HA.out
 clear HA
 by_cases c : aq ≥ 1
 rotate_left
 ·rw [if_neg c] at H
  have e2 : decide (1 ≤ aq) = false := decide_eq_false c
  obtain rfl := Option.some.inj H
  clear c H
  refine Sq.pur 10 (some 13) (Sq.b 62 2047) HT_.out ?_
  refine Sq.pur 11 (some 14) (Sq.b 62 4095) HT_.out ?_
  refine Sq.pur 12 (some 15) (Sq.b 62 8191) HT_.out ?_
  refine roadbookref12_Right.und 13 (some 16) (Sq.b 62 16383) HT_.out ?_
  refine roadbookref12_Right.und 14 (some 17) (Sq.b 62 32767) HT_.out ?_
  refine roadbookref12_Right.und 15 (some 18) (Sq.b 62 65535) HT_.out ?_
  refine Sq.pur 16 (some 19) (Sq.b 62 131071) HT_.out ?_
  refine Sq.pur 17 (some 20) (Sq.b 62 262143) HT_.out ?_
  refine roadbookref12_Right.und 18 (some 21) (Sq.b 62 524287) HT_.out ?_
  refine roadbookref12_Right.und 19 (some 22) (Sq.b 62 1048575) HT_.out ?_
  refine roadbookref12_Right.und 20 (some 23) (Sq.b 62 2097151) HT_.out ?_
  refine Sq.pur 21 (some 24) (Sq.b 62 4194303) HT_.out ?_
  refine Sq.pur 22 (some 25) (Sq.b 62 8388607) HT_.out ?_
  refine roadbookref12_Right.und 23 (some 26) (Sq.b 62 16777215) HT_.out ?_
  refine roadbookref12_Right.und 24 (some 27) (Sq.b 62 33554431) HT_.out ?_
  refine roadbookref12_Right.und 25 (some 28) (Sq.b 62 67108863) HT_.out ?_
  refine Sq.pur 26 (some 29) (Sq.b 62 134217727) HT_.out ?_
  refine Sq.pur 27 (some 30) (Sq.b 62 268435455) HT_.out ?_
  refine roadbookref12_Right.und 28 (some 31) (Sq.b 62 536870911) HT_.out ?_
  refine roadbookref12_Right.und 29 (some 32) (Sq.b 62 1073741823) HT_.out ?_
  refine roadbookref12_Right.und 30 (some 33) (Sq.b 62 2147483647) HT_.out ?_
  refine Sq.pur 31 (some 34) (Sq.b 62 4294967295) HT_.out ?_
  refine Sq.pur 32 (some 35) (Sq.b 62 8589934591) HT_.out ?_
  refine roadbookref12_Right.und 33 (some 36) (Sq.b 62 17179869183) HT_.out ?_
  refine roadbookref12_Right.und 34 (some 37) (Sq.b 62 34359738367) HT_.out ?_
  refine roadbookref12_Right.und 35 (some 38) (Sq.b 62 68719476735) HT_.out ?_
  refine Sq.pur 36 (some 39) (Sq.b 62 137438953471) HT_.out ?_
  refine Sq.pur 37 (some 40) (Sq.b 62 274877906943) HT_.out ?_
  refine roadbookref12_Right.und 38 (some 41) (Sq.b 62 549755813887) HT_.out ?_
  refine roadbookref12_Right.und 39 (some 42) (Sq.b 62 1099511627775) HT_.out ?_
  refine roadbookref12_Right.und 40 (some 43) (Sq.b 62 2199023255551) HT_.out ?_
  refine roadbookref12_Right.und 41 (some 44) (Sq.b 62 4398046511103) HT_.out ?_
  refine Sq.pur 42 (some 45) (Sq.b 62 8796093022207) HT_.out ?_
  refine Sq.pur 43 (some 46) (Sq.b 62 17592186044415) HT_.out ?_
  refine roadbookref12_Right.und 44 (some 47) (Sq.b 62 35184372088831) HT_.out ?_
  refine roadbookref12_Right.und 45 (some 48) (Sq.b 62 70368744177663) HT_.out ?_
  refine roadbookref12_Right.und 46 (some 49) (Sq.b 62 140737488355327) HT_.out ?_
  refine roadbookref12_Right.und 47 (some 50) (Sq.b 62 281474976710655) HT_.out ?_
  refine roadbookref12_Right.und 48 (some 51) (Sq.b 62 562949953421311) HT_.out ?_
  refine Sq.pur 49 (some 52) (Sq.b 62 1125899906842623) HT_.out ?_
  refine Sq.pur 50 (some 53) (Sq.b 62 2251799813685247) HT_.out ?_
  refine roadbookref12_Right.und 51 (some 54) (Sq.b 62 4503599627370495) HT_.out ?_
  refine roadbookref12_Right.und 52 (some 55) (Sq.b 62 9007199254740991) HT_.out ?_
  refine roadbookref12_Right.und 53 (some 56) (Sq.b 62 18014398509481983) HT_.out ?_
  refine roadbookref12_Right.und 54 (some 57) (Sq.b 62 36028797018963967) HT_.out ?_
  refine roadbookref12_Right.und 55 (some 58) (Sq.b 62 72057594037927935) HT_.out ?_
  refine roadbookref12_Right.und 56 (some 59) (Sq.b 62 144115188075855871) HT_.out ?_
  refine roadbookref12_Right.und 57 (some 60) (Sq.b 62 288230376151711743) HT_.out ?_
  refine roadbookref12_Right.und 58 (some 61) (Sq.b 62 576460752303423487) HT_.out ?_
  refine roadbookref12_Right.und 59 (some 62) (Sq.b 62 1152921504606846975) HT_.out ?_
  refine Sq.pur 60 (some 63) (Sq.b 62 2305843009213693951) HT_.out ?_
  refine Sq.pur 61 (some 2) (Sq.b 62 4611686018427387903) HT_.out ?_
  refine done_ (done_of HT_.out Z16) ?_
  go_wp2
  go_ret
  exact ⟨rfl, Z0⟩
 rw [if_pos c] at H
 have e2 : decide (1 ≤ aq) = true := decide_eq_true c
 have HA := Aside0.mk H
 clear c H
 refine Sq.pur 10 (some 13) (Sq.b 62 2047) HT_.out ?_
 refine Sq.pur 11 (some 14) (Sq.b 62 4095) HT_.out ?_
 refine Sq.pur 12 (some 15) (Sq.b 62 8191) HT_.out ?_
 refine Sq.pur 13 (some 16) (Sq.b 62 16383) HT_.out ?_
 refine Sq.tak 14 (some 17) (Sq.b 62 32767) HT_.out HW_.out hHeld (v := ?_) (a' := ?_) ?_ ?_ ?_
 rotate_left
 ·rintro w' ⟨s0, s1, s2, s3, s4, s5, s6, s7⟩
  first | (refine Eq.trans (Pre.load_run (ty := 34) rfl Z27 (by with_reducible assumption) Try.underlying34 rfl Z16) ?_; with_reducible rfl) | (go_simp; with_reducible rfl)
 rotate_left
 ·simp only [Act.put, Sq.s1, Sq.s2, Sq.s3, i64_w, i32_w]
  rfl
 have H := HA.out
 clear HA
 by_cases c : aq ≤ 2
 rotate_left
 ·rw [if_neg c] at H
  have e3 : decide (aq ≤ 2) = false := decide_eq_false c
  obtain rfl := Option.some.inj H
  clear c H
  refine Sq.pur 15 (some 18) (Sq.b 62 65535) HT_.out ?_
  refine Sq.pur 16 (some 19) (Sq.b 62 131071) HT_.out ?_
  refine Sq.pur 17 (some 20) (Sq.b 62 262143) HT_.out ?_
  refine roadbookref12_Right.und 18 (some 21) (Sq.b 62 524287) HT_.out ?_
  refine roadbookref12_Right.und 19 (some 22) (Sq.b 62 1048575) HT_.out ?_
  refine roadbookref12_Right.und 20 (some 23) (Sq.b 62 2097151) HT_.out ?_
  refine Sq.pur 21 (some 24) (Sq.b 62 4194303) HT_.out ?_
  refine Sq.pur 22 (some 25) (Sq.b 62 8388607) HT_.out ?_
  refine roadbookref12_Right.und 23 (some 26) (Sq.b 62 16777215) HT_.out ?_
  refine roadbookref12_Right.und 24 (some 27) (Sq.b 62 33554431) HT_.out ?_
  refine roadbookref12_Right.und 25 (some 28) (Sq.b 62 67108863) HT_.out ?_
  refine Sq.pur 26 (some 29) (Sq.b 62 134217727) HT_.out ?_
  refine Sq.pur 27 (some 30) (Sq.b 62 268435455) HT_.out ?_
  refine roadbookref12_Right.und 28 (some 31) (Sq.b 62 536870911) HT_.out ?_
  refine roadbookref12_Right.und 29 (some 32) (Sq.b 62 1073741823) HT_.out ?_
  refine roadbookref12_Right.und 30 (some 33) (Sq.b 62 2147483647) HT_.out ?_
  refine Sq.pur 31 (some 34) (Sq.b 62 4294967295) HT_.out ?_
  refine Sq.pur 32 (some 35) (Sq.b 62 8589934591) HT_.out ?_
  refine roadbookref12_Right.und 33 (some 36) (Sq.b 62 17179869183) HT_.out ?_
  refine roadbookref12_Right.und 34 (some 37) (Sq.b 62 34359738367) HT_.out ?_
  refine roadbookref12_Right.und 35 (some 38) (Sq.b 62 68719476735) HT_.out ?_
  refine Sq.pur 36 (some 39) (Sq.b 62 137438953471) HT_.out ?_
  refine Sq.pur 37 (some 40) (Sq.b 62 274877906943) HT_.out ?_
  refine roadbookref12_Right.und 38 (some 41) (Sq.b 62 549755813887) HT_.out ?_
  refine roadbookref12_Right.und 39 (some 42) (Sq.b 62 1099511627775) HT_.out ?_
  refine roadbookref12_Right.und 40 (some 43) (Sq.b 62 2199023255551) HT_.out ?_
  refine roadbookref12_Right.und 41 (some 44) (Sq.b 62 4398046511103) HT_.out ?_
  refine Sq.pur 42 (some 45) (Sq.b 62 8796093022207) HT_.out ?_
  refine Sq.pur 43 (some 46) (Sq.b 62 17592186044415) HT_.out ?_
  refine roadbookref12_Right.und 44 (some 47) (Sq.b 62 35184372088831) HT_.out ?_
  refine roadbookref12_Right.und 45 (some 48) (Sq.b 62 70368744177663) HT_.out ?_
  refine roadbookref12_Right.und 46 (some 49) (Sq.b 62 140737488355327) HT_.out ?_
  refine roadbookref12_Right.und 47 (some 50) (Sq.b 62 281474976710655) HT_.out ?_
  refine roadbookref12_Right.und 48 (some 51) (Sq.b 62 562949953421311) HT_.out ?_
  refine Sq.pur 49 (some 52) (Sq.b 62 1125899906842623) HT_.out ?_
  refine Sq.pur 50 (some 53) (Sq.b 62 2251799813685247) HT_.out ?_
  refine roadbookref12_Right.und 51 (some 54) (Sq.b 62 4503599627370495) HT_.out ?_
  refine roadbookref12_Right.und 52 (some 55) (Sq.b 62 9007199254740991) HT_.out ?_
  refine roadbookref12_Right.und 53 (some 56) (Sq.b 62 18014398509481983) HT_.out ?_
  refine roadbookref12_Right.und 54 (some 57) (Sq.b 62 36028797018963967) HT_.out ?_
  refine roadbookref12_Right.und 55 (some 58) (Sq.b 62 72057594037927935) HT_.out ?_
  refine roadbookref12_Right.und 56 (some 59) (Sq.b 62 144115188075855871) HT_.out ?_
  refine roadbookref12_Right.und 57 (some 60) (Sq.b 62 288230376151711743) HT_.out ?_
  refine roadbookref12_Right.und 58 (some 61) (Sq.b 62 576460752303423487) HT_.out ?_
  refine roadbookref12_Right.und 59 (some 62) (Sq.b 62 1152921504606846975) HT_.out ?_
  refine Sq.pur 60 (some 63) (Sq.b 62 2305843009213693951) HT_.out ?_
  refine Sq.pur 61 (some 2) (Sq.b 62 4611686018427387903) HT_.out ?_
  refine done_ (done_of HT_.out Z16) ?_
  go_wp2
  go_ret
  exact ⟨rfl, Z0⟩
 rw [if_pos c] at H
 have e3 : decide (aq ≤ 2) = true := decide_eq_true c
 have HA := Aside0.mk H
 clear c H
 refine Sq.pur 15 (some 18) (Sq.b 62 65535) HT_.out ?_
 refine Sq.pur 16 (some 19) (Sq.b 62 131071) HT_.out ?_
 refine Sq.pur 17 (some 20) (Sq.b 62 262143) HT_.out ?_
 refine Sq.pur 18 (some 21) (Sq.b 62 524287) HT_.out ?_
 refine Sq.tak 19 (some 22) (Sq.b 62 1048575) HT_.out HW_.out hHeld (v := ?_) (a' := ?_) ?_ ?_ ?_
 rotate_left
 ·rintro w' ⟨s0, s1, s2, s3, s4, s5, s6, s7⟩
  first | (refine Eq.trans (Pre.load_run (ty := 34) rfl Z27 (by with_reducible assumption) Try.underlying34 rfl Z16) ?_; with_reducible rfl) | (go_simp; with_reducible rfl)
 rotate_left
 ·simp only [Act.put, Sq.s1, Sq.s2, Sq.s3, i64_w, i32_w]
  rfl
 have H := HA.out
 clear HA
 by_cases c : ay ≥ 0
 rotate_left
 ·rw [if_neg c] at H
  have e4 : decide (0 ≤ ay) = false := decide_eq_false c
  obtain rfl := Option.some.inj H
  clear c H
  refine Sq.pur 20 (some 23) (Sq.b 62 2097151) HT_.out ?_
  refine Sq.pur 21 (some 24) (Sq.b 62 4194303) HT_.out ?_
  refine Sq.pur 22 (some 25) (Sq.b 62 8388607) HT_.out ?_
  refine roadbookref12_Right.und 23 (some 26) (Sq.b 62 16777215) HT_.out ?_
  refine roadbookref12_Right.und 24 (some 27) (Sq.b 62 33554431) HT_.out ?_
  refine roadbookref12_Right.und 25 (some 28) (Sq.b 62 67108863) HT_.out ?_
  refine Sq.pur 26 (some 29) (Sq.b 62 134217727) HT_.out ?_
  refine Sq.pur 27 (some 30) (Sq.b 62 268435455) HT_.out ?_
  refine roadbookref12_Right.und 28 (some 31) (Sq.b 62 536870911) HT_.out ?_
  refine roadbookref12_Right.und 29 (some 32) (Sq.b 62 1073741823) HT_.out ?_
  refine roadbookref12_Right.und 30 (some 33) (Sq.b 62 2147483647) HT_.out ?_
  refine Sq.pur 31 (some 34) (Sq.b 62 4294967295) HT_.out ?_
  refine Sq.pur 32 (some 35) (Sq.b 62 8589934591) HT_.out ?_
  refine roadbookref12_Right.und 33 (some 36) (Sq.b 62 17179869183) HT_.out ?_
  refine roadbookref12_Right.und 34 (some 37) (Sq.b 62 34359738367) HT_.out ?_
  refine roadbookref12_Right.und 35 (some 38) (Sq.b 62 68719476735) HT_.out ?_
  refine Sq.pur 36 (some 39) (Sq.b 62 137438953471) HT_.out ?_
  refine Sq.pur 37 (some 40) (Sq.b 62 274877906943) HT_.out ?_
  refine roadbookref12_Right.und 38 (some 41) (Sq.b 62 549755813887) HT_.out ?_
  refine roadbookref12_Right.und 39 (some 42) (Sq.b 62 1099511627775) HT_.out ?_
  refine roadbookref12_Right.und 40 (some 43) (Sq.b 62 2199023255551) HT_.out ?_
  refine roadbookref12_Right.und 41 (some 44) (Sq.b 62 4398046511103) HT_.out ?_
  refine Sq.pur 42 (some 45) (Sq.b 62 8796093022207) HT_.out ?_
  refine Sq.pur 43 (some 46) (Sq.b 62 17592186044415) HT_.out ?_
  refine roadbookref12_Right.und 44 (some 47) (Sq.b 62 35184372088831) HT_.out ?_
  refine roadbookref12_Right.und 45 (some 48) (Sq.b 62 70368744177663) HT_.out ?_
  refine roadbookref12_Right.und 46 (some 49) (Sq.b 62 140737488355327) HT_.out ?_
  refine roadbookref12_Right.und 47 (some 50) (Sq.b 62 281474976710655) HT_.out ?_
  refine roadbookref12_Right.und 48 (some 51) (Sq.b 62 562949953421311) HT_.out ?_
  refine Sq.pur 49 (some 52) (Sq.b 62 1125899906842623) HT_.out ?_
  refine Sq.pur 50 (some 53) (Sq.b 62 2251799813685247) HT_.out ?_
  refine roadbookref12_Right.und 51 (some 54) (Sq.b 62 4503599627370495) HT_.out ?_
  refine roadbookref12_Right.und 52 (some 55) (Sq.b 62 9007199254740991) HT_.out ?_
  refine roadbookref12_Right.und 53 (some 56) (Sq.b 62 18014398509481983) HT_.out ?_
  refine roadbookref12_Right.und 54 (some 57) (Sq.b 62 36028797018963967) HT_.out ?_
  refine roadbookref12_Right.und 55 (some 58) (Sq.b 62 72057594037927935) HT_.out ?_
  refine roadbookref12_Right.und 56 (some 59) (Sq.b 62 144115188075855871) HT_.out ?_
  refine roadbookref12_Right.und 57 (some 60) (Sq.b 62 288230376151711743) HT_.out ?_
  refine roadbookref12_Right.und 58 (some 61) (Sq.b 62 576460752303423487) HT_.out ?_
  refine roadbookref12_Right.und 59 (some 62) (Sq.b 62 1152921504606846975) HT_.out ?_
  refine Sq.pur 60 (some 63) (Sq.b 62 2305843009213693951) HT_.out ?_
  refine Sq.pur 61 (some 2) (Sq.b 62 4611686018427387903) HT_.out ?_
  refine done_ (done_of HT_.out Z16) ?_
  go_wp2
  go_ret
  exact ⟨rfl, Z0⟩
 rw [if_pos c] at H
 have e4 : decide (0 ≤ ay) = true := decide_eq_true c
 have HA := Aside0.mk H
 clear c H
 refine Sq.pur 20 (some 23) (Sq.b 62 2097151) HT_.out ?_
 refine Sq.pur 21 (some 24) (Sq.b 62 4194303) HT_.out ?_
 refine Sq.pur 22 (some 25) (Sq.b 62 8388607) HT_.out ?_
 refine Sq.pur 23 (some 26) (Sq.b 62 16777215) HT_.out ?_
 refine Sq.tak 24 (some 27) (Sq.b 62 33554431) HT_.out HW_.out hHeld (v := ?_) (a' := ?_) ?_ ?_ ?_
 rotate_left
 ·rintro w' ⟨s0, s1, s2, s3, s4, s5, s6, s7⟩
  first | (refine Eq.trans (Pre.load_run (ty := 34) rfl Z27 (by with_reducible assumption) Try.underlying34 rfl Z16) ?_; with_reducible rfl) | (go_simp; with_reducible rfl)
 rotate_left
 ·simp only [Act.put, Sq.s1, Sq.s2, Sq.s3, i64_w, i32_w]
  rfl
 have H := HA.out
 clear HA
 by_cases c : ay ≤ 65535
 rotate_left
 ·rw [if_neg c] at H
  have e5 : decide (ay ≤ 65535) = false := decide_eq_false c
  obtain rfl := Option.some.inj H
  clear c H
  refine Sq.pur 25 (some 28) (Sq.b 62 67108863) HT_.out ?_
  refine Sq.pur 26 (some 29) (Sq.b 62 134217727) HT_.out ?_
  refine Sq.pur 27 (some 30) (Sq.b 62 268435455) HT_.out ?_
  refine roadbookref12_Right.und 28 (some 31) (Sq.b 62 536870911) HT_.out ?_
  refine roadbookref12_Right.und 29 (some 32) (Sq.b 62 1073741823) HT_.out ?_
  refine roadbookref12_Right.und 30 (some 33) (Sq.b 62 2147483647) HT_.out ?_
  refine Sq.pur 31 (some 34) (Sq.b 62 4294967295) HT_.out ?_
  refine Sq.pur 32 (some 35) (Sq.b 62 8589934591) HT_.out ?_
  refine roadbookref12_Right.und 33 (some 36) (Sq.b 62 17179869183) HT_.out ?_
  refine roadbookref12_Right.und 34 (some 37) (Sq.b 62 34359738367) HT_.out ?_
  refine roadbookref12_Right.und 35 (some 38) (Sq.b 62 68719476735) HT_.out ?_
  refine Sq.pur 36 (some 39) (Sq.b 62 137438953471) HT_.out ?_
  refine Sq.pur 37 (some 40) (Sq.b 62 274877906943) HT_.out ?_
  refine roadbookref12_Right.und 38 (some 41) (Sq.b 62 549755813887) HT_.out ?_
  refine roadbookref12_Right.und 39 (some 42) (Sq.b 62 1099511627775) HT_.out ?_
  refine roadbookref12_Right.und 40 (some 43) (Sq.b 62 2199023255551) HT_.out ?_
  refine roadbookref12_Right.und 41 (some 44) (Sq.b 62 4398046511103) HT_.out ?_
  refine Sq.pur 42 (some 45) (Sq.b 62 8796093022207) HT_.out ?_
  refine Sq.pur 43 (some 46) (Sq.b 62 17592186044415) HT_.out ?_
  refine roadbookref12_Right.und 44 (some 47) (Sq.b 62 35184372088831) HT_.out ?_
  refine roadbookref12_Right.und 45 (some 48) (Sq.b 62 70368744177663) HT_.out ?_
  refine roadbookref12_Right.und 46 (some 49) (Sq.b 62 140737488355327) HT_.out ?_
  refine roadbookref12_Right.und 47 (some 50) (Sq.b 62 281474976710655) HT_.out ?_
  refine roadbookref12_Right.und 48 (some 51) (Sq.b 62 562949953421311) HT_.out ?_
  refine Sq.pur 49 (some 52) (Sq.b 62 1125899906842623) HT_.out ?_
  refine Sq.pur 50 (some 53) (Sq.b 62 2251799813685247) HT_.out ?_
  refine roadbookref12_Right.und 51 (some 54) (Sq.b 62 4503599627370495) HT_.out ?_
  refine roadbookref12_Right.und 52 (some 55) (Sq.b 62 9007199254740991) HT_.out ?_
  refine roadbookref12_Right.und 53 (some 56) (Sq.b 62 18014398509481983) HT_.out ?_
  refine roadbookref12_Right.und 54 (some 57) (Sq.b 62 36028797018963967) HT_.out ?_
  refine roadbookref12_Right.und 55 (some 58) (Sq.b 62 72057594037927935) HT_.out ?_
  refine roadbookref12_Right.und 56 (some 59) (Sq.b 62 144115188075855871) HT_.out ?_
  refine roadbookref12_Right.und 57 (some 60) (Sq.b 62 288230376151711743) HT_.out ?_
  refine roadbookref12_Right.und 58 (some 61) (Sq.b 62 576460752303423487) HT_.out ?_
  refine roadbookref12_Right.und 59 (some 62) (Sq.b 62 1152921504606846975) HT_.out ?_
  refine Sq.pur 60 (some 63) (Sq.b 62 2305843009213693951) HT_.out ?_
  refine Sq.pur 61 (some 2) (Sq.b 62 4611686018427387903) HT_.out ?_
  refine done_ (done_of HT_.out Z16) ?_
  go_wp2
  go_ret
  exact ⟨rfl, Z0⟩
 rw [if_pos c] at H
 have e5 : decide (ay ≤ 65535) = true := decide_eq_true c
 have HA := Aside0.mk H
 clear c H
 refine Sq.pur 25 (some 28) (Sq.b 62 67108863) HT_.out ?_
 refine Sq.pur 26 (some 29) (Sq.b 62 134217727) HT_.out ?_
 refine Sq.pur 27 (some 30) (Sq.b 62 268435455) HT_.out ?_
 refine Sq.pur 28 (some 31) (Sq.b 62 536870911) HT_.out ?_
 refine Sq.tak 29 (some 32) (Sq.b 62 1073741823) HT_.out HW_.out hHeld (v := ?_) (a' := ?_) ?_ ?_ ?_
 rotate_left
 ·rintro w' ⟨s0, s1, s2, s3, s4, s5, s6, s7⟩
  first | (refine Eq.trans (Pre.load_run (ty := 34) rfl Z27 (by with_reducible assumption) Try.underlying34 rfl Z16) ?_; with_reducible rfl) | (go_simp; with_reducible rfl)
 rotate_left
 ·simp only [Act.put, Sq.s1, Sq.s2, Sq.s3, i64_w, i32_w]
  rfl
 have H := HA.out
 clear HA
 by_cases c : ag ≥ 1
 rotate_left
 ·rw [if_neg c] at H
  have e6 : decide (1 ≤ ag) = false := decide_eq_false c
  obtain rfl := Option.some.inj H
  clear c H
  refine Sq.pur 30 (some 33) (Sq.b 62 2147483647) HT_.out ?_
  refine Sq.pur 31 (some 34) (Sq.b 62 4294967295) HT_.out ?_
  refine Sq.pur 32 (some 35) (Sq.b 62 8589934591) HT_.out ?_
  refine roadbookref12_Right.und 33 (some 36) (Sq.b 62 17179869183) HT_.out ?_
  refine roadbookref12_Right.und 34 (some 37) (Sq.b 62 34359738367) HT_.out ?_
  refine roadbookref12_Right.und 35 (some 38) (Sq.b 62 68719476735) HT_.out ?_
  refine Sq.pur 36 (some 39) (Sq.b 62 137438953471) HT_.out ?_
  refine Sq.pur 37 (some 40) (Sq.b 62 274877906943) HT_.out ?_
  refine roadbookref12_Right.und 38 (some 41) (Sq.b 62 549755813887) HT_.out ?_
  refine roadbookref12_Right.und 39 (some 42) (Sq.b 62 1099511627775) HT_.out ?_
  refine roadbookref12_Right.und 40 (some 43) (Sq.b 62 2199023255551) HT_.out ?_
  refine roadbookref12_Right.und 41 (some 44) (Sq.b 62 4398046511103) HT_.out ?_
  refine Sq.pur 42 (some 45) (Sq.b 62 8796093022207) HT_.out ?_
  refine Sq.pur 43 (some 46) (Sq.b 62 17592186044415) HT_.out ?_
  refine roadbookref12_Right.und 44 (some 47) (Sq.b 62 35184372088831) HT_.out ?_
  refine roadbookref12_Right.und 45 (some 48) (Sq.b 62 70368744177663) HT_.out ?_
  refine roadbookref12_Right.und 46 (some 49) (Sq.b 62 140737488355327) HT_.out ?_
  refine roadbookref12_Right.und 47 (some 50) (Sq.b 62 281474976710655) HT_.out ?_
  refine roadbookref12_Right.und 48 (some 51) (Sq.b 62 562949953421311) HT_.out ?_
  refine Sq.pur 49 (some 52) (Sq.b 62 1125899906842623) HT_.out ?_
  refine Sq.pur 50 (some 53) (Sq.b 62 2251799813685247) HT_.out ?_
  refine roadbookref12_Right.und 51 (some 54) (Sq.b 62 4503599627370495) HT_.out ?_
  refine roadbookref12_Right.und 52 (some 55) (Sq.b 62 9007199254740991) HT_.out ?_
  refine roadbookref12_Right.und 53 (some 56) (Sq.b 62 18014398509481983) HT_.out ?_
  refine roadbookref12_Right.und 54 (some 57) (Sq.b 62 36028797018963967) HT_.out ?_
  refine roadbookref12_Right.und 55 (some 58) (Sq.b 62 72057594037927935) HT_.out ?_
  refine roadbookref12_Right.und 56 (some 59) (Sq.b 62 144115188075855871) HT_.out ?_
  refine roadbookref12_Right.und 57 (some 60) (Sq.b 62 288230376151711743) HT_.out ?_
  refine roadbookref12_Right.und 58 (some 61) (Sq.b 62 576460752303423487) HT_.out ?_
  refine roadbookref12_Right.und 59 (some 62) (Sq.b 62 1152921504606846975) HT_.out ?_
  refine Sq.pur 60 (some 63) (Sq.b 62 2305843009213693951) HT_.out ?_
  refine Sq.pur 61 (some 2) (Sq.b 62 4611686018427387903) HT_.out ?_
  refine done_ (done_of HT_.out Z16) ?_
  go_wp2
  go_ret
  exact ⟨rfl, Z0⟩
 rw [if_pos c] at H
 have e6 : decide (1 ≤ ag) = true := decide_eq_true c
 have HA := Aside0.mk H
 clear c H
 refine Sq.pur 30 (some 33) (Sq.b 62 2147483647) HT_.out ?_
 refine Sq.pur 31 (some 34) (Sq.b 62 4294967295) HT_.out ?_
 refine Sq.pur 32 (some 35) (Sq.b 62 8589934591) HT_.out ?_
 refine Sq.pur 33 (some 36) (Sq.b 62 17179869183) HT_.out ?_
 refine Sq.tak 34 (some 37) (Sq.b 62 34359738367) HT_.out HW_.out hHeld (v := ?_) (a' := ?_) ?_ ?_ ?_
 rotate_left
 ·rintro w' ⟨s0, s1, s2, s3, s4, s5, s6, s7⟩
  first | (refine Eq.trans (Pre.load_run (ty := 34) rfl Z27 (by with_reducible assumption) Try.underlying34 rfl Z16) ?_; with_reducible rfl) | (go_simp; with_reducible rfl)
 rotate_left
 ·simp only [Act.put, Sq.s1, Sq.s2, Sq.s3, i64_w, i32_w]
  rfl
 have H := HA.out
 clear HA
 by_cases c : ag ≤ 16
 rotate_left
 ·rw [if_neg c] at H
  have e7 : decide (ag ≤ 16) = false := decide_eq_false c
  obtain rfl := Option.some.inj H
  clear c H
  refine Sq.pur 35 (some 38) (Sq.b 62 68719476735) HT_.out ?_
  refine Sq.pur 36 (some 39) (Sq.b 62 137438953471) HT_.out ?_
  refine Sq.pur 37 (some 40) (Sq.b 62 274877906943) HT_.out ?_
  refine roadbookref12_Right.und 38 (some 41) (Sq.b 62 549755813887) HT_.out ?_
  refine roadbookref12_Right.und 39 (some 42) (Sq.b 62 1099511627775) HT_.out ?_
  refine roadbookref12_Right.und 40 (some 43) (Sq.b 62 2199023255551) HT_.out ?_
  refine roadbookref12_Right.und 41 (some 44) (Sq.b 62 4398046511103) HT_.out ?_
  refine Sq.pur 42 (some 45) (Sq.b 62 8796093022207) HT_.out ?_
  refine Sq.pur 43 (some 46) (Sq.b 62 17592186044415) HT_.out ?_
  refine roadbookref12_Right.und 44 (some 47) (Sq.b 62 35184372088831) HT_.out ?_
  refine roadbookref12_Right.und 45 (some 48) (Sq.b 62 70368744177663) HT_.out ?_
  refine roadbookref12_Right.und 46 (some 49) (Sq.b 62 140737488355327) HT_.out ?_
  refine roadbookref12_Right.und 47 (some 50) (Sq.b 62 281474976710655) HT_.out ?_
  refine roadbookref12_Right.und 48 (some 51) (Sq.b 62 562949953421311) HT_.out ?_
  refine Sq.pur 49 (some 52) (Sq.b 62 1125899906842623) HT_.out ?_
  refine Sq.pur 50 (some 53) (Sq.b 62 2251799813685247) HT_.out ?_
  refine roadbookref12_Right.und 51 (some 54) (Sq.b 62 4503599627370495) HT_.out ?_
  refine roadbookref12_Right.und 52 (some 55) (Sq.b 62 9007199254740991) HT_.out ?_
  refine roadbookref12_Right.und 53 (some 56) (Sq.b 62 18014398509481983) HT_.out ?_
  refine roadbookref12_Right.und 54 (some 57) (Sq.b 62 36028797018963967) HT_.out ?_
  refine roadbookref12_Right.und 55 (some 58) (Sq.b 62 72057594037927935) HT_.out ?_
  refine roadbookref12_Right.und 56 (some 59) (Sq.b 62 144115188075855871) HT_.out ?_
  refine roadbookref12_Right.und 57 (some 60) (Sq.b 62 288230376151711743) HT_.out ?_
  refine roadbookref12_Right.und 58 (some 61) (Sq.b 62 576460752303423487) HT_.out ?_
  refine roadbookref12_Right.und 59 (some 62) (Sq.b 62 1152921504606846975) HT_.out ?_
  refine Sq.pur 60 (some 63) (Sq.b 62 2305843009213693951) HT_.out ?_
  refine Sq.pur 61 (some 2) (Sq.b 62 4611686018427387903) HT_.out ?_
  refine done_ (done_of HT_.out Z16) ?_
  go_wp2
  go_ret
  exact ⟨rfl, Z0⟩
 rw [if_pos c] at H
 have e7 : decide (ag ≤ 16) = true := decide_eq_true c
 have HA := Aside0.mk H
 clear c H
 refine Sq.pur 35 (some 38) (Sq.b 62 68719476735) HT_.out ?_
 refine Sq.pur 36 (some 39) (Sq.b 62 137438953471) HT_.out ?_
 refine Sq.pur 37 (some 40) (Sq.b 62 274877906943) HT_.out ?_
 refine Sq.pur 38 (some 41) (Sq.b 62 549755813887) HT_.out ?_
 refine Sq.tak 39 (some 42) (Sq.b 62 1099511627775) HT_.out HW_.out hHeld (v := ?_) (a' := ?_) ?_ ?_ ?_
 rotate_left
 ·rintro w' ⟨s0, s1, s2, s3, s4, s5, s6, s7⟩
  first | (refine Eq.trans (Pre.load_run (ty := 34) rfl Z27 (by with_reducible assumption) Try.underlying34 rfl Z16) ?_; with_reducible rfl) | (go_simp; with_reducible rfl)
 rotate_left
 ·simp only [Act.put, Sq.s1, Sq.s2, Sq.s3, i64_w, i32_w]
  rfl
 refine Sq.pur 40 (some 43) (Sq.b 62 2199023255551) HT_.out ?_
 have H := HA.out
 clear HA
 by_cases c : (aC.size : Int) = 16
 rotate_left
 ·rw [if_neg c] at H
  have e8 : ((aC.size : Int) == 16) = false := beq_eq_false_iff_ne.mpr c
  obtain rfl := Option.some.inj H
  clear c H
  refine Sq.pur 41 (some 44) (Sq.b 62 4398046511103) HT_.out ?_
  refine Sq.pur 42 (some 45) (Sq.b 62 8796093022207) HT_.out ?_
  refine Sq.pur 43 (some 46) (Sq.b 62 17592186044415) HT_.out ?_
  refine roadbookref12_Right.und 44 (some 47) (Sq.b 62 35184372088831) HT_.out ?_
  refine roadbookref12_Right.und 45 (some 48) (Sq.b 62 70368744177663) HT_.out ?_
  refine roadbookref12_Right.und 46 (some 49) (Sq.b 62 140737488355327) HT_.out ?_
  refine roadbookref12_Right.und 47 (some 50) (Sq.b 62 281474976710655) HT_.out ?_
  refine roadbookref12_Right.und 48 (some 51) (Sq.b 62 562949953421311) HT_.out ?_
  refine Sq.pur 49 (some 52) (Sq.b 62 1125899906842623) HT_.out ?_
  refine Sq.pur 50 (some 53) (Sq.b 62 2251799813685247) HT_.out ?_
  refine roadbookref12_Right.und 51 (some 54) (Sq.b 62 4503599627370495) HT_.out ?_
  refine roadbookref12_Right.und 52 (some 55) (Sq.b 62 9007199254740991) HT_.out ?_
  refine roadbookref12_Right.und 53 (some 56) (Sq.b 62 18014398509481983) HT_.out ?_
  refine roadbookref12_Right.und 54 (some 57) (Sq.b 62 36028797018963967) HT_.out ?_
  refine roadbookref12_Right.und 55 (some 58) (Sq.b 62 72057594037927935) HT_.out ?_
  refine roadbookref12_Right.und 56 (some 59) (Sq.b 62 144115188075855871) HT_.out ?_
  refine roadbookref12_Right.und 57 (some 60) (Sq.b 62 288230376151711743) HT_.out ?_
  refine roadbookref12_Right.und 58 (some 61) (Sq.b 62 576460752303423487) HT_.out ?_
  refine roadbookref12_Right.und 59 (some 62) (Sq.b 62 1152921504606846975) HT_.out ?_
  refine Sq.pur 60 (some 63) (Sq.b 62 2305843009213693951) HT_.out ?_
  refine Sq.pur 61 (some 2) (Sq.b 62 4611686018427387903) HT_.out ?_
  refine done_ (done_of HT_.out Z16) ?_
  go_wp2
  go_ret
  exact ⟨rfl, Z0⟩
 rw [if_pos c] at H
 have e8 : ((aC.size : Int) == 16) = true := beq_iff_eq.mpr c
 have HA := Aside0.mk H
 clear c H
 refine Sq.pur 41 (some 44) (Sq.b 62 4398046511103) HT_.out ?_
 refine Sq.pur 42 (some 45) (Sq.b 62 8796093022207) HT_.out ?_
 refine Sq.pur 43 (some 46) (Sq.b 62 17592186044415) HT_.out ?_
 refine Sq.pur 44 (some 47) (Sq.b 62 35184372088831) HT_.out ?_
 refine Sq.pur 46 (some 49) (Sq.b 62 105553116266495) HT_.out ?_
 refine Sq.tak 45 (some 48) (Sq.b 62 140737488355327) HT_.out HW_.out hHeld (v := ?_) (a' := ?_) ?_ ?_ ?_
 rotate_left
 ·rintro w' ⟨s0, s1, s2, s3, s4, s5, s6, s7⟩
  first | (refine Eq.trans (Pre.load_run (ty := 34) rfl Z27 (by with_reducible assumption) Try.underlying34 rfl Z16) ?_; with_reducible rfl) | (go_simp; with_reducible rfl)
 rotate_left
 ·simp only [Act.put, Sq.s1, Sq.s2, Sq.s3, i64_w, i32_w]
  rfl
 refine Sq.tak 47 (some 50) (Sq.b 62 281474976710655) HT_.out HW_.out hHeld (v := ?_) (a' := ?_) ?_ ?_ ?_
 rotate_left
 ·rintro w' ⟨s0, s1, s2, s3, s4, s5, s6, s7⟩
  first | (refine Eq.trans (Pre.load_run (ty := 34) rfl Z27 (by with_reducible assumption) Try.underlying34 rfl Z16) ?_; with_reducible rfl) | (go_simp; with_reducible rfl)
 rotate_left
 ·simp only [Act.put, Sq.s1, Sq.s2, Sq.s3, i64_w, i32_w]
  rfl
 obtain ⟨p, c, H⟩ := Option.bind_eq_some_iff.mp HA.out
 have A4 := Aside0.mk c
 clear HA c
 have HA := Aside0.mk H
 clear H
 refine one_ (i := 48) (N := some 51) (Sq.b 62 562949953421311) rfl rfl (one_of HT_.out Z16) Z18 (fun K hK => ?_)
 refine goes_ Try.func24 Z16 rfl #[.string aC, .int .i64 aD] Z27 rfl rfl Z4 ?_
 with_reducible refine (roadbookref04_Right.calls k aC aD p _ A4.out).mono ?_
 rintro e w2 ⟨rfl, hb⟩
 refine ⟨_, rfl, ?_⟩
 replace BK := Aside0.mk (blk_below (g := g) BK.out hb)
 replace HB := Aside0.mk (below_step HB.out hb)
 clear hb
 refine hK.out _ _ ⟨BK.out, Sq.bc BK 0, Sq.bc BK 1, Sq.bc BK 6, Sq.bc BK 7, Sq.bc BK 8, Sq.bc BK 9, Sq.bc BK 10⟩ (fun hHeld => ?_)
 clear hK K
 refine norm_ (a' := ?_) ?_ ?_
 rotate_left
 ·show Act.put _ (some 51) _ = _
  simp only [Act.put, Sq.s1, Sq.s2, Sq.s3, i64_w, i32_w]
  rfl
 have H := HA.out
 clear HA
 cases p
 ·replace H := (if_neg Bool.false_ne_true).symm.trans H
  obtain rfl := Option.some.inj H
  clear H
  refine Sq.pur 49 (some 52) (Sq.b 62 1125899906842623) HT_.out ?_
  refine Sq.pur 50 (some 53) (Sq.b 62 2251799813685247) HT_.out ?_
  refine roadbookref12_Right.und 51 (some 54) (Sq.b 62 4503599627370495) HT_.out ?_
  refine roadbookref12_Right.und 52 (some 55) (Sq.b 62 9007199254740991) HT_.out ?_
  refine roadbookref12_Right.und 53 (some 56) (Sq.b 62 18014398509481983) HT_.out ?_
  refine roadbookref12_Right.und 54 (some 57) (Sq.b 62 36028797018963967) HT_.out ?_
  refine roadbookref12_Right.und 55 (some 58) (Sq.b 62 72057594037927935) HT_.out ?_
  refine roadbookref12_Right.und 56 (some 59) (Sq.b 62 144115188075855871) HT_.out ?_
  refine roadbookref12_Right.und 57 (some 60) (Sq.b 62 288230376151711743) HT_.out ?_
  refine roadbookref12_Right.und 58 (some 61) (Sq.b 62 576460752303423487) HT_.out ?_
  refine roadbookref12_Right.und 59 (some 62) (Sq.b 62 1152921504606846975) HT_.out ?_
  refine Sq.pur 60 (some 63) (Sq.b 62 2305843009213693951) HT_.out ?_
  refine Sq.pur 61 (some 2) (Sq.b 62 4611686018427387903) HT_.out ?_
  refine done_ (done_of HT_.out Z16) ?_
  go_wp2
  go_ret
  exact ⟨rfl, Z0⟩
 replace H := (if_pos rfl).symm.trans H
 have HA := Aside0.mk H
 clear H
 refine Sq.pur 49 (some 52) (Sq.b 62 1125899906842623) HT_.out ?_
 refine Sq.pur 50 (some 53) (Sq.b 62 2251799813685247) HT_.out ?_
 refine Sq.pur 51 (some 54) (Sq.b 62 4503599627370495) HT_.out ?_
 refine Sq.tak 52 (some 55) (Sq.b 62 9007199254740991) HT_.out HW_.out hHeld (v := ?_) (a' := ?_) ?_ ?_ ?_
 rotate_left
 ·rintro w' ⟨s0, s1, s2, s3, s4, s5, s6, s7⟩
  first | (refine Eq.trans (Pre.load_run (ty := 34) rfl Z27 (by with_reducible assumption) Try.underlying34 rfl Z16) ?_; with_reducible rfl) | (go_simp; with_reducible rfl)
 rotate_left
 ·simp only [Act.put, Sq.s1, Sq.s2, Sq.s3, i64_w, i32_w]
  rfl
 obtain ⟨z, c, H⟩ := Option.bind_eq_some_iff.mp HA.out
 have A5 := Aside0.mk c
 clear HA c
 have HA := Aside0.mk H
 clear H
 refine one_ (i := 53) (N := some 56) (Sq.b 62 18014398509481983) rfl rfl (one_of HT_.out Z16) Z18 (fun K hK => ?_)
 refine goes_ Try.func21 Z16 rfl #[] Z27 rfl rfl Z4 ?_
 with_reducible refine (roadbookref12_none.calls z _ A5.out).mono ?_
 rintro e w2 ⟨rfl, hb⟩
 refine ⟨_, rfl, ?_⟩
 replace BK := Aside0.mk (blk_below (g := g) BK.out hb)
 replace HB := Aside0.mk (below_step HB.out hb)
 clear hb
 refine hK.out _ _ ⟨BK.out, Sq.bc BK 0, Sq.bc BK 1, Sq.bc BK 6, Sq.bc BK 7, Sq.bc BK 8, Sq.bc BK 9, Sq.bc BK 10⟩ (fun hHeld => ?_)
 clear hK K
 refine norm_ (a' := ?_) ?_ ?_
 rotate_left
 ·show Act.put _ (some 56) _ = _
  simp only [Act.put, Sq.s1, Sq.s2, Sq.s3, i64_w, i32_w]
  rfl
 have H := HA.out
 clear HA
 by_cases c : az.toList = z.toList
 ·rw [if_pos c] at H
  have e20 : (az.toList == z.toList) = true := beq_iff_eq.mpr c
  obtain rfl := Option.some.inj H
  clear c H
  refine Sq.pur 54 (some 57) (Sq.b 62 36028797018963967) HT_.out ?_
  refine Sq.pur 55 (some 58) (Sq.b 62 72057594037927935) HT_.out ?_
  refine roadbookref12_Right.und 56 (some 59) (Sq.b 62 144115188075855871) HT_.out ?_
  refine roadbookref12_Right.und 57 (some 60) (Sq.b 62 288230376151711743) HT_.out ?_
  refine roadbookref12_Right.und 58 (some 61) (Sq.b 62 576460752303423487) HT_.out ?_
  refine Sq.pur 59 (some 62) (Sq.b 62 1152921504606846975) HT_.out ?_
  refine Sq.pur 60 (some 63) (Sq.b 62 2305843009213693951) HT_.out ?_
  refine Sq.pur 61 (some 2) (Sq.b 62 4611686018427387903) HT_.out ?_
  refine done_ (done_of HT_.out Z16) ?_
  go_wp2
  go_ret
  exact ⟨rfl, Z0⟩
 rw [if_neg c] at H
 have e20 : (az.toList == z.toList) = false := beq_eq_false_iff_ne.mpr c
 have HA := Aside0.mk H
 clear c H
 obtain ⟨q, c, H⟩ := Option.bind_eq_some_iff.mp HA.out
 have A6 := Aside0.mk c
 clear HA c
 have HA := Aside0.mk H
 clear H
 obtain rfl := Option.some.inj HA.out
 clear HA
 refine Sq.pur 54 (some 57) (Sq.b 62 36028797018963967) HT_.out ?_
 refine Sq.pur 55 (some 58) (Sq.b 62 72057594037927935) HT_.out ?_
 refine Sq.pur 56 (some 59) (Sq.b 62 144115188075855871) HT_.out ?_
 refine Sq.tak 57 (some 60) (Sq.b 62 288230376151711743) HT_.out HW_.out hHeld (v := ?_) (a' := ?_) ?_ ?_ ?_
 rotate_left
 ·rintro w' ⟨s0, s1, s2, s3, s4, s5, s6, s7⟩
  first | (refine Eq.trans (Pre.load_run (ty := 34) rfl Z27 (by with_reducible assumption) Try.underlying34 rfl Z16) ?_; with_reducible rfl) | (go_simp; with_reducible rfl)
 rotate_left
 ·simp only [Act.put, Sq.s1, Sq.s2, Sq.s3, i64_w, i32_w]
  rfl
 refine one_ (i := 58) (N := some 61) (Sq.b 62 576460752303423487) rfl rfl (one_of HT_.out Z16) Z18 (fun K hK => ?_)
 refine goes_ Try.func23 Z16 rfl #[.string az] Z27 rfl rfl Z4 ?_
 with_reducible refine (roadbookref06_Link.calls az q _ A6.out).mono ?_
 rintro e w2 ⟨rfl, hb⟩
 refine ⟨_, rfl, ?_⟩
 replace hb := hb.below
 replace BK := Aside0.mk (blk_below (g := g) BK.out hb)
 replace HB := Aside0.mk (below_step HB.out hb)
 clear hb
 refine hK.out _ _ ⟨BK.out, Sq.bc BK 0, Sq.bc BK 1, Sq.bc BK 6, Sq.bc BK 7, Sq.bc BK 8, Sq.bc BK 9, Sq.bc BK 10⟩ (fun hHeld => ?_)
 clear hK K
 refine norm_ (a' := ?_) ?_ ?_
 rotate_left
 ·show Act.put _ (some 61) _ = _
  simp only [Act.put, Sq.s1, Sq.s2, Sq.s3, i64_w, i32_w]
  rfl
 refine Sq.pur 59 (some 62) (Sq.b 62 1152921504606846975) HT_.out ?_
 refine Sq.pur 60 (some 63) (Sq.b 62 2305843009213693951) HT_.out ?_
 refine Sq.pur 61 (some 2) (Sq.b 62 4611686018427387903) HT_.out ?_
 refine done_ (done_of HT_.out Z16) ?_
 go_wp2
 go_ret
 exact ⟨rfl, Z0⟩

end Go.Proofs.Ytnifhgackjkkbaa.PN
