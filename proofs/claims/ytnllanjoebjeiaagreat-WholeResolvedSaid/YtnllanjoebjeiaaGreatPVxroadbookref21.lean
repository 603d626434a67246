-- Written by mp.py, a program of this work (wip/tools), out of the translation; Lean checks it.
import Derived.Test.YtnllanjoebjeiaaGreatPVxZ
import Derived.Test.YtnllanjoebjeiaaGreatPVxroadbookref03
import Derived.Test.YtnllanjoebjeiaaGreatPVxroadbookref04
import Derived.Test.YtnllanjoebjeiaaGreatPVxroadbookref06
import Derived.Test.YtnllanjoebjeiaaGreatPVxroadbookref08
import Derived.Test.YtnllanjoebjeiaaGreatPVxroadbookref19
import Derived.Test.YtnllanjoebjeiaaGreatBox
namespace Go.Proofs.YtnllanjoebjeiaaGreat.PV
open Go.RowKit Go.Proofs.YtnllanjoebjeiaaGreatW.PrintWords Go.Proofs.YtnllanjoebjeiaaGreatW.PrintLast Go.Proofs.YtnllanjoebjeiaaGreatW.PrintMore
attribute [local go_sem] max2_int min2_int max_two min_two max_three min_three max_four min_four   -- for this text's walks alone
set_option linter.unusedVariables false
set_option linter.unusedSimpArgs false

/-! ### roadbookref21_Base: function 79 -/
def roadbookref21_Base.f (a0 : Int) : Option (Int) := if a0 = 3 then (some 8) else (some 0)
set_option maxHeartbeats 8000000 in
set_option maxRecDepth 100000 in
theorem roadbookref21_Base.calls (a0 : Int) (r : Int) (w : World) (h : roadbookref21_Base.f a0 = some r) :
  Calls Tryz.prog 79 #[.int .i64 a0] w fun e w' => e = .returned (.int .i64 r) ∧ Drawn0 w w' := by
 have H : (if a0 = 3 then (some 8) else (some 0)) = some r := h
 clear h
 by_cases c2 : a0 = 3
 ·rw [if_pos c2] at H
  have cK : (a0 == 3) = true := beq_iff_eq.mpr c2
  have cR : (a0 != 3) = false := bne_eq_false_iff_eq.mpr c2
  clear c2
  obtain rfl := Option.some.inj H
  go_enter Tryz.func79, Tryz.ntmps79
  go_wp2
  go_ret
  exact ⟨Z8, Z11⟩
 ·rw [if_neg c2] at H
  have cK : (a0 == 3) = false := beq_eq_false_iff_ne.mpr c2
  have cR : (a0 != 3) = true := bne_iff_ne.mpr c2
  obtain rfl := Option.some.inj H
  go_enter Tryz.func79, Tryz.ntmps79
  go_wp2
  go_ret
  exact ⟨Z8, Z11⟩

/-! ### roadbookref21_great: function 140 -/
def roadbookref21_great.f (a0 : Int) (a1 : Int) : Option (Bool) := if a0 = 0 then (some (a1 != 0)) else (if a0 = 1 then (some (decide (a1 > 32))) else (if a0 = 2 then (some (decide (a1 > 128))) else (if a1 > 128 then (some true) else (some (decide (a1 < 64))))))
set_option maxHeartbeats 8000000 in
set_option maxRecDepth 100000 in
theorem roadbookref21_great.calls (a0 : Int) (a1 : Int) (r : Bool) (w : World) (h : roadbookref21_great.f a0 a1 = some r) :
  Calls Tryz.prog 140 #[.int .i64 a0, .int .i64 a1] w fun e w' => e = .returned (.bool r) ∧ Drawn0 w w' := by
 have H : (if a0 = 0 then (some (a1 != 0)) else (if a0 = 1 then (some (decide (a1 > 32))) else (if a0 = 2 then (some (decide (a1 > 128))) else (if a1 > 128 then (some true) else (some (decide (a1 < 64))))))) = some r := h
 clear h
 by_cases c3 : a0 = 0
 ·rw [if_pos c3] at H
  have bU : (a0 == 0) = true := beq_iff_eq.mpr c3
  have ck : (a0 != 0) = false := bne_eq_false_iff_eq.mpr c3
  clear c3
  obtain rfl := Option.some.inj H
  go_enter Tryz.func140, Tryz.ntmps140
  go_wp2
  go_ret
  exact ⟨Z8, Z11⟩
 ·rw [if_neg c3] at H
  have bU : (a0 == 0) = false := beq_eq_false_iff_ne.mpr c3
  have ck : (a0 != 0) = true := bne_iff_ne.mpr c3
  by_cases c4 : a0 = 1
  ·rw [if_pos c4] at H
   have bP : (a0 == 1) = true := beq_iff_eq.mpr c4
   have cl : (a0 != 1) = false := bne_eq_false_iff_eq.mpr c4
   clear c4
   obtain rfl := Option.some.inj H
   go_enter Tryz.func140, Tryz.ntmps140
   go_wp2
   go_ret
   exact ⟨Z8, Z11⟩
  ·rw [if_neg c4] at H
   have bP : (a0 == 1) = false := beq_eq_false_iff_ne.mpr c4
   have cl : (a0 != 1) = true := bne_iff_ne.mpr c4
   by_cases c5 : a0 = 2
   ·rw [if_pos c5] at H
    have ca : (a0 == 2) = true := beq_iff_eq.mpr c5
    have dM : (a0 != 2) = false := bne_eq_false_iff_eq.mpr c5
    clear c5
    obtain rfl := Option.some.inj H
    go_enter Tryz.func140, Tryz.ntmps140
    go_wp2
    go_ret
    exact ⟨Z8, Z11⟩
   ·rw [if_neg c5] at H
    have ca : (a0 == 2) = false := beq_eq_false_iff_ne.mpr c5
    have dM : (a0 != 2) = true := bne_iff_ne.mpr c5
    by_cases c6 : a1 > 128
    ·rw [if_pos c6] at H
     have ce : decide (128 < a1) = true := decide_eq_true c6
     clear c6
     obtain rfl := Option.some.inj H
     go_enter Tryz.func140, Tryz.ntmps140
     go_wp2
     go_ret
     exact ⟨Z8, Z11⟩
    ·rw [if_neg c6] at H
     have ce : decide (128 < a1) = false := decide_eq_false c6
     clear c6
     obtain rfl := Option.some.inj H
     go_enter Tryz.func140, Tryz.ntmps140
     go_wp2
     go_ret
     exact ⟨Z8, Z11⟩

/-! ### roadbookref21_Take: function 78 -/
/-- A row of Subs of one's own: where it is, its capacity, and its block. -/
def roadbookref21_Take.Rw (A : Option Addr) (c : Nat) (l : List S80) (rs : List Bx.Box) : Prop := (A = none ∧ l = [] ∧ rs = []) ∨ ∃ g cur, A = some ⟨g, 0, none⟩ ∧ rs = [(g, cur, 80)] ∧ l.length ≤ c ∧ l.length ≤ 9223372036854775807 ∧ ∀ (j : Nat) (x : S80), l[j]? = some x → cur[j * 2]? = some (.int .i64 x.f0) ∧ cur[j * 2 + 1]? = some (.string x.f1)
theorem roadbookref21_Take.of {B : Nat} {w0 w w' : World} {hs : List Bx.Box} {v : Value} {l : List S80} (HO : Aside0 (Bx.Own B w0 w hs)) (hb : Below w.heap.size w w') (hr : Kd.R k80 80 w' w.heap.size (fun _ => True) v l) : ∃ A c rs, v = .slice A l.length c ∧ Aside0 (roadbookref21_Take.Rw A c l rs) ∧ Aside0 (Bx.Own B w0 w' (hs ++ rs)) := by
 have h1 := (Bx.stp HO hb).out
 obtain ⟨_, inner, ⟨hlen, ho⟩, _, hrep⟩ := hr
 rcases ho with ⟨rfl, hn⟩ | ⟨g, cap, cur, rfl, hg, hh, hc, hm, hz, ht⟩
 ·obtain rfl : l = [] := List.length_eq_zero_iff.mp hn
  exact ⟨none, 0, [], rfl, ⟨.inl ⟨rfl, rfl, rfl⟩⟩, ⟨by rw [List.append_nil]; exact h1⟩⟩
 ·refine ⟨_, cap, [(g, cur, 80)], rfl, ⟨.inr ⟨g, cur, rfl, rfl, hc, Nat.le_trans hc hm, fun j x hx => ?_⟩⟩, ⟨⟨h1.below, h1.base, fun e he => ?_, ?_⟩⟩⟩
  ·have hj := (List.getElem?_eq_some_iff.mp hx).1
   have q := k80_open (Kd.K_of_M _ (hrep j x hx))
   have sz : (k80).sz = 2 := rfl
   rw [sz] at q ht
   subst ht
   have a0 := congrArg (fun z : List Value => z[0]?) q
   have a1 := congrArg (fun z : List Value => z[1]?) q
   simp only [List.getElem?_take, List.getElem?_drop, List.getElem?_cons_zero, List.getElem?_cons_succ] at a0 a1
   rw [if_pos Z23, Nat.add_zero, if_pos Z23, Array.getElem?_toList] at a0
   rw [if_pos Z23, if_pos Z23, Array.getElem?_toList] at a1
   exact ⟨a0, a1⟩
  ·rcases List.mem_append.mp he with he | he
   ·exact h1.each e he
   ·rw [List.mem_singleton] at he
    subst he
    exact ⟨Nat.le_trans (Nat.le_trans HO.out.base HO.out.below.size) hg, hh⟩
  ·refine List.pairwise_append.mpr ⟨h1.apart, List.pairwise_singleton _ _, fun e he f hf => ?_⟩
   rw [List.mem_singleton] at hf
   subst hf
   have := HO.out.lt e he
   show e.1 ≠ g
   omega
theorem roadbookref21_Take.C {B : Nat} {w0 w : World} {hs rs : List Bx.Box} {A : Option Addr} {c : Nat} {l : List S80} (HR : Aside0 (roadbookref21_Take.Rw A c l rs)) (HO : Aside0 (Bx.Own B w0 w hs)) (hi : ∀ e ∈ rs, e ∈ hs) : l.length ≤ c ∧ Kd.C k80 w A l.length l := by
 rcases HR.out with ⟨rfl, rfl, rfl⟩ | ⟨g, cur, rfl, rfl, hc, hm, hx⟩
 ·exact ⟨Nat.zero_le _, Kd.C_nil _ _⟩
 ·refine ⟨hc, rfl, hm, fun _ => ⟨_, rfl, fun j x hj => ⟨[.int .i64 x.f0, .string x.f1], rfl, Kd.K_of_M _ (k80_mkM w 0 (fun _ => True) x), fun i u hu => ?_⟩⟩⟩
  have hh := (HO.out.each _ (hi _ List.mem_cons_self)).2
  have ad : ((⟨g, 0, none⟩ : Addr).add (j * 2 + i)) = ⟨g, j * 2 + i, none⟩ := by simp [Addr.add]; omega
  show w.cell? ((⟨g, 0, none⟩ : Addr).add (j * 2 + i)) = some u
  rw [ad, blk_cell hh]
  obtain ⟨x0, x1⟩ := hx j x hj
  match i, hu with
  | 0, hu => cases hu; exact x0
  | 1, hu => cases hu; exact x1
  | i + 2, hu => cases hu
def roadbookref21_Take.T4 : Bool × List (List Nat × List Nat) := (true, [([], []), ([0], [0]), ([1], [1]), ([], []), ([3], [3]), ([4], [4]), ([], []), ([6], [6]), ([7], [7]), ([], []), ([9], [9]), ([10], [10]), ([], []), ([12], [12]), ([13], [13]), ([], []), ([15], [15]), ([16, 14], [16]), ([], []), ([18], [18]), ([19, 17], [19]), ([2, 5, 8, 11, 14, 17, 20], [2, 5, 8, 11, 14, 17, 20]), ([], []), ([22, 21, 20, 0, 1, 2, 3, 4, 5, 6, 7, 8, 9, 10, 11, 12, 13, 14, 15, 16, 17, 18, 19, 20, 21, 22], [21, 22])])
def roadbookref21_Take.B4 : List Nat := [0, 1, 3, 0, 8, 24, 0, 64, 192, 0, 512, 1536, 0, 4096, 12288, 0, 32768, 126976, 0, 262144, 1044480, 2097151, 0, 8388607]
theorem roadbookref21_Take.tab4 : rtab .any (opsOf Tryz.f78 4) = roadbookref21_Take.T4 := by kernel_rfl
theorem roadbookref21_Take.bits4 : waitsOk roadbookref21_Take.T4.2 roadbookref21_Take.B4 = true := by kernel_rfl
def roadbookref21_Take.T9 : Bool × List (List Nat × List Nat) := (true, [([], []), ([0], [0]), ([1], [1]), ([], []), ([3], [3]), ([4, 2], [4]), ([2, 5], [2, 5]), ([], []), ([7], [7]), ([6, 8], [6, 8]), ([9, 5, 0, 1, 2, 3, 4, 5, 6, 7, 8, 9], [9])])
def roadbookref21_Take.B9 : List Nat := [0, 1, 3, 0, 8, 31, 63, 0, 128, 511, 1023]
theorem roadbookref21_Take.tab9 : rtab .any (opsOf Tryz.f78 9) = roadbookref21_Take.T9 := by kernel_rfl
theorem roadbookref21_Take.bits9 : waitsOk roadbookref21_Take.T9.2 roadbookref21_Take.B9 = true := by kernel_rfl
theorem roadbookref21_Take.bd (a b c d e f g : Int) : Tryz.prog.built 97 [(0, .int .i64 a), (1, .int .i64 b), (2, .int .i64 c), (3, .int .i64 d), (4, .int .i64 e), (5, .int .i64 f), (6, .int .i64 g)] = some #[.int .i64 a, .int .i64 b, .int .i64 c, .int .i64 d, .int .i64 e, .int .i64 f, .int .i64 g, .int .i64 0, .string ⟨#[]⟩, .slice none 0 0] := by kernel_rfl
set_option maxHeartbeats 8000000 in
set_option maxRecDepth 100000 in
theorem roadbookref21_Take.calls (k : Nat) (ty at_ : Int) (d : ByteArray) (ae fl pl om i s m c b n : Int) (l : List S80) (hs : List Bx.Box) (B : Nat) (w0 w : World) (HO : Aside0 (Bx.Own B w0 w hs)) (hd : 10 ≤ d.size) (h0 : wrap64 (bt d 0) = ae) (h1 : wrap64 (bt d 1) = fl) (h2 : wrap64 (bt d 2) = pl) (h3 : wrap64 (bt d 3) = om) (e4 : roadbookref08_Number.f k (d.extract 4 6) = some i) (e6 : roadbookref08_Number.f k (d.extract 6 8) = some s) (e8 : roadbookref08_Number.f k (d.extract 8 10) = some m) (ha : ae ≤ 3) (e9 : roadbookref21_great.f ae pl = some false) (e10 : roadbookref04_Least.f pl = some c) (e11 : roadbookref21_Base.f ae = some b) (hn : wrap64 (wrap64 (c - b) - om) = n) (n0 : 0 ≤ n) (hw : wrap64 (10 + n) = 10 + n) (nz : 10 + n ≤ (d.size : Int)) (e12 : roadbookref19_Get.f k (d.extract (10 + n).toNat d.size) = some (l, true, 0)) (y : ByteArray) (hy : d.extract 10 (10 + n).toNat = y) :
  Calls Tryz.prog 78 #[.agg #[.int .i64 ty, .int .i64 at_, .string d]] w fun e w' => ∃ A cp rs, e = .returned (.tuple #[.agg #[.int .i64 ae, .int .i64 fl, .int .i64 pl, .int .i64 om, .int .i64 i, .int .i64 s, .int .i64 m, .int .i64 1, .string y, .slice A l.length cp], .bool true, .int .i64 0]) ∧ Aside0 (roadbookref21_Take.Rw A cp l rs) ∧ Aside0 (Bx.Own B w0 w' (hs ++ rs)) := by
 have E4 := Aside0.mk e4
 have E6 := Aside0.mk e6
 have E8 := Aside0.mk e8
 have E9 := Aside0.mk e9
 have E10 := Aside0.mk e10
 have E11 := Aside0.mk e11
 have E12 := Aside0.mk e12
 have c0 : 0 < d.size := by omega
 have d0 : decide (0 < d.size) = true := decide_eq_true c0
 have qi0 : ((0 : Int) < (d.size : Int)) = True := eq_true Z23
 have hx0 : ∀ h : 0 < d.size, ((d[0]'h).toNat : Int) = bt d 0 := bt_at d 0
 have c1 : 1 < d.size := by omega
 have d1 : decide (1 < d.size) = true := decide_eq_true c1
 have qi1 : ((1 : Int) < (d.size : Int)) = True := eq_true Z23
 have hx1 : ∀ h : 1 < d.size, ((d[1]'h).toNat : Int) = bt d 1 := bt_at d 1
 have c2 : 2 < d.size := by omega
 have d2 : decide (2 < d.size) = true := decide_eq_true c2
 have qi2 : ((2 : Int) < (d.size : Int)) = True := eq_true Z23
 have hx2 : ∀ h : 2 < d.size, ((d[2]'h).toNat : Int) = bt d 2 := bt_at d 2
 have c3 : 3 < d.size := by omega
 have d3 : decide (3 < d.size) = true := decide_eq_true c3
 have qi3 : ((3 : Int) < (d.size : Int)) = True := eq_true Z23
 have hx3 : ∀ h : 3 < d.size, ((d[3]'h).toNat : Int) = bt d 3 := bt_at d 3
 have c6 : 6 ≤ d.size := by omega
 have c8 : 8 ≤ d.size := by omega
 have s6 : ((6 : Int) ≤ (d.size : Int)) = True := eq_true Z23
 have s8 : ((8 : Int) ≤ (d.size : Int)) = True := eq_true Z23
 have s9 : ((10 : Int) ≤ (d.size : Int)) = True := eq_true Z23
 have f1 : decide ((d.size : Int) < 10) = false := decide_eq_false Z23
 have f2 : decide (ae > 3) = false := decide_eq_false Z23
 have f3 : decide (n < 0) = false := decide_eq_false Z23
 have f4 : decide ((d.size : Int) < 10 + n) = false := decide_eq_false Z23
 have p1 : (0 : Int) ≤ 10 + n := by omega
 have p2 : (10 : Int) ≤ 10 + n := by omega
 have H0 := Aside0.mk h0
 have H1 := Aside0.mk h1
 have H2 := Aside0.mk h2
 have H3 := Aside0.mk h3
 clear e4 e6 e8 e9 e10 e11 e12
 have hu48 := Tryz.underlying48
 have hu97 := Tryz.underlying97
 go_enter Tryz.func78, Tryz.ntmps78
 go_upto_region 4 with (first | ((with_reducible refine gate_dst (N := 1) rfl ?_); refine Bx.mk 1 #[.int .i64 ty, .int .i64 at_, .string d] 48 HO ?_; clear HO; intro g1 w1 HO) | ((with_reducible refine gate_dst (N := 2) rfl ?_); refine Bx.mk 2 #[.int .i64 0, .int .i64 0, .int .i64 0, .int .i64 0, .int .i64 0, .int .i64 0, .int .i64 0, .int .i64 0, .string ⟨#[]⟩, .slice none 0 0] 97 HO ?_; clear HO; intro g2 w2 HO) | ((with_reducible refine Pre.gate_load 9 rfl ?_); (try (refine gate_guard Z16 ?_; dsimp only)); refine Bx.ld HO Tryz.underlying9 ?_))
 refine Bx.rgo (Sq.b 24 0) [23] [] roadbookref21_Take.tab4 roadbookref21_Take.bits4 HO ?_
 clear HO
 intro w9 HO HS HT_ HW_
 refine Sq.pur 0 (some 17) (Sq.b 24 1) HT_.out ?_
 refine Sq.pur 1 (some 18) (Sq.b 24 3) HT_.out ?_
 refine Sq.pur 2 (some 19) (Sq.b 24 7) HT_.out ?_
 refine Sq.pur 3 (some 20) (Sq.b 24 15) HT_.out ?_
 refine Sq.pur 4 (some 21) (Sq.b 24 31) HT_.out ?_
 refine Sq.pur 5 (some 22) (Sq.b 24 63) HT_.out ?_
 refine Sq.pur 6 (some 23) (Sq.b 24 127) HT_.out ?_
 refine Sq.pur 7 (some 24) (Sq.b 24 255) HT_.out ?_
 refine Sq.pur 8 (some 25) (Sq.b 24 511) HT_.out ?_
 refine Sq.pur 9 (some 26) (Sq.b 24 1023) HT_.out ?_
 refine Sq.pur 10 (some 27) (Sq.b 24 2047) HT_.out ?_
 refine Sq.pur 11 (some 28) (Sq.b 24 4095) HT_.out ?_
 refine Sq.pur 12 (some 29) (Sq.b 24 8191) HT_.out ?_
 refine Sq.pur 13 (some 30) (Sq.b 24 16383) HT_.out ?_
 refine Sq.pur 15 (some 32) (Sq.b 24 49151) HT_.out ?_
 refine Sq.pur 16 (some 33) (Sq.b 24 114687) HT_.out ?_
 refine Sq.pur 18 (some 35) (Sq.b 24 376831) HT_.out ?_
 refine Sq.pur 19 (some 36) (Sq.b 24 901119) HT_.out ?_
 simp only [H0.out, H1.out, H2.out, H3.out]
 refine two_ (i := 14) (j := 22) (Ni := some 31) (Nj := some 6) (Sq.b 24 917503) (Sq.b 24 5095423) rfl rfl rfl rfl (two_of HT_.out Z12) Z34 Z34 (fun K hK => ?oa1) (fun K hK => ?ob1)
 case' oa1 =>
  refine goes_ Tryz.func139 Z12 rfl #[.string (d.extract 4 6)] Z16 rfl rfl (by (try simp only [List.map_toArray, List.map_cons, List.map_nil]); first | done | rfl) ?_
  with_reducible refine (roadbookref08_Number.calls k (d.extract 4 6) i _ E4.out).mono ?_
  rintro e w9 ⟨rfl, hd⟩
  refine ⟨_, rfl, ?_⟩
  replace HO := Bx.dr HO hd; clear hd
  refine hK.out _ _ (HO.out.sub (by repeat (first | exact List.nil_sublist _ | exact List.Sublist.refl _ | apply List.Sublist.cons_cons | apply List.Sublist.cons))) (fun _ => ?_)
  clear hK K
  refine norm_ (a' := ?_) ?_ ?_
  rotate_left
  ·show Act.put _ (some 31) _ = _
   simp only [Act.put, Sq.s1, Sq.s2, Sq.s3, i64_w, i32_w]
   rfl
  refine two_ (i := 17) (j := 22) (Ni := some 34) (Nj := some 6) (Sq.b 24 1048575) (Sq.b 24 5111807) rfl rfl rfl rfl (two_of HT_.out Z12) Z34 Z34 (fun K hK => ?oa2) (fun K hK => ?ob2)
  case' oa2 =>
   refine goes_ Tryz.func139 Z12 rfl #[.string (d.extract 6 8)] Z16 rfl rfl (by (try simp only [List.map_toArray, List.map_cons, List.map_nil]); first | done | rfl) ?_
   with_reducible refine (roadbookref08_Number.calls k (d.extract 6 8) s _ E6.out).mono ?_
   rintro e w9 ⟨rfl, hd⟩
   refine ⟨_, rfl, ?_⟩
   replace HO := Bx.dr HO hd; clear hd
   refine hK.out _ _ (HO.out.sub (by repeat (first | exact List.nil_sublist _ | exact List.Sublist.refl _ | apply List.Sublist.cons_cons | apply List.Sublist.cons))) (fun _ => ?_)
   clear hK K
   refine norm_ (a' := ?_) ?_ ?_
   rotate_left
   ·show Act.put _ (some 34) _ = _
    simp only [Act.put, Sq.s1, Sq.s2, Sq.s3, i64_w, i32_w]
    rfl
   refine two_ (i := 20) (j := 22) (Ni := some 37) (Nj := some 6) (Sq.b 24 2097151) (Sq.b 24 5242879) rfl rfl rfl rfl (two_of HT_.out Z12) Z34 Z34 (fun K hK => ?oa3) (fun K hK => ?ob3)
   case' oa3 =>
    refine goes_ Tryz.func139 Z12 rfl #[.string (d.extract 8 10)] Z16 rfl rfl (by (try simp only [List.map_toArray, List.map_cons, List.map_nil]); first | done | rfl) ?_
    with_reducible refine (roadbookref08_Number.calls k (d.extract 8 10) m _ E8.out).mono ?_
    rintro e w9 ⟨rfl, hd⟩
    refine ⟨_, rfl, ?_⟩
    replace HO := Bx.dr HO hd; clear hd
    refine hK.out _ _ (HO.out.sub (by repeat (first | exact List.nil_sublist _ | exact List.Sublist.refl _ | apply List.Sublist.cons_cons | apply List.Sublist.cons))) (fun _ => ?_)
    clear hK K
    refine norm_ (a' := ?_) ?_ ?_
    rotate_left
    ·show Act.put _ (some 37) _ = _
     simp only [Act.put, Sq.s1, Sq.s2, Sq.s3, i64_w, i32_w]
     rfl
    refine Sq.pur 21 (some 38) (Sq.b 24 4194303) HT_.out ?_ (hr := fun w => Pre.build_run 97 [(0, .tmp 19), (1, .tmp 22), (2, .tmp 25), (3, .tmp 28), (4, .tmp 31), (5, .tmp 34), (6, .tmp 37)] rfl (roadbookref21_Take.bd _ _ _ _ _ _ _))
    refine one_ (i := 22) (N := some 6) (Sq.b 24 8388607) rfl rfl (one_of HT_.out Z12) Z34 (fun K hK => ?_)
    refine Bx.smk 6 #[.int .i64 0, .int .i64 0, .int .i64 0, .int .i64 0, .int .i64 0, .int .i64 0, .int .i64 0, .int .i64 0, .string ⟨#[]⟩, .slice none 0 0] 97 HO ?_
    clear HO
    intro g6 w9 HO
    refine hK.out _ _ (HO.out.sub (by repeat (first | exact List.nil_sublist _ | exact List.Sublist.refl _ | apply List.Sublist.cons_cons | apply List.Sublist.cons))) (fun _ => ?_)
    clear hK K
    refine norm_ (a' := ?_) ?_ ?_
    rotate_left
    ·show Act.put _ (some 6) _ = _
     simp only [Act.put, Sq.s1, Sq.s2, Sq.s3, i64_w, i32_w]
     rfl
    refine Bx.rsts 23 (Sq.b 24 16777215) HT_ HO ?_
    clear HO
    intro w9 HO
    refine done_ (done_of HT_.out Z12) ?_
   case' ob3 =>
    refine Bx.smk 6 #[.int .i64 0, .int .i64 0, .int .i64 0, .int .i64 0, .int .i64 0, .int .i64 0, .int .i64 0, .int .i64 0, .string ⟨#[]⟩, .slice none 0 0] 97 HO ?_
    clear HO
    intro g6 w9 HO
    refine hK.out _ _ (HO.out.sub (by repeat (first | exact List.nil_sublist _ | exact List.Sublist.refl _ | apply List.Sublist.cons_cons | apply List.Sublist.cons))) (fun _ => ?_)
    clear hK K
    refine norm_ (a' := ?_) ?_ ?_
    rotate_left
    ·show Act.put _ (some 6) _ = _
     simp only [Act.put, Sq.s1, Sq.s2, Sq.s3, i64_w, i32_w]
     rfl
    refine one_ (i := 20) (N := some 37) (Sq.b 24 6291455) rfl rfl (one_of HT_.out Z12) Z34 (fun K hK => ?_)
    refine goes_ Tryz.func139 Z12 rfl #[.string (d.extract 8 10)] Z16 rfl rfl (by (try simp only [List.map_toArray, List.map_cons, List.map_nil]); first | done | rfl) ?_
    with_reducible refine (roadbookref08_Number.calls k (d.extract 8 10) m _ E8.out).mono ?_
    rintro e w9 ⟨rfl, hd⟩
    refine ⟨_, rfl, ?_⟩
    replace HO := Bx.dr HO hd; clear hd
    refine hK.out _ _ (HO.out.sub (by repeat (first | exact List.nil_sublist _ | exact List.Sublist.refl _ | apply List.Sublist.cons_cons | apply List.Sublist.cons))) (fun _ => ?_)
    clear hK K
    refine norm_ (a' := ?_) ?_ ?_
    rotate_left
    ·show Act.put _ (some 37) _ = _
     simp only [Act.put, Sq.s1, Sq.s2, Sq.s3, i64_w, i32_w]
     rfl
    refine Sq.pur 21 (some 38) (Sq.b 24 8388607) HT_.out ?_ (hr := fun w => Pre.build_run 97 [(0, .tmp 19), (1, .tmp 22), (2, .tmp 25), (3, .tmp 28), (4, .tmp 31), (5, .tmp 34), (6, .tmp 37)] rfl (roadbookref21_Take.bd _ _ _ _ _ _ _))
    refine Bx.rsts 23 (Sq.b 24 16777215) HT_ HO ?_
    clear HO
    intro w9 HO
    refine done_ (done_of HT_.out Z12) ?_
  case' ob2 =>
   refine Bx.smk 6 #[.int .i64 0, .int .i64 0, .int .i64 0, .int .i64 0, .int .i64 0, .int .i64 0, .int .i64 0, .int .i64 0, .string ⟨#[]⟩, .slice none 0 0] 97 HO ?_
   clear HO
   intro g6 w9 HO
   refine hK.out _ _ (HO.out.sub (by repeat (first | exact List.nil_sublist _ | exact List.Sublist.refl _ | apply List.Sublist.cons_cons | apply List.Sublist.cons))) (fun _ => ?_)
   clear hK K
   refine norm_ (a' := ?_) ?_ ?_
   rotate_left
   ·show Act.put _ (some 6) _ = _
    simp only [Act.put, Sq.s1, Sq.s2, Sq.s3, i64_w, i32_w]
    rfl
   refine one_ (i := 17) (N := some 34) (Sq.b 24 5242879) rfl rfl (one_of HT_.out Z12) Z34 (fun K hK => ?_)
   refine goes_ Tryz.func139 Z12 rfl #[.string (d.extract 6 8)] Z16 rfl rfl (by (try simp only [List.map_toArray, List.map_cons, List.map_nil]); first | done | rfl) ?_
   with_reducible refine (roadbookref08_Number.calls k (d.extract 6 8) s _ E6.out).mono ?_
   rintro e w9 ⟨rfl, hd⟩
   refine ⟨_, rfl, ?_⟩
   replace HO := Bx.dr HO hd; clear hd
   refine hK.out _ _ (HO.out.sub (by repeat (first | exact List.nil_sublist _ | exact List.Sublist.refl _ | apply List.Sublist.cons_cons | apply List.Sublist.cons))) (fun _ => ?_)
   clear hK K
   refine norm_ (a' := ?_) ?_ ?_
   rotate_left
   ·show Act.put _ (some 34) _ = _
    simp only [Act.put, Sq.s1, Sq.s2, Sq.s3, i64_w, i32_w]
    rfl
   refine one_ (i := 20) (N := some 37) (Sq.b 24 6291455) rfl rfl (one_of HT_.out Z12) Z34 (fun K hK => ?_)
   refine goes_ Tryz.func139 Z12 rfl #[.string (d.extract 8 10)] Z16 rfl rfl (by (try simp only [List.map_toArray, List.map_cons, List.map_nil]); first | done | rfl) ?_
   with_reducible refine (roadbookref08_Number.calls k (d.extract 8 10) m _ E8.out).mono ?_
   rintro e w9 ⟨rfl, hd⟩
   refine ⟨_, rfl, ?_⟩
   replace HO := Bx.dr HO hd; clear hd
   refine hK.out _ _ (HO.out.sub (by repeat (first | exact List.nil_sublist _ | exact List.Sublist.refl _ | apply List.Sublist.cons_cons | apply List.Sublist.cons))) (fun _ => ?_)
   clear hK K
   refine norm_ (a' := ?_) ?_ ?_
   rotate_left
   ·show Act.put _ (some 37) _ = _
    simp only [Act.put, Sq.s1, Sq.s2, Sq.s3, i64_w, i32_w]
    rfl
   refine Sq.pur 21 (some 38) (Sq.b 24 8388607) HT_.out ?_ (hr := fun w => Pre.build_run 97 [(0, .tmp 19), (1, .tmp 22), (2, .tmp 25), (3, .tmp 28), (4, .tmp 31), (5, .tmp 34), (6, .tmp 37)] rfl (roadbookref21_Take.bd _ _ _ _ _ _ _))
   refine Bx.rsts 23 (Sq.b 24 16777215) HT_ HO ?_
   clear HO
   intro w9 HO
   refine done_ (done_of HT_.out Z12) ?_
 case' ob1 =>
  refine Bx.smk 6 #[.int .i64 0, .int .i64 0, .int .i64 0, .int .i64 0, .int .i64 0, .int .i64 0, .int .i64 0, .int .i64 0, .string ⟨#[]⟩, .slice none 0 0] 97 HO ?_
  clear HO
  intro g6 w9 HO
  refine hK.out _ _ (HO.out.sub (by repeat (first | exact List.nil_sublist _ | exact List.Sublist.refl _ | apply List.Sublist.cons_cons | apply List.Sublist.cons))) (fun _ => ?_)
  clear hK K
  refine norm_ (a' := ?_) ?_ ?_
  rotate_left
  ·show Act.put _ (some 6) _ = _
   simp only [Act.put, Sq.s1, Sq.s2, Sq.s3, i64_w, i32_w]
   rfl
  refine one_ (i := 14) (N := some 31) (Sq.b 24 5111807) rfl rfl (one_of HT_.out Z12) Z34 (fun K hK => ?_)
  refine goes_ Tryz.func139 Z12 rfl #[.string (d.extract 4 6)] Z16 rfl rfl (by (try simp only [List.map_toArray, List.map_cons, List.map_nil]); first | done | rfl) ?_
  with_reducible refine (roadbookref08_Number.calls k (d.extract 4 6) i _ E4.out).mono ?_
  rintro e w9 ⟨rfl, hd⟩
  refine ⟨_, rfl, ?_⟩
  replace HO := Bx.dr HO hd; clear hd
  refine hK.out _ _ (HO.out.sub (by repeat (first | exact List.nil_sublist _ | exact List.Sublist.refl _ | apply List.Sublist.cons_cons | apply List.Sublist.cons))) (fun _ => ?_)
  clear hK K
  refine norm_ (a' := ?_) ?_ ?_
  rotate_left
  ·show Act.put _ (some 31) _ = _
   simp only [Act.put, Sq.s1, Sq.s2, Sq.s3, i64_w, i32_w]
   rfl
  refine one_ (i := 17) (N := some 34) (Sq.b 24 5242879) rfl rfl (one_of HT_.out Z12) Z34 (fun K hK => ?_)
  refine goes_ Tryz.func139 Z12 rfl #[.string (d.extract 6 8)] Z16 rfl rfl (by (try simp only [List.map_toArray, List.map_cons, List.map_nil]); first | done | rfl) ?_
  with_reducible refine (roadbookref08_Number.calls k (d.extract 6 8) s _ E6.out).mono ?_
  rintro e w9 ⟨rfl, hd⟩
  refine ⟨_, rfl, ?_⟩
  replace HO := Bx.dr HO hd; clear hd
  refine hK.out _ _ (HO.out.sub (by repeat (first | exact List.nil_sublist _ | exact List.Sublist.refl _ | apply List.Sublist.cons_cons | apply List.Sublist.cons))) (fun _ => ?_)
  clear hK K
  refine norm_ (a' := ?_) ?_ ?_
  rotate_left
  ·show Act.put _ (some 34) _ = _
   simp only [Act.put, Sq.s1, Sq.s2, Sq.s3, i64_w, i32_w]
   rfl
  refine one_ (i := 20) (N := some 37) (Sq.b 24 6291455) rfl rfl (one_of HT_.out Z12) Z34 (fun K hK => ?_)
  refine goes_ Tryz.func139 Z12 rfl #[.string (d.extract 8 10)] Z16 rfl rfl (by (try simp only [List.map_toArray, List.map_cons, List.map_nil]); first | done | rfl) ?_
  with_reducible refine (roadbookref08_Number.calls k (d.extract 8 10) m _ E8.out).mono ?_
  rintro e w9 ⟨rfl, hd⟩
  refine ⟨_, rfl, ?_⟩
  replace HO := Bx.dr HO hd; clear hd
  refine hK.out _ _ (HO.out.sub (by repeat (first | exact List.nil_sublist _ | exact List.Sublist.refl _ | apply List.Sublist.cons_cons | apply List.Sublist.cons))) (fun _ => ?_)
  clear hK K
  refine norm_ (a' := ?_) ?_ ?_
  rotate_left
  ·show Act.put _ (some 37) _ = _
   simp only [Act.put, Sq.s1, Sq.s2, Sq.s3, i64_w, i32_w]
   rfl
  refine Sq.pur 21 (some 38) (Sq.b 24 8388607) HT_.out ?_ (hr := fun w => Pre.build_run 97 [(0, .tmp 19), (1, .tmp 22), (2, .tmp 25), (3, .tmp 28), (4, .tmp 31), (5, .tmp 34), (6, .tmp 37)] rfl (roadbookref21_Take.bd _ _ _ _ _ _ _))
  refine Bx.rsts 23 (Sq.b 24 16777215) HT_ HO ?_
  clear HO
  intro w9 HO
  refine done_ (done_of HT_.out Z12) ?_
 all_goals
  go_upto_region 9 with (first | ((with_reducible refine Pre.gate_load 3 rfl ?_); (try (refine gate_guard Z16 ?_; dsimp only)); refine Bx.ld HO Tryz.underlying3 ?_) | ((with_reducible refine gate_callee (f := 140) rfl ?_); refine goesL_ (some 47) rfl rfl Tryz.func140 Z12 rfl #[.int .i64 ae, .int .i64 pl] rfl (by (try simp only [List.map_toArray, List.map_cons, List.map_nil]); first | done | rfl) ?_; (with_reducible refine (roadbookref21_great.calls ae pl false _ E9.out).mono ?_); rintro e w8 ⟨rfl, hd⟩; refine ⟨_, rfl, ?_⟩; replace HO := Bx.dr HO hd; clear hd))
  refine Bx.rgo (Sq.b 11 0) [] _ roadbookref21_Take.tab9 roadbookref21_Take.bits9 HO ?_ (List.Sublist.refl _)
  clear HO
  intro w9 HO HS HT_ HW_
  clear HS
  refine Sq.pur 0 (some 49) (Sq.b 11 1) HT_.out ?_
  refine Bx.rld 1 50 (Sq.b 11 3) HT_ HW_ HO Tryz.underlying3 ?_
  refine Sq.pur 3 (some 52) (Sq.b 11 11) HT_.out ?_
  refine Bx.rld 4 53 (Sq.b 11 27) HT_ HW_ HO Tryz.underlying3 ?_
  refine Sq.pur 7 (some 56) (Sq.b 11 155) HT_.out ?_
  refine Bx.rld 8 57 (Sq.b 11 411) HT_ HW_ HO Tryz.underlying3 ?_
  refine one_ (i := 2) (N := some 51) (Sq.b 11 415) rfl rfl (one_of HT_.out Z12) Z34 (fun K hK => ?_)
  refine goes_ Tryz.func141 Z12 rfl #[.int .i64 pl] Z16 rfl rfl (by (try simp only [List.map_toArray, List.map_cons, List.map_nil]); first | done | rfl) ?_
  with_reducible refine (roadbookref04_Least.calls pl c _ E10.out).mono ?_
  rintro e w9 ⟨rfl, hd⟩
  refine ⟨_, rfl, ?_⟩
  replace HO := Bx.dr HO hd; clear hd
  refine hK.out _ _ HO.out (fun _ => ?_)
  clear hK K
  refine norm_ (a' := ?_) ?_ ?_
  rotate_left
  ·show Act.put _ (some 51) _ = _
   simp only [Act.put, Sq.s1, Sq.s2, Sq.s3, i64_w, i32_w]
   rfl
  refine one_ (i := 5) (N := some 54) (Sq.b 11 447) rfl rfl (one_of HT_.out Z12) Z34 (fun K hK => ?_)
  refine goes_ Tryz.func79 Z12 rfl #[.int .i64 ae] Z16 rfl rfl (by (try simp only [List.map_toArray, List.map_cons, List.map_nil]); first | done | rfl) ?_
  with_reducible refine (roadbookref21_Base.calls ae b _ E11.out).mono ?_
  rintro e w9 ⟨rfl, hd⟩
  refine ⟨_, rfl, ?_⟩
  replace HO := Bx.dr HO hd; clear hd
  refine hK.out _ _ HO.out (fun _ => ?_)
  clear hK K
  refine norm_ (a' := ?_) ?_ ?_
  rotate_left
  ·show Act.put _ (some 54) _ = _
   simp only [Act.put, Sq.s1, Sq.s2, Sq.s3, i64_w, i32_w]
   rfl
  refine Sq.pur 6 (some 55) (Sq.b 11 511) HT_.out ?_
  refine Sq.pur 9 (some 58) (Sq.b 11 1023) HT_.out ?_
  refine Sq.pur 10 (some 7) (Sq.b 11 2047) HT_.out ?_
  refine done_ (done_of HT_.out Z12) ?_
  go_wp2_with (first | ((with_reducible refine Pre.gate_load 3 rfl ?_); (try (refine gate_guard Z16 ?_; dsimp only)); refine Bx.ld HO Tryz.underlying3 ?_) | ((with_reducible refine gate_callee (f := 74) rfl ?_); refine goesL_ (some 73) rfl rfl Tryz.func74 Z12 rfl #[.string (d.extract (10 + n).toNat d.size)] rfl (by (try simp only [List.map_toArray, List.map_cons, List.map_nil]); first | done | rfl) ?_; (with_reducible refine (roadbookref19_Get.calls k (d.extract (10 + n).toNat d.size) l true 0 _ E12.out).mono ?_); rintro e w8 ⟨v, rfl, hr, hb⟩; replace hr := Aside0.mk hr; refine ⟨_, rfl, ?_⟩; obtain ⟨A, cp, rs, rfl, HR, hH⟩ := roadbookref21_Take.of HO hb hr.out; clear HO hr hb; simp only [List.cons_append] at hH; have HO := hH; clear hH) | ((with_reducible refine Pre.gate_store 9 rfl ?_); refine Bx.st HO ?_; clear HO; intro w9 HO) | ((with_reducible refine Pre.gate_store 30 rfl ?_); refine Bx.st HO ?_; clear HO; intro w9 HO) | ((with_reducible refine Pre.gate_store 3 rfl ?_); refine Bx.st HO ?_; clear HO; intro w9 HO) | ((with_reducible refine Pre.gate_load 97 rfl ?_); refine Bx.lds [.int .i64 ae, .int .i64 fl, .int .i64 pl, .int .i64 om, .int .i64 i, .int .i64 s, .int .i64 m, .int .i64 1, .string y, .slice A l.length cp] HO Tryz.underlying97 ?_) | ((with_reducible refine Pre.gate_store 97 rfl ?_); refine Bx.sts HO ?_; clear HO; intro w9 HO))
  exact Bx.ret [.cell 2 97, .tmp 3, .tmp 4] (Bx.vc HO Tryz.underlying97 (Bx.vt (Bx.vt .nil))) ⟨A, cp, rs, rfl, HR, ⟨HO.out.sub (by repeat (first | exact List.nil_sublist _ | exact List.Sublist.refl _ | apply List.Sublist.cons_cons | apply List.Sublist.cons))⟩⟩

/-! ### roadbookref21_Whole: function 80 -/
def roadbookref21_Whole.f (k : Nat) (a0 : Int) (a1 : ByteArray) (a2 : Int) : Option (ByteArray) := if a0 = 1 then ((roadbookref04_Fill.f k a1 4).bind fun aM => ((roadbookref03_Keep.f k aM a2).bind fun bl => (some bl))) else (if a0 = 2 then ((roadbookref04_Fill.f k a1 16).bind fun bK => ((roadbookref03_Keep.f k bK a2).bind fun bQ => (some bQ))) else (if a0 = 3 then ((roadbookref04_Fill.f k a1 8).bind fun ch => ((roadbookref06_Long.f ch).bind fun gS => ((roadbookref03_Keep.f k gS.1 a2).bind fun cj => (some cj)))) else (some (⟨#[]⟩ : ByteArray))))
theorem roadbookref21_Whole.mono : ∀ a0 a1 a2 k, LeO (roadbookref21_Whole.f k a0 a1 a2) (roadbookref21_Whole.f (k + 1) a0 a1 a2) := by
 intro a0 a1 a2 k
 unfold roadbookref21_Whole.f
 have m0 := roadbookref03_Keep.mono
 have m1 := roadbookref04_Fill.mono
 exact Sq.mo
set_option maxHeartbeats 8000000 in
set_option maxRecDepth 100000 in
theorem roadbookref21_Whole.calls (k : Nat) (a0 : Int) (a1 : ByteArray) (a2 : Int) (r : ByteArray) (w : World) (h : roadbookref21_Whole.f k a0 a1 a2 = some r) :
  Calls Tryz.prog 80 #[.int .i64 a0, .string a1, .int .i64 a2] w fun e w' => e = .returned (.string r) ∧ Below w.heap.size w w' := by
 have HB := Aside0.mk (Below.refl w.heap.size w)
 have H : (if a0 = 1 then ((roadbookref04_Fill.f k a1 4).bind fun aM => ((roadbookref03_Keep.f k aM a2).bind fun bl => (some bl))) else (if a0 = 2 then ((roadbookref04_Fill.f k a1 16).bind fun bK => ((roadbookref03_Keep.f k bK a2).bind fun bQ => (some bQ))) else (if a0 = 3 then ((roadbookref04_Fill.f k a1 8).bind fun ch => ((roadbookref06_Long.f ch).bind fun gS => ((roadbookref03_Keep.f k gS.1 a2).bind fun cj => (some cj)))) else (some (⟨#[]⟩ : ByteArray))))) = some r := h
 clear h
 by_cases c4 : a0 = 1
 ·rw [if_pos c4] at H
  have bP : (a0 == 1) = true := beq_iff_eq.mpr c4
  have cl : (a0 != 1) = false := bne_eq_false_iff_eq.mpr c4
  clear c4
  replace H := Option.bind_eq_some_iff.mp H
  obtain ⟨aM, gs, H⟩ := H
  replace H : ((roadbookref03_Keep.f k aM a2).bind fun bl => (some bl)) = some r := H
  have A5 := Aside0.mk gs
  clear gs
  replace H := Option.bind_eq_some_iff.mp H
  obtain ⟨bl, fR, H⟩ := H
  replace H : (some bl) = some r := H
  have A6 := Aside0.mk fR
  clear fR
  obtain rfl := Option.some.inj H
  go_enter Tryz.func80, Tryz.ntmps80
  go_wp2_with (first | ((with_reducible refine gate_callee (f := 143) rfl ?_); refine goesL_ (some 13) rfl rfl Tryz.func143 Z12 rfl #[.string a1, .int .i64 4] rfl Z3 ?_; (with_reducible refine (roadbookref04_Fill.calls k a1 4 aM _ A5.out).mono ?_); rintro e w' ⟨rfl, ⟨nd, rfl⟩⟩; refine ⟨_, rfl, ?_⟩) | ((with_reducible refine gate_callee (f := 142) rfl ?_); refine goesL_ (some 15) rfl rfl Tryz.func142 Z12 rfl #[.string aM, .int .i64 a2] rfl Z3 ?_; (with_reducible refine (roadbookref03_Keep.calls k aM a2 bl _ A6.out).mono ?_); rintro e w7 ⟨rfl, hb⟩; refine ⟨_, rfl, ?_⟩; replace HB := Aside0.mk (below_step Z2 hb); clear hb))
  go_ret
  exact ⟨Z5, Z2⟩
 ·rw [if_neg c4] at H
  have bP : (a0 == 1) = false := beq_eq_false_iff_ne.mpr c4
  have cl : (a0 != 1) = true := bne_iff_ne.mpr c4
  by_cases c8 : a0 = 2
  ·rw [if_pos c8] at H
   have ec : (a0 == 2) = true := beq_iff_eq.mpr c8
   have hZ : (a0 != 2) = false := bne_eq_false_iff_eq.mpr c8
   clear c8
   replace H := Option.bind_eq_some_iff.mp H
   obtain ⟨bK, gu, H⟩ := H
   replace H : ((roadbookref03_Keep.f k bK a2).bind fun bQ => (some bQ)) = some r := H
   have A9 := Aside0.mk gu
   clear gu
   replace H := Option.bind_eq_some_iff.mp H
   obtain ⟨bQ, gZ, H⟩ := H
   replace H : (some bQ) = some r := H
   have io := Aside0.mk gZ
   clear gZ
   obtain rfl := Option.some.inj H
   go_enter Tryz.func80, Tryz.ntmps80
   go_wp2_with (first | ((with_reducible refine gate_callee (f := 143) rfl ?_); refine goesL_ (some 19) rfl rfl Tryz.func143 Z12 rfl #[.string a1, .int .i64 16] rfl Z3 ?_; (with_reducible refine (roadbookref04_Fill.calls k a1 16 bK _ A9.out).mono ?_); rintro e w' ⟨rfl, ⟨nd, rfl⟩⟩; refine ⟨_, rfl, ?_⟩) | ((with_reducible refine gate_callee (f := 142) rfl ?_); refine goesL_ (some 21) rfl rfl Tryz.func142 Z12 rfl #[.string bK, .int .i64 a2] rfl Z3 ?_; (with_reducible refine (roadbookref03_Keep.calls k bK a2 bQ _ io.out).mono ?_); rintro e fg ⟨rfl, hb⟩; refine ⟨_, rfl, ?_⟩; replace HB := Aside0.mk (below_step Z2 hb); clear hb))
   go_ret
   exact ⟨Z5, Z2⟩
  ·rw [if_neg c8] at H
   have ec : (a0 == 2) = false := beq_eq_false_iff_ne.mpr c8
   have hZ : (a0 != 2) = true := bne_iff_ne.mpr c8
   by_cases da : a0 = 3
   ·rw [if_pos da] at H
    have eh : (a0 == 3) = true := beq_iff_eq.mpr da
    have c12b1 : (a0 != 3) = false := bne_eq_false_iff_eq.mpr da
    clear da
    replace H := Option.bind_eq_some_iff.mp H
    obtain ⟨ch, ha, H⟩ := H
    replace H : ((roadbookref06_Long.f ch).bind fun gS => ((roadbookref03_Keep.f k gS.1 a2).bind fun cj => (some cj))) = some r := H
    have ip := Aside0.mk ha
    clear ha
    replace H := Option.bind_eq_some_iff.mp H
    obtain ⟨⟨cb, ci⟩, gT, H⟩ := H
    replace H : ((roadbookref03_Keep.f k cb a2).bind fun cj => (some cj)) = some r := H
    have iB := Aside0.mk gT
    clear gT
    replace H := Option.bind_eq_some_iff.mp H
    obtain ⟨cj, he, H⟩ := H
    replace H : (some cj) = some r := H
    have iL := Aside0.mk he
    clear he
    obtain rfl := Option.some.inj H
    go_enter Tryz.func80, Tryz.ntmps80
    go_wp2_with (first | ((with_reducible refine gate_callee (f := 143) rfl ?_); refine goesL_ (some 26) rfl rfl Tryz.func143 Z12 rfl #[.string a1, .int .i64 8] rfl Z3 ?_; (with_reducible refine (roadbookref04_Fill.calls k a1 8 ch _ ip.out).mono ?_); rintro e w' ⟨rfl, ⟨nd, rfl⟩⟩; refine ⟨_, rfl, ?_⟩) | ((with_reducible refine gate_callee (f := 76) rfl ?_); refine goesL_ (some 27) rfl rfl Tryz.func76 Z12 rfl #[.string ch] rfl Z3 ?_; (with_reducible refine (roadbookref06_Long.calls ch cb ci _ iB.out).mono ?_); rintro e w' ⟨rfl, ⟨nd, rfl⟩⟩; refine ⟨_, rfl, ?_⟩) | ((with_reducible refine gate_callee (f := 142) rfl ?_); refine goesL_ (some 32) rfl rfl Tryz.func142 Z12 rfl #[.string cb, .int .i64 a2] rfl Z3 ?_; (with_reducible refine (roadbookref03_Keep.calls k cb a2 cj _ iL.out).mono ?_); rintro e hD ⟨rfl, hb⟩; refine ⟨_, rfl, ?_⟩; replace HB := Aside0.mk (below_step Z2 hb); clear hb))
    go_ret
    exact ⟨Z5, Z2⟩
   ·rw [if_neg da] at H
    have eh : (a0 == 3) = false := beq_eq_false_iff_ne.mpr da
    have c12b1 : (a0 != 3) = true := bne_iff_ne.mpr da
    obtain rfl := Option.some.inj H
    go_enter Tryz.func80, Tryz.ntmps80
    go_wp2
    go_ret
    exact ⟨Z5, Z2⟩

end Go.Proofs.YtnllanjoebjeiaaGreat.PV
