-- Written by mp.py, a program of this work (wip/tools), out of the translation; Lean checks it.
import Derived.Test.YtnllanjoebjeiaaGreatPVxZ
import Derived.Test.YtnllanjoebjeiaaGreatPVxroadbookref04
import Derived.Test.YtnllanjoebjeiaaGreatPVxroadbookref06
import Derived.Test.YtnllanjoebjeiaaGreatPVxroadbookref08
import Derived.Test.YtnllanjoebjeiaaGreatPVxroadbookref19
import Derived.Test.YtnllanjoebjeiaaGreatPVxroadbookref20
import Derived.Test.YtnllanjoebjeiaaGreatPVxroadbookref21
import Derived.Test.YtnllanjoebjeiaaGreatBox
namespace Go.Proofs.YtnllanjoebjeiaaGreat.PV
open Go.RowKit Go.Proofs.YtnllanjoebjeiaaGreatW.PrintWords Go.Proofs.YtnllanjoebjeiaaGreatW.PrintLast Go.Proofs.YtnllanjoebjeiaaGreatW.PrintMore
attribute [local go_sem] max2_int min2_int max_two min_two max_three min_three max_four min_four   -- for this text's walks alone
set_option linter.unusedVariables false
set_option linter.unusedSimpArgs false

/-! ### roadbookref22_fixed: function 32 -/
def roadbookref22_fixed.f (k : Nat) (a0 : ByteArray) (a1 : Int) : Option (Bool × Int) := if (a0.size : Int) < a1 then (some (false, 2)) else (if 0 ≤ a1 then (if a1 ≤ (a0.size : Int) then ((roadbookref19_Get.f k (a0.extract (a1 : Int).toNat a0.size)).bind fun cM => (some (cM.2.1, cM.2.2))) else (none)) else (none))
theorem roadbookref22_fixed.mono : ∀ a0 a1 k, LeO (roadbookref22_fixed.f k a0 a1) (roadbookref22_fixed.f (k + 1) a0 a1) := by
 intro a0 a1 k
 unfold roadbookref22_fixed.f
 have m0 := roadbookref19_Get.mono
 exact Sq.mo
set_option maxHeartbeats 8000000 in
set_option maxRecDepth 100000 in
theorem roadbookref22_fixed.calls (k : Nat) (a0 : ByteArray) (a1 : Int) (r1 : Bool) (r2 : Int) (w : World) (h : roadbookref22_fixed.f k a0 a1 = some (r1, r2)) :
  Calls Tryz.prog 32 #[.string a0, .int .i64 a1] w fun e w' => e = .returned (.tuple #[.bool r1, .int .i64 r2]) ∧ Below w.heap.size w w' := by
 have HB := Aside0.mk (Below.refl w.heap.size w)
 have H : (if (a0.size : Int) < a1 then (some (false, 2)) else (if 0 ≤ a1 then (if a1 ≤ (a0.size : Int) then ((roadbookref19_Get.f k (a0.extract (a1 : Int).toNat a0.size)).bind fun cM => (some (cM.2.1, cM.2.2))) else (none)) else (none))) = some (r1, r2) := h
 clear h
 by_cases c3 : (a0.size : Int) < a1
 ·rw [if_pos c3] at H
  have bU : decide ((a0.size : Int) < a1) = true := decide_eq_true c3
  clear c3
  simp only [Option.some.injEq, Prod.mk.injEq] at H
  obtain ⟨rfl, rfl⟩ := H
  go_enter Tryz.func32, Tryz.ntmps32
  go_wp2
  go_ret2
  exact ⟨Z5, Z2⟩
 ·rw [if_neg c3] at H
  have bU : decide ((a0.size : Int) < a1) = false := decide_eq_false c3
  clear c3
  by_cases c4 : 0 ≤ a1
  ·rw [if_pos c4] at H
   have bP := eq_true c4
   have cl : decide (0 ≤ a1) = true := decide_eq_true c4
   clear c4
   by_cases c5 : a1 ≤ (a0.size : Int)
   ·rw [if_pos c5] at H
    have ca := eq_true c5
    have dM : decide (a1 ≤ (a0.size : Int)) = true := decide_eq_true c5
    clear c5
    replace H := Option.bind_eq_some_iff.mp H
    obtain ⟨⟨aM, bl, bK⟩, fR, H⟩ := H
    replace H : (some (bl, bK)) = some (r1, r2) := H
    have A6 := Aside0.mk fR
    clear fR
    simp only [Option.some.injEq, Prod.mk.injEq] at H
    obtain ⟨rfl, rfl⟩ := H
    go_enter Tryz.func32, Tryz.ntmps32
    go_wp2_with (first | ((with_reducible refine gate_callee (f := 74) rfl ?_); refine goesL_ (some 17) rfl rfl Tryz.func74 Z12 rfl #[.string (a0.extract (a1 : Int).toNat a0.size)] rfl Z3 ?_; (with_reducible refine (roadbookref19_Get.calls k (a0.extract (a1 : Int).toNat a0.size) aM bl bK _ A6.out).mono ?_); rintro e w7 ⟨v104, rfl, ho0, hb⟩; refine ⟨_, rfl, ?_⟩; have HO105 := Aside0.mk (Kd.R_lower ho0 (below_size Z2)); replace HB := Aside0.mk (below_step Z2 hb); clear hb ho0))
    go_ret2
    exact ⟨Z5, Z2⟩
   ·rw [if_neg c5] at H
    exact absurd H Z27
  ·rw [if_neg c4] at H
   exact absurd H Z27

/-! ### roadbookref22_Family: function 77 -/
def roadbookref22_Family.f (a0 : Int) : Option (Int) := if a0 = 1 then (some 0) else (if a0 = 2 then (some 1) else (if a0 = 3 then (some 1) else (some (-1))))
set_option maxHeartbeats 8000000 in
set_option maxRecDepth 100000 in
theorem roadbookref22_Family.calls (a0 : Int) (r : Int) (w : World) (h : roadbookref22_Family.f a0 = some r) :
  Calls Tryz.prog 77 #[.int .i64 a0] w fun e w' => e = .returned (.int .i64 r) ∧ Drawn0 w w' := by
 have H : (if a0 = 1 then (some 0) else (if a0 = 2 then (some 1) else (if a0 = 3 then (some 1) else (some (-1))))) = some r := h
 clear h
 by_cases c2 : a0 = 1
 ·rw [if_pos c2] at H
  have cK : (a0 == 1) = true := beq_iff_eq.mpr c2
  have cR : (a0 != 1) = false := bne_eq_false_iff_eq.mpr c2
  clear c2
  obtain rfl := Option.some.inj H
  go_enter Tryz.func77, Tryz.ntmps77
  go_wp2
  go_ret
  exact ⟨Z8, Z11⟩
 ·rw [if_neg c2] at H
  have cK : (a0 == 1) = false := beq_eq_false_iff_ne.mpr c2
  have cR : (a0 != 1) = true := bne_iff_ne.mpr c2
  by_cases c3 : a0 = 2
  ·rw [if_pos c3] at H
   have bU : (a0 == 2) = true := beq_iff_eq.mpr c3
   have ck : (a0 != 2) = false := bne_eq_false_iff_eq.mpr c3
   clear c3
   obtain rfl := Option.some.inj H
   go_enter Tryz.func77, Tryz.ntmps77
   go_wp2
   go_ret
   exact ⟨Z8, Z11⟩
  ·rw [if_neg c3] at H
   have bU : (a0 == 2) = false := beq_eq_false_iff_ne.mpr c3
   have ck : (a0 != 2) = true := bne_iff_ne.mpr c3
   by_cases c4 : a0 = 3
   ·rw [if_pos c4] at H
    have bP : (a0 == 3) = true := beq_iff_eq.mpr c4
    have cl : (a0 != 3) = false := bne_eq_false_iff_eq.mpr c4
    clear c4
    obtain rfl := Option.some.inj H
    go_enter Tryz.func77, Tryz.ntmps77
    go_wp2
    go_ret
    exact ⟨Z8, Z11⟩
   ·rw [if_neg c4] at H
    have bP : (a0 == 3) = false := beq_eq_false_iff_ne.mpr c4
    have cl : (a0 != 3) = true := bne_iff_ne.mpr c4
    obtain rfl := Option.some.inj H
    go_enter Tryz.func77, Tryz.ntmps77
    go_wp2
    go_ret
    exact ⟨Z8, Z11⟩

/-! ### roadbookref22_hop: function 33 -/
set_option maxHeartbeats 8000000 in
set_option maxRecDepth 100000 in
/-- Of a next hop that is told. -/
theorem roadbookref22_hop.calls (k : Nat) (d x y : ByteArray) (ae n0 f : Int) (b : Bool) (p0 p1 p2 p3 h0 h1 id : ByteArray) (g0 g1 : ByteArray) (j : Nat) (hs : List Bx.Box) (B : Nat) (w0 w : World) (HO : Aside0 (Bx.Own B w0 w hs)) (hd : 2 ≤ d.size) (h0_ : wrap64 (bt d 0) = ae) (h1_ : 1 ≤ ae ∧ ae ≤ 3) (e0 : roadbookref20_Long.f ae = some n0) (e1 : roadbookref22_fixed.f k d (wrap64 (2 + n0)) = some (true, 0)) (hn : 2 ≤ wrap64 (2 + n0) ∧ wrap64 (2 + n0) ≤ (d.size : Int)) (hx : d.extract 2 (wrap64 (2 + n0)).toNat = x) (hy : (ae ≠ 3 ∧ x = y) ∨ (ae = 3 ∧ roadbookref06_Long.f x = some (y, b))) (e3 : roadbookref22_Family.f ae = some f) (hia : ∀ g w, (Instr.indexAt 44 (.pointer (some ⟨g, 4, none⟩)) (.int .i64 f)).run Tryz.prog w = .ok (.pointer (some ⟨g, j, none⟩)) w) (hs7 : (#[.string p0, .string p1, .string p2, .string p3, .string h0, .string h1, .string id] : Array Value).setIfInBounds j (.string y) = #[.string p0, .string p1, .string p2, .string p3, .string g0, .string g1, .string id]) (hf : Nat.ble (j + 1) 7 = true) :
  Calls Tryz.prog 33 #[.agg #[.string p0, .string p1, .string p2, .string p3, .string h0, .string h1, .string id], .string d] w fun e w' => e = .returned (.tuple #[.agg #[.string p0, .string p1, .string p2, .string p3, .string g0, .string g1, .string id], .int .i64 0]) ∧ Aside0 (Bx.Own B w0 w' hs) := by
 subst h0_ hx
 have E0 := Aside0.mk e0
 have E1 := Aside0.mk e1
 have E3 := Aside0.mk e3
 have HS7 := Aside0.mk hs7
 have HF := Aside0.mk hf
 have f1 : decide ((d.size : Int) < 2) = false := decide_eq_false Z23
 have f2 : (wrap64 (bt d 0) == 0) = false := beq_eq_false_iff_ne.mpr Z23
 have f3 : decide (wrap64 (bt d 0) > 3) = false := decide_eq_false Z23
 have c0 : 0 < d.size := by omega
 have d0 : decide (0 < d.size) = true := decide_eq_true c0
 have qi0 : ((0 : Int) < (d.size : Int)) = True := eq_true Z23
 have hx0 : ∀ h : 0 < d.size, ((d[0]'h).toNat : Int) = bt d 0 := bt_at d 0
 have n1 : (2 ≤ wrap64 (2 + n0)) = True := eq_true hn.1
 have n2 : (wrap64 (2 + n0) ≤ (d.size : Int)) = True := eq_true hn.2
 have ic := Tryz.underlying46
 clear e0 e1 e3 hs7 hf h1_ hn
 refine Or.elim hy (fun h => ?A) (fun h => ?B)
 case' A =>
  obtain ⟨hm, rfl⟩ := h
  have f4 : (wrap64 (bt d 0) == 3) = false := beq_eq_false_iff_ne.mpr hm
  clear hm hy
  go_enter Tryz.func33, Tryz.ntmps33
  go_wp2_with (first | ((with_reducible refine gate_dst (N := 2) rfl ?_); refine Bx.mk 2 #[.string p0, .string p1, .string p2, .string p3, .string h0, .string h1, .string id] 46 HO ?_; clear HO; intro g2 w2 HO) | ((with_reducible refine gate_dst (N := 4) rfl ?_); refine Bx.mk 4 #[.string ⟨#[]⟩, .string ⟨#[]⟩, .string ⟨#[]⟩, .string ⟨#[]⟩, .string ⟨#[]⟩, .string ⟨#[]⟩, .string ⟨#[]⟩] 46 HO ?_; clear HO; intro g4 w4 HO) | ((with_reducible refine Pre.gate_load 9 rfl ?_); (try (refine gate_guard Z16 ?_; dsimp only)); refine Bx.ld HO Tryz.underlying9 ?_) | ((with_reducible refine Pre.gate_load 46 rfl ?_); refine Bx.lds [.string p0, .string p1, .string p2, .string p3, .string h0, .string h1, .string id] HO Tryz.underlying46 ?_) | ((with_reducible refine Pre.gate_load 46 rfl ?_); refine Bx.lds [.string p0, .string p1, .string p2, .string p3, .string g0, .string g1, .string id] HO Tryz.underlying46 ?_) | ((with_reducible refine Pre.gate_store 46 rfl ?_); refine Bx.sts HO ?_; clear HO; intro w9 HO) | ((with_reducible refine Pre.gate_store 9 rfl ?_); refine Bx.st HO ?_ (hcs := HS7.out) (hfit := HF.out); clear HO; intro w9 HO) | ((with_reducible refine gate_callee (f := 75) rfl ?_); refine goesL_ (some 26) rfl rfl Tryz.func75 Z12 rfl #[.int .i64 (wrap64 (bt d 0))] rfl (by (try simp only [List.map_toArray, List.map_cons, List.map_nil]); first | done | rfl) ?_; (with_reducible refine (roadbookref20_Long.calls _ n0 _ E0.out).mono ?_); rintro e w8 ⟨rfl, hb⟩; refine ⟨_, rfl, ?_⟩; replace HO := Bx.stp HO hb; clear hb) | ((with_reducible refine gate_callee (f := 32) rfl ?_); refine goesL_ (some 31) rfl rfl Tryz.func32 Z12 rfl #[.string d, .int .i64 (wrap64 (2 + n0))] rfl (by (try simp only [List.map_toArray, List.map_cons, List.map_nil]); first | done | rfl) ?_; (with_reducible refine (roadbookref22_fixed.calls k d (wrap64 (2 + n0)) true 0 _ E1.out).mono ?_); rintro e w8 ⟨rfl, hb⟩; refine ⟨_, rfl, ?_⟩; replace HO := Bx.stp HO hb; clear hb) | ((with_reducible refine gate_callee (f := 76) rfl ?_); refine goesL_ (some 49) rfl rfl Tryz.func76 Z12 rfl #[.string (d.extract 2 (wrap64 (2 + n0)).toNat)] rfl (by (try simp only [List.map_toArray, List.map_cons, List.map_nil]); first | done | rfl) ?_; (with_reducible refine (roadbookref06_Long.calls _ y b _ E2.out).mono ?_); rintro e w8 ⟨rfl, hd⟩; refine ⟨_, rfl, ?_⟩; replace HO := Bx.dr HO hd; clear hd) | ((with_reducible refine gate_callee (f := 77) rfl ?_); refine goesL_ (some 53) rfl rfl Tryz.func77 Z12 rfl #[.int .i64 (wrap64 (bt d 0))] rfl (by (try simp only [List.map_toArray, List.map_cons, List.map_nil]); first | done | rfl) ?_; (with_reducible refine (roadbookref22_Family.calls _ f _ E3.out).mono ?_); rintro e w8 ⟨rfl, hd⟩; refine ⟨_, rfl, ?_⟩; replace HO := Bx.dr HO hd; clear hd))
 case' B =>
  obtain ⟨hm, e2⟩ := h
  have E2 := Aside0.mk e2
  have f4 : (wrap64 (bt d 0) == 3) = true := beq_iff_eq.mpr hm
  clear hm hy e2
  go_enter Tryz.func33, Tryz.ntmps33
  go_wp2_with (first | ((with_reducible refine gate_dst (N := 2) rfl ?_); refine Bx.mk 2 #[.string p0, .string p1, .string p2, .string p3, .string h0, .string h1, .string id] 46 HO ?_; clear HO; intro g2 w2 HO) | ((with_reducible refine gate_dst (N := 4) rfl ?_); refine Bx.mk 4 #[.string ⟨#[]⟩, .string ⟨#[]⟩, .string ⟨#[]⟩, .string ⟨#[]⟩, .string ⟨#[]⟩, .string ⟨#[]⟩, .string ⟨#[]⟩] 46 HO ?_; clear HO; intro g4 w4 HO) | ((with_reducible refine Pre.gate_load 9 rfl ?_); (try (refine gate_guard Z16 ?_; dsimp only)); refine Bx.ld HO Tryz.underlying9 ?_) | ((with_reducible refine Pre.gate_load 46 rfl ?_); refine Bx.lds [.string p0, .string p1, .string p2, .string p3, .string h0, .string h1, .string id] HO Tryz.underlying46 ?_) | ((with_reducible refine Pre.gate_load 46 rfl ?_); refine Bx.lds [.string p0, .string p1, .string p2, .string p3, .string g0, .string g1, .string id] HO Tryz.underlying46 ?_) | ((with_reducible refine Pre.gate_store 46 rfl ?_); refine Bx.sts HO ?_; clear HO; intro w9 HO) | ((with_reducible refine Pre.gate_store 9 rfl ?_); refine Bx.st HO ?_ (hcs := HS7.out) (hfit := HF.out); clear HO; intro w9 HO) | ((with_reducible refine gate_callee (f := 75) rfl ?_); refine goesL_ (some 26) rfl rfl Tryz.func75 Z12 rfl #[.int .i64 (wrap64 (bt d 0))] rfl (by (try simp only [List.map_toArray, List.map_cons, List.map_nil]); first | done | rfl) ?_; (with_reducible refine (roadbookref20_Long.calls _ n0 _ E0.out).mono ?_); rintro e w8 ⟨rfl, hb⟩; refine ⟨_, rfl, ?_⟩; replace HO := Bx.stp HO hb; clear hb) | ((with_reducible refine gate_callee (f := 32) rfl ?_); refine goesL_ (some 31) rfl rfl Tryz.func32 Z12 rfl #[.string d, .int .i64 (wrap64 (2 + n0))] rfl (by (try simp only [List.map_toArray, List.map_cons, List.map_nil]); first | done | rfl) ?_; (with_reducible refine (roadbookref22_fixed.calls k d (wrap64 (2 + n0)) true 0 _ E1.out).mono ?_); rintro e w8 ⟨rfl, hb⟩; refine ⟨_, rfl, ?_⟩; replace HO := Bx.stp HO hb; clear hb) | ((with_reducible refine gate_callee (f := 76) rfl ?_); refine goesL_ (some 49) rfl rfl Tryz.func76 Z12 rfl #[.string (d.extract 2 (wrap64 (2 + n0)).toNat)] rfl (by (try simp only [List.map_toArray, List.map_cons, List.map_nil]); first | done | rfl) ?_; (with_reducible refine (roadbookref06_Long.calls _ y b _ E2.out).mono ?_); rintro e w8 ⟨rfl, hd⟩; refine ⟨_, rfl, ?_⟩; replace HO := Bx.dr HO hd; clear hd) | ((with_reducible refine gate_callee (f := 77) rfl ?_); refine goesL_ (some 53) rfl rfl Tryz.func77 Z12 rfl #[.int .i64 (wrap64 (bt d 0))] rfl (by (try simp only [List.map_toArray, List.map_cons, List.map_nil]); first | done | rfl) ?_; (with_reducible refine (roadbookref22_Family.calls _ f _ E3.out).mono ?_); rintro e w8 ⟨rfl, hd⟩; refine ⟨_, rfl, ?_⟩; replace HO := Bx.dr HO hd; clear hd))
 all_goals exact Bx.ret [.cell 4 46, .tmp 5] (Bx.vc HO Tryz.underlying46 (Bx.vt .nil)) ⟨rfl, ⟨HO.out.sub (by repeat (first | exact List.nil_sublist _ | exact List.Sublist.refl _ | apply List.Sublist.cons_cons | apply List.Sublist.cons))⟩⟩

/-! ### roadbookref22_told: function 81 -/
def roadbookref22_told.T8 : Bool × List (List Nat × List Nat) := (true, [([], []), ([0], [0]), ([], []), ([2], [2]), ([3], [3]), ([], []), ([5, 4], [4, 5]), ([6], [6]), ([0, 1], []), ([8, 1, 4, 0, 1], [1, 8]), ([0, 1, 2, 3, 4, 5, 6, 7, 8, 9], []), ([10, 7, 9, 0, 1, 2, 3, 4, 5, 6, 7, 8, 9], [7, 10])])
def roadbookref22_told.B8 : List Nat := [0, 1, 0, 4, 12, 0, 60, 124, 3, 287, 1023, 2047]
theorem roadbookref22_told.tab8 : rtab .any (opsOf Tryz.f81 8) = roadbookref22_told.T8 := by kernel_rfl
theorem roadbookref22_told.bits8 : waitsOk roadbookref22_told.T8.2 roadbookref22_told.B8 = true := by kernel_rfl
theorem roadbookref22_told.bd (ae pl i s m : Int) (a : ByteArray) (A : Option Addr) (q cp : Nat) : Tryz.prog.built 32 [(0, .int .i64 11), (5, .int .i64 ae), (6, .string a), (7, .int .i64 pl), (14, .int .i64 i), (12, .int .i64 s), (10, .int .i64 m), (24, .slice A q cp)] = some #[.int .i64 11, .int .i64 0, .int .i64 0, .string ⟨#[]⟩, .int .i64 0, .int .i64 ae, .string a, .int .i64 pl, .int .i64 0, .string ⟨#[]⟩, .int .i64 m, .string ⟨#[]⟩, .int .i64 s, .int .i64 0, .int .i64 i, .int .i64 0, .int .i64 0, .int .i64 0, .int .i64 0, .string ⟨#[]⟩, .string ⟨#[]⟩, .slice none 0 0, .int .i64 0, .string ⟨#[]⟩, .slice A q cp] := by kernel_rfl
set_option maxHeartbeats 8000000 in
set_option maxRecDepth 100000 in
/-- Of an Update that is told. -/
theorem roadbookref22_told.calls (ae fl pl om i s m : Int) (y a : ByteArray) (A : Option Addr) (q cp : Nat) (X Y : ByteArray) (p0 p1 p2 p3 h0 h1 id : ByteArray) (hs : List Bx.Box) (B : Nat) (w0 w : World) (HO : Aside0 (Bx.Own B w0 w hs)) (h : (m = 65535 ∧ X = ⟨#[]⟩ ∧ Y = ⟨#[]⟩) ∨ (m ≠ 65535 ∧ ae ≠ 0 ∧ id ≠ ⟨#[]⟩ ∧ id = X ∧ ((roadbookref22_Family.f ae = some 0 ∧ h0 = Y) ∨ (roadbookref22_Family.f ae = some 1 ∧ h1 = Y)))) :
  Calls Tryz.prog 81 #[.agg #[.string p0, .string p1, .string p2, .string p3, .string h0, .string h1, .string id], .agg #[.int .i64 ae, .int .i64 fl, .int .i64 pl, .int .i64 om, .int .i64 i, .int .i64 s, .int .i64 m, .int .i64 1, .string y, .slice A q cp], .string a] w fun e w' => e = .returned (.tuple #[.agg #[.int .i64 11, .int .i64 0, .int .i64 0, .string ⟨#[]⟩, .int .i64 0, .int .i64 ae, .string a, .int .i64 pl, .int .i64 0, .string Y, .int .i64 m, .string X, .int .i64 s, .int .i64 0, .int .i64 i, .int .i64 0, .int .i64 0, .int .i64 0, .int .i64 0, .string ⟨#[]⟩, .string ⟨#[]⟩, .slice none 0 0, .int .i64 0, .string ⟨#[]⟩, .slice A q cp], .bool true]) ∧ Aside0 (Bx.Own B w0 w' hs) := by
 have ic := Tryz.underlying46
 have hu97 := Tryz.underlying97
 have dP := Tryz.underlying32
 rcases h with ⟨hm, rfl, rfl⟩ | ⟨hm, ha, hi, rfl, hf⟩
 ·have f1 : (m == 65535) = true := beq_iff_eq.mpr hm
  clear hm
  go_enter Tryz.func81, Tryz.ntmps81
  go_wp2_with (first | ((with_reducible refine gate_dst (N := 3) rfl ?_); refine Bx.mk 3 #[.string p0, .string p1, .string p2, .string p3, .string h0, .string h1, .string id] 46 HO ?_; clear HO; intro g3 w3 HO) | ((with_reducible refine gate_dst (N := 4) rfl ?_); refine Bx.mk 4 #[.int .i64 ae, .int .i64 fl, .int .i64 pl, .int .i64 om, .int .i64 i, .int .i64 s, .int .i64 m, .int .i64 1, .string y, .slice A q cp] 97 HO ?_; clear HO; intro g4 w4 HO) | ((with_reducible refine gate_dst (N := 6) rfl ?_); refine Bx.mk 6 #[.int .i64 0, .int .i64 0, .int .i64 0, .string ⟨#[]⟩, .int .i64 0, .int .i64 0, .string ⟨#[]⟩, .int .i64 0, .int .i64 0, .string ⟨#[]⟩, .int .i64 0, .string ⟨#[]⟩, .int .i64 0, .int .i64 0, .int .i64 0, .int .i64 0, .int .i64 0, .int .i64 0, .int .i64 0, .string ⟨#[]⟩, .string ⟨#[]⟩, .slice none 0 0, .int .i64 0, .string ⟨#[]⟩, .slice none 0 0] 32 HO ?_; clear HO; intro g6 w6 HO) | ((with_reducible refine gate_dst (N := 8) rfl ?_); refine Bx.mk 8 #[.int .i64 0, .int .i64 0, .int .i64 0, .string ⟨#[]⟩, .int .i64 0, .int .i64 0, .string ⟨#[]⟩, .int .i64 0, .int .i64 0, .string ⟨#[]⟩, .int .i64 0, .string ⟨#[]⟩, .int .i64 0, .int .i64 0, .int .i64 0, .int .i64 0, .int .i64 0, .int .i64 0, .int .i64 0, .string ⟨#[]⟩, .string ⟨#[]⟩, .slice none 0 0, .int .i64 0, .string ⟨#[]⟩, .slice none 0 0] 32 HO ?_; clear HO; intro g8 w8 HO) | ((with_reducible refine Pre.gate_load 3 rfl ?_); (try (refine gate_guard Z16 ?_; dsimp only)); refine Bx.ld HO Tryz.underlying3 ?_) | ((with_reducible refine Pre.gate_load 9 rfl ?_); (try (refine gate_guard Z16 ?_; dsimp only)); refine Bx.ld HO Tryz.underlying9 ?_) | ((with_reducible refine Pre.gate_load 30 rfl ?_); (try (refine gate_guard Z16 ?_; dsimp only)); refine Bx.ld HO Tryz.underlying30 ?_) | ((with_reducible refine gate_dst (N := 22) rfl ?_); refine Pre.build_event 22 32 [(0, .const (.int .i64 11)), (5, .tmp 10), (6, .tmp 11), (7, .tmp 13), (14, .tmp 15), (12, .tmp 17), (10, .tmp 19), (24, .tmp 21)] rfl rfl rfl (roadbookref22_told.bd _ _ _ _ _ _ _ _ _) ?_) | ((with_reducible refine Pre.gate_store 32 rfl ?_); refine Bx.sts HO ?_; clear HO; intro w9 HO) | ((with_reducible refine Pre.gate_load 32 rfl ?_); refine Bx.lds [.int .i64 11, .int .i64 0, .int .i64 0, .string ⟨#[]⟩, .int .i64 0, .int .i64 ae, .string a, .int .i64 pl, .int .i64 0, .string ⟨#[]⟩, .int .i64 m, .string ⟨#[]⟩, .int .i64 s, .int .i64 0, .int .i64 i, .int .i64 0, .int .i64 0, .int .i64 0, .int .i64 0, .string ⟨#[]⟩, .string ⟨#[]⟩, .slice none 0 0, .int .i64 0, .string ⟨#[]⟩, .slice A q cp] HO Tryz.underlying32 ?_))
  exact Bx.ret [.cell 6 32, .tmp 7] (Bx.vc HO Tryz.underlying32 (Bx.vt .nil)) ⟨rfl, ⟨HO.out.sub (by repeat (first | exact List.nil_sublist _ | exact List.Sublist.refl _ | apply List.Sublist.cons_cons | apply List.Sublist.cons))⟩⟩
 ·have f1 : (m == 65535) = false := beq_eq_false_iff_ne.mpr hm
  have f2 : (ae == 0) = false := beq_eq_false_iff_ne.mpr ha
  have f3 : (id.toList == ([] : List UInt8)) = false := beq_eq_false_iff_ne.mpr (fun e => hi (by rw [ByteArray.toList_eq] at e; cases id with | mk d => exact congrArg ByteArray.mk (Array.toList_inj.mp e)))
  rcases hf with ⟨hf, rfl⟩ | ⟨hf, rfl⟩
  all_goals
   have EF := Aside0.mk hf
   clear hf hm ha hi
   go_enter Tryz.func81, Tryz.ntmps81
   go_upto_region 8 with (first | ((with_reducible refine gate_dst (N := 3) rfl ?_); refine Bx.mk 3 #[.string p0, .string p1, .string p2, .string p3, .string h0, .string h1, .string id] 46 HO ?_; clear HO; intro g3 w3 HO) | ((with_reducible refine gate_dst (N := 4) rfl ?_); refine Bx.mk 4 #[.int .i64 ae, .int .i64 fl, .int .i64 pl, .int .i64 om, .int .i64 i, .int .i64 s, .int .i64 m, .int .i64 1, .string y, .slice A q cp] 97 HO ?_; clear HO; intro g4 w4 HO) | ((with_reducible refine gate_dst (N := 6) rfl ?_); refine Bx.mk 6 #[.int .i64 0, .int .i64 0, .int .i64 0, .string ⟨#[]⟩, .int .i64 0, .int .i64 0, .string ⟨#[]⟩, .int .i64 0, .int .i64 0, .string ⟨#[]⟩, .int .i64 0, .string ⟨#[]⟩, .int .i64 0, .int .i64 0, .int .i64 0, .int .i64 0, .int .i64 0, .int .i64 0, .int .i64 0, .string ⟨#[]⟩, .string ⟨#[]⟩, .slice none 0 0, .int .i64 0, .string ⟨#[]⟩, .slice none 0 0] 32 HO ?_; clear HO; intro g6 w6 HO) | ((with_reducible refine gate_dst (N := 8) rfl ?_); refine Bx.mk 8 #[.int .i64 0, .int .i64 0, .int .i64 0, .string ⟨#[]⟩, .int .i64 0, .int .i64 0, .string ⟨#[]⟩, .int .i64 0, .int .i64 0, .string ⟨#[]⟩, .int .i64 0, .string ⟨#[]⟩, .int .i64 0, .int .i64 0, .int .i64 0, .int .i64 0, .int .i64 0, .int .i64 0, .int .i64 0, .string ⟨#[]⟩, .string ⟨#[]⟩, .slice none 0 0, .int .i64 0, .string ⟨#[]⟩, .slice none 0 0] 32 HO ?_; clear HO; intro g8 w8 HO) | ((with_reducible refine Pre.gate_load 3 rfl ?_); (try (refine gate_guard Z16 ?_; dsimp only)); refine Bx.ld HO Tryz.underlying3 ?_) | ((with_reducible refine Pre.gate_load 9 rfl ?_); (try (refine gate_guard Z16 ?_; dsimp only)); refine Bx.ld HO Tryz.underlying9 ?_) | ((with_reducible refine Pre.gate_load 30 rfl ?_); (try (refine gate_guard Z16 ?_; dsimp only)); refine Bx.ld HO Tryz.underlying30 ?_) | ((with_reducible refine gate_dst (N := 22) rfl ?_); refine Pre.build_event 22 32 [(0, .const (.int .i64 11)), (5, .tmp 10), (6, .tmp 11), (7, .tmp 13), (14, .tmp 15), (12, .tmp 17), (10, .tmp 19), (24, .tmp 21)] rfl rfl rfl (roadbookref22_told.bd _ _ _ _ _ _ _ _ _) ?_) | ((with_reducible refine Pre.gate_store 32 rfl ?_); refine Bx.sts HO ?_; clear HO; intro w9 HO))
   refine Bx.rgo (Sq.b 12 0) [11] [(g4, #[.int .i64 ae, .int .i64 fl, .int .i64 pl, .int .i64 om, .int .i64 i, .int .i64 s, .int .i64 m, .int .i64 1, .string y, .slice A q cp], 97), (g3, #[.string p0, .string p1, .string p2, .string p3, .string h0, .string h1, .string id], 46)] roadbookref22_told.tab8 roadbookref22_told.bits8 HO ?_
   clear HO
   intro w9 HO HS HT_ HW_
   refine Sq.pur 0 (some 40) (Sq.b 12 1) HT_.out ?_
   refine Bx.rld 1 41 (Sq.b 12 3) HT_ HW_ HS Tryz.underlying9 ?_
   refine Sq.pur 2 (some 42) (Sq.b 12 7) HT_.out ?_
   refine Bx.rld 3 43 (Sq.b 12 15) HT_ HW_ HS Tryz.underlying3 ?_
   refine Sq.pur 5 (some 45) (Sq.b 12 47) HT_.out ?_
   refine Sq.pur 8 (some 48) (Sq.b 12 303) HT_.out ?_
   refine one_ (i := 4) (N := some 44) (Sq.b 12 319) rfl rfl (one_of HT_.out Z12) Z34 (fun K hK => ?_)
   refine goes_ Tryz.func77 Z12 rfl #[.int .i64 ae] Z16 rfl rfl (by (try simp only [List.map_toArray, List.map_cons, List.map_nil]); first | done | rfl) ?_
   with_reducible refine (roadbookref22_Family.calls ae _ _ EF.out).mono ?_
   rintro e w9 ⟨rfl, hd⟩
   refine ⟨_, rfl, ?_⟩
   replace HO := Bx.dr HO hd; clear hd
   refine hK.out _ _ (HO.out.sub (by repeat (first | exact List.nil_sublist _ | exact List.Sublist.refl _ | apply List.Sublist.cons_cons | apply List.Sublist.cons))) (fun _ => ?_)
   clear hK K
   refine norm_ (a' := ?_) ?_ ?_
   rotate_left
   ·show Act.put _ (some 44) _ = _
    simp only [Act.put, Sq.s1, Sq.s2, Sq.s3, i64_w, i32_w]
    rfl
   clear HS
   have HS := Aside0.mk (HO.out.sub (by repeat (first | exact List.nil_sublist _ | exact List.Sublist.refl _ | apply List.Sublist.cons_cons | apply List.Sublist.cons)) : Bx.Own B w0 _ [(g4, #[.int .i64 ae, .int .i64 fl, .int .i64 pl, .int .i64 om, .int .i64 i, .int .i64 s, .int .i64 m, .int .i64 1, .string y, .slice A q cp], 97), (g3, #[.string p0, .string p1, .string p2, .string p3, .string h0, .string h1, .string id], 46)])
   refine Sq.pur 6 (some 46) (Sq.b 12 383) HT_.out ?_
   refine Bx.rld 7 47 (Sq.b 12 511) HT_ HW_ HS Tryz.underlying9 ?_
   refine Bx.rst1 9 (Sq.b 12 1023) HT_ HO ?_ (hS := fun u hu => hu.sub (by repeat (first | exact List.nil_sublist _ | exact List.Sublist.refl _ | apply List.Sublist.cons_cons | apply List.Sublist.cons)))
   clear HO
   intro w9 HO
   refine Sq.pur 10 (some 49) (Sq.b 12 2047) HT_.out ?_
   refine Bx.rst 11 (Sq.b 12 4095) HT_ HO ?_
   clear HO
   intro w9 HO
   refine done_ (done_of HT_.out Z12) ?_
   go_wp2_with (first | ((with_reducible refine Pre.gate_load 32 rfl ?_); refine Bx.lds [.int .i64 11, .int .i64 0, .int .i64 0, .string ⟨#[]⟩, .int .i64 0, .int .i64 ae, .string a, .int .i64 pl, .int .i64 0, .string _, .int .i64 m, .string id, .int .i64 s, .int .i64 0, .int .i64 i, .int .i64 0, .int .i64 0, .int .i64 0, .int .i64 0, .string ⟨#[]⟩, .string ⟨#[]⟩, .slice none 0 0, .int .i64 0, .string ⟨#[]⟩, .slice A q cp] HO Tryz.underlying32 ?_) | ((with_reducible refine Pre.gate_store 32 rfl ?_); refine Bx.sts HO ?_; clear HO; intro w9 HO))
   exact Bx.ret [.cell 6 32, .tmp 7] (Bx.vc HO Tryz.underlying32 (Bx.vt .nil)) ⟨rfl, ⟨HO.out.sub (by repeat (first | exact List.nil_sublist _ | exact List.Sublist.refl _ | apply List.Sublist.cons_cons | apply List.Sublist.cons))⟩⟩

/-! ### roadbookref22_update: function 34 -/
theorem roadbookref22_update.slit {P : Program} {ops : Array Oper} {Q : Exit → Act → World → Prop} {a : Act} {w0 w : World} {B : Nat} {hs : List Bx.Box} {oi : Oper} {K : Act → World → Prop} (N : Tmp) (cs : Array Value) (t n : Nat) (HO : Aside0 (Bx.Own B w0 w hs))
  (h : ∀ g w1, Aside0 (Bx.Own B w0 w1 ((g, cs, t) :: hs)) → K (a.put (some N) (.slice (some ⟨g, 0, none⟩) n n)) w1) (hN : oi.dst = some N := by rfl) (hw : Region.wanted oi (yielded ops a.tmps) = true := by rfl)
  (hrun : (execOp a.eval oi).run P w = .ok (.value (.slice (some ⟨w.heap.size, 0, none⟩) n n)) (w.alloc (.cells cs t)) := by first | (go_simp; done) | (go_simp; rfl)) : if Region.wanted oi (yielded ops a.tmps) = true then Oper.wp P oi a w K Q else K (a.put (some N) undef) w := by
 have := h _ _ (Bx.new HO rfl (blk_new w _) (below_alloc (Below.refl _ _) _))
 rw [if_pos hw]
 unfold Oper.wp
 rw [hrun]
 show K (a.put oi.dst _) _
 rw [hN]
 exact this
theorem roadbookref22_update.ssts {P : Program} {ops : Array Oper} {Q : Exit → Act → World → Prop} {a : Act} {w0 w : World} {B : Nat} {hs hs' : List Bx.Box} {oi : Oper} {K : Act → World → Prop} {ty : TypeId} {x y : Operand} {g t : Nat} {cs cells : Array Value} (HO : Aside0 (Bx.Own B w0 w hs)) (h : ∀ w1, Aside0 (Bx.Own B w0 w1 hs') → K a w1)
  (hN : oi.dst = none := by rfl) (ho : oi.op = .store ty x y := by rfl) (hx : a.eval x = .pointer (some ⟨g, 0, none⟩) := by rfl) (hy : a.eval y = .agg cells := by rfl) (hw : Region.wanted oi (yielded ops a.tmps) = true := by rfl)
  (ha : Bx.At hs g cs t := by repeat (first | exact .here | assumption | apply Bx.At.there)) (hU : Bx.Upd hs g cs cells t hs' := by repeat (first | exact .here | assumption | apply Bx.Upd.there))
  (ht : (P.info? ty).map (·.size) = some cells.size := by kernel_rfl) (hfit : cells.toList.length = cs.toList.length := by rfl) (h1 : cells.toList.all (·.oneCell') = true := by rfl) : if Region.wanted oi (yielded ops a.tmps) = true then Oper.wp P oi a w K Q else K (a.put none undef) w := by
 have hr := run_store_run (P := P) (w := w) (g := g) (o := 0) (e := t) (cur := cs) ty (.agg cells) cells.toList (HO.out.get ha) rfl (by rw [ht, Array.length_toList]) (by rw [hfit, Array.length_toList]; omega) (fun q hq => List.all_eq_true.1 h1 q hq)
 have := h _ (Bx.put HO hU (Pre.Sets.cells g _ _ _) (Pre.setCells_allA (HO.out.get ha) (by simpa using hfit.symm)))
 rw [if_pos hw]
 unfold Oper.wp execOp
 simp only [ho, hx, hy, Sem.run_bind, hr, Result.andThen_ok]
 show K (a.put oi.dst undef) _
 rw [hN]
 exact this
def roadbookref22_update.T9 : Bool × List (List Nat × List Nat) := (true, [([], []), ([], []), ([1], [1]), ([2], [2]), ([0, 3], [0, 3]), ([], []), ([5], [5]), ([4, 6], [4, 6]), ([7, 3, 0, 1, 2, 3, 4, 5, 6, 7], [7])])
def roadbookref22_update.B9 : List Nat := [0, 0, 2, 6, 15, 0, 32, 127, 255]
theorem roadbookref22_update.tab9 : rtab .any (opsOf Tryz.f34 9) = roadbookref22_update.T9 := by kernel_rfl
theorem roadbookref22_update.bits9 : waitsOk roadbookref22_update.T9.2 roadbookref22_update.B9 = true := by kernel_rfl
def roadbookref22_update.T21 : Bool × List (List Nat × List Nat) := (true, [([], []), ([], []), ([1], [1]), ([0, 0], [0]), ([2, 3, 0, 1, 2, 3], [2]), ([4, 0, 1, 2, 3, 4], [])])
def roadbookref22_update.B21 : List Nat := [0, 0, 2, 1, 15, 31]
theorem roadbookref22_update.tab21 : rtab .any (opsOf Tryz.f34 21) = roadbookref22_update.T21 := by kernel_rfl
theorem roadbookref22_update.bits21 : waitsOk roadbookref22_update.T21.2 roadbookref22_update.B21 = true := by kernel_rfl
/-- What the bytes of an Update are. -/
def roadbookref22_update.Ta (k : Nat) (d y : ByteArray) (ae fl pl om i s m c b n : Int) (l : List S80) : Prop := 10 ≤ d.size ∧ wrap64 (bt d 0) = ae ∧ wrap64 (bt d 1) = fl ∧ wrap64 (bt d 2) = pl ∧ wrap64 (bt d 3) = om ∧ roadbookref08_Number.f k (d.extract 4 6) = some i ∧ roadbookref08_Number.f k (d.extract 6 8) = some s ∧ roadbookref08_Number.f k (d.extract 8 10) = some m ∧ ae ≤ 3 ∧ roadbookref21_great.f ae pl = some false ∧ roadbookref04_Least.f pl = some c ∧ roadbookref21_Base.f ae = some b ∧ wrap64 (wrap64 (c - b) - om) = n ∧ 0 ≤ n ∧ wrap64 (10 + n) = 10 + n ∧ 10 + n ≤ (d.size : Int) ∧ roadbookref19_Get.f k (d.extract (10 + n).toNat d.size) = some (l, true, 0) ∧ d.extract 10 (10 + n).toNat = y
def roadbookref22_update.To (ae m : Int) (h0 h1 id X Y : ByteArray) : Prop := (m = 65535 ∧ X = ⟨#[]⟩ ∧ Y = ⟨#[]⟩) ∨ (m ≠ 65535 ∧ ae ≠ 0 ∧ id ≠ ⟨#[]⟩ ∧ id = X ∧ ((roadbookref22_Family.f ae = some 0 ∧ h0 = Y) ∨ (roadbookref22_Family.f ae = some 1 ∧ h1 = Y)))
set_option maxHeartbeats 8000000 in
set_option maxRecDepth 100000 in
theorem roadbookref22_update.calls (k : Nat) (ty at_ : Int) (d y ah a : ByteArray) (ae fl pl om i s m c b n : Int) (l : List S80) (X Y : ByteArray) (p0 p1 p2 p3 h0 h1 id : ByteArray) (r1 r2 r3 dp : ByteArray) (j : Nat) (hs : List Bx.Box) (B : Nat) (w0 w : World) (HO : Aside0 (Bx.Own B w0 w hs)) (t : roadbookref22_update.Ta k d y ae fl pl om i s m c b n l) (ew : roadbookref21_Whole.f k ae (ah ++ y) pl = some a) (hz : ah.size + (y).size ≤ 9223372036854775807) (ht : roadbookref22_update.To ae m h0 h1 id X Y) (h : (ae = 0 ∧ fl = 0 ∧ (om = 0 ∧ ah = ⟨#[]⟩) ∧ r1 = p1 ∧ r2 = p2 ∧ r3 = p3) ∨ (ae ≠ 0 ∧ fl = 128 ∧ ((om = 0 ∧ ah = ⟨#[]⟩) ∨ (0 < om ∧ dp ≠ ⟨#[]⟩ ∧ b ≤ (dp.size : Int) ∧ 0 ≤ b ∧ om ≤ ((dp.size - b.toNat : Nat) : Int) ∧ (dp.extract b.toNat dp.size).extract 0 om.toNat = ah)) ∧ (∀ g w, (Instr.indexAt 43 (.pointer (some ⟨g, 0, none⟩)) (.int .i64 ae)).run Tryz.prog w = .ok (.pointer (some ⟨g, j, none⟩)) w) ∧ (#[.string p0, .string p1, .string p2, .string p3, .string h0, .string h1, .string id] : Array Value)[j]? = some (.string dp) ∧ (#[.string p0, .string p1, .string p2, .string p3, .string h0, .string h1, .string id] : Array Value).setIfInBounds j (.string a) = #[.string p0, .string r1, .string r2, .string r3, .string h0, .string h1, .string id] ∧ Nat.ble (j + 1) 7 = true)) :
  Calls Tryz.prog 34 #[.agg #[.string p0, .string p1, .string p2, .string p3, .string h0, .string h1, .string id], .agg #[.int .i64 ty, .int .i64 at_, .string d]] w fun e w' => ∃ A cp rs gr, e = .returned (.tuple #[.agg #[.string p0, .string r1, .string r2, .string r3, .string h0, .string h1, .string id], .slice (some ⟨gr, 0, none⟩) 1 1, .int .i64 0]) ∧ Aside0 (roadbookref21_Take.Rw A cp l rs) ∧ Aside0 (Bx.Own B w0 w' ((gr, #[.int .i64 11, .int .i64 0, .int .i64 0, .string ⟨#[]⟩, .int .i64 0, .int .i64 ae, .string a, .int .i64 pl, .int .i64 0, .string Y, .int .i64 m, .string X, .int .i64 s, .int .i64 0, .int .i64 i, .int .i64 0, .int .i64 0, .int .i64 0, .int .i64 0, .string ⟨#[]⟩, .string ⟨#[]⟩, .slice none 0 0, .int .i64 0, .string ⟨#[]⟩, .slice A l.length cp], 32) :: (hs ++ rs))) := by
 have T := Aside0.mk t
 unfold roadbookref22_update.Ta at T
 unfold roadbookref22_update.To at ht
 have EW := Aside0.mk ew
 have HT := Aside0.mk ht
 have hzt : (ah.size + (y).size ≤ 9223372036854775807) = True := eq_true hz
 have gd : decide (ah.size + (y).size ≤ 9223372036854775807) = true := decide_eq_true hz
 have gf : (9223372036854775807 < ah.size + (y).size) = False := eq_false (Nat.not_lt.2 hz)
 have ge : (9223372036854775807 < (y).size) = False := eq_false Z23
 have gg : decide ((y).size ≤ 9223372036854775807) = true := decide_eq_true Z23
 have ic := Tryz.underlying46
 have hu48 := Tryz.underlying48
 have hu97 := Tryz.underlying97
 have dP := Tryz.underlying32
 clear t ew ht hz
 refine Or.elim h (fun h => ?Z) (fun h => Or.elim h.2.2.1 (fun o => ?A) (fun o => ?B))
 case' Z =>
  obtain ⟨hae, hfl, ⟨o1, rfl⟩, e1, e2, e3⟩ := h
  subst e1 e2 e3
  have f1 : (ae != 0) = false := bne_eq_false_iff_eq.mpr hae
  have f2 : decide (fl ≥ 128) = false := by rw [hfl]; kernel_rfl
  have f3 : (Int.tmod (wrap64 (Int.tdiv fl 64)) 2 == 1) = false := by rw [hfl]; kernel_rfl
  have f4 : (Int.tmod (Int.tdiv fl 64) 2 == 1) = false := by rw [hfl]; kernel_rfl
  clear hae hfl
  have f5 : decide (om > 0) = false := decide_eq_false Z23
  have EW0 := EW
  clear EW o1
  go_enter Tryz.func34, Tryz.ntmps34
  go_upto_region 10 with (first | ((with_reducible refine gate_dst (N := 2) rfl ?_); refine Bx.mk 2 #[.string p0, .string r1, .string r2, .string r3, .string h0, .string h1, .string id] 46 HO ?_; clear HO; intro g2 w2 HO) | ((with_reducible refine gate_dst (N := 3) rfl ?_); refine Bx.mk 3 #[.int .i64 ty, .int .i64 at_, .string d] 48 HO ?_; clear HO; intro g3 w3 HO) | ((with_reducible refine gate_dst (N := 4) rfl ?_); refine Bx.mk 4 #[.string ⟨#[]⟩, .string ⟨#[]⟩, .string ⟨#[]⟩, .string ⟨#[]⟩, .string ⟨#[]⟩, .string ⟨#[]⟩, .string ⟨#[]⟩] 46 HO ?_; clear HO; intro g4 w4 HO) | ((with_reducible refine Pre.gate_load 48 rfl ?_); refine Bx.lds [.int .i64 ty, .int .i64 at_, .string d] HO Tryz.underlying48 ?_) | ((with_reducible refine gate_callee (f := 78) rfl ?_); refine goesL_ (some 17) rfl rfl Tryz.func78 Z12 rfl #[.agg #[.int .i64 ty, .int .i64 at_, .string d]] rfl (by (try simp only [List.map_toArray, List.map_cons, List.map_nil]); first | done | rfl) ?_; (with_reducible refine (roadbookref21_Take.calls k ty at_ d ae fl pl om i s m c b n l _ _ _ _ HO T.out.1 T.out.2.1 T.out.2.2.1 T.out.2.2.2.1 T.out.2.2.2.2.1 T.out.2.2.2.2.2.1 T.out.2.2.2.2.2.2.1 T.out.2.2.2.2.2.2.2.1 T.out.2.2.2.2.2.2.2.2.1 T.out.2.2.2.2.2.2.2.2.2.1 T.out.2.2.2.2.2.2.2.2.2.2.1 T.out.2.2.2.2.2.2.2.2.2.2.2.1 T.out.2.2.2.2.2.2.2.2.2.2.2.2.1 T.out.2.2.2.2.2.2.2.2.2.2.2.2.2.1 T.out.2.2.2.2.2.2.2.2.2.2.2.2.2.2.1 T.out.2.2.2.2.2.2.2.2.2.2.2.2.2.2.2.1 T.out.2.2.2.2.2.2.2.2.2.2.2.2.2.2.2.2.1 y T.out.2.2.2.2.2.2.2.2.2.2.2.2.2.2.2.2.2).mono ?_); clear HO; rintro e w8 ⟨A, cp, rs, rfl, HR, HO⟩; refine ⟨_, rfl, ?_⟩; simp only [List.cons_append] at HO) | ((with_reducible refine gate_dst (N := 7) rfl ?_); refine Bx.mk 7 #[.int .i64 0, .int .i64 0, .int .i64 0, .int .i64 0, .int .i64 0, .int .i64 0, .int .i64 0, .int .i64 0, .string ⟨#[]⟩, .slice none 0 0] 97 HO ?_; clear HO; intro g7 w7 HO) | ((with_reducible refine Pre.gate_store 97 rfl ?_); refine Bx.sts HO ?_; clear HO; intro w9 HO) | ((with_reducible refine Pre.gate_load 3 rfl ?_); (try (refine gate_guard Z16 ?_; dsimp only)); refine Bx.ld HO Tryz.underlying3 ?_) | ((with_reducible refine Pre.gate_load 9 rfl ?_); (try (refine gate_guard Z16 ?_; dsimp only)); refine Bx.ld HO Tryz.underlying9 ?_) | ((with_reducible refine Pre.gate_load 9 rfl ?_); (try (refine gate_guard Z16 ?_; dsimp only)); refine Bx.ld HO Tryz.underlying9 ?_ (hv := HG.out)))
 case' A =>
  obtain ⟨hae, hfl, _, hia, hg, hs7, hf⟩ := h
  have f1 : (ae != 0) = true := bne_iff_ne.mpr hae
  have f2 : decide (fl ≥ 128) = true := by rw [hfl]; kernel_rfl
  have f3 : (Int.tmod (wrap64 (Int.tdiv fl 64)) 2 == 1) = false := by rw [hfl]; kernel_rfl
  have f4 : (Int.tmod (Int.tdiv fl 64) 2 == 1) = false := by rw [hfl]; kernel_rfl
  clear hae hfl
  have HG := Aside0.mk hg
  have HS7 := Aside0.mk hs7
  have HF := Aside0.mk hf
  clear hg hs7 hf
  obtain ⟨o1, rfl⟩ := o
  have f5 : decide (om > 0) = false := decide_eq_false Z23
  have EW0 := EW
  clear EW o1
  go_enter Tryz.func34, Tryz.ntmps34
  go_upto_region 10 with (first | ((with_reducible refine gate_dst (N := 2) rfl ?_); refine Bx.mk 2 #[.string p0, .string p1, .string p2, .string p3, .string h0, .string h1, .string id] 46 HO ?_; clear HO; intro g2 w2 HO) | ((with_reducible refine gate_dst (N := 3) rfl ?_); refine Bx.mk 3 #[.int .i64 ty, .int .i64 at_, .string d] 48 HO ?_; clear HO; intro g3 w3 HO) | ((with_reducible refine gate_dst (N := 4) rfl ?_); refine Bx.mk 4 #[.string ⟨#[]⟩, .string ⟨#[]⟩, .string ⟨#[]⟩, .string ⟨#[]⟩, .string ⟨#[]⟩, .string ⟨#[]⟩, .string ⟨#[]⟩] 46 HO ?_; clear HO; intro g4 w4 HO) | ((with_reducible refine Pre.gate_load 48 rfl ?_); refine Bx.lds [.int .i64 ty, .int .i64 at_, .string d] HO Tryz.underlying48 ?_) | ((with_reducible refine gate_callee (f := 78) rfl ?_); refine goesL_ (some 17) rfl rfl Tryz.func78 Z12 rfl #[.agg #[.int .i64 ty, .int .i64 at_, .string d]] rfl (by (try simp only [List.map_toArray, List.map_cons, List.map_nil]); first | done | rfl) ?_; (with_reducible refine (roadbookref21_Take.calls k ty at_ d ae fl pl om i s m c b n l _ _ _ _ HO T.out.1 T.out.2.1 T.out.2.2.1 T.out.2.2.2.1 T.out.2.2.2.2.1 T.out.2.2.2.2.2.1 T.out.2.2.2.2.2.2.1 T.out.2.2.2.2.2.2.2.1 T.out.2.2.2.2.2.2.2.2.1 T.out.2.2.2.2.2.2.2.2.2.1 T.out.2.2.2.2.2.2.2.2.2.2.1 T.out.2.2.2.2.2.2.2.2.2.2.2.1 T.out.2.2.2.2.2.2.2.2.2.2.2.2.1 T.out.2.2.2.2.2.2.2.2.2.2.2.2.2.1 T.out.2.2.2.2.2.2.2.2.2.2.2.2.2.2.1 T.out.2.2.2.2.2.2.2.2.2.2.2.2.2.2.2.1 T.out.2.2.2.2.2.2.2.2.2.2.2.2.2.2.2.2.1 y T.out.2.2.2.2.2.2.2.2.2.2.2.2.2.2.2.2.2).mono ?_); clear HO; rintro e w8 ⟨A, cp, rs, rfl, HR, HO⟩; refine ⟨_, rfl, ?_⟩; simp only [List.cons_append] at HO) | ((with_reducible refine gate_dst (N := 7) rfl ?_); refine Bx.mk 7 #[.int .i64 0, .int .i64 0, .int .i64 0, .int .i64 0, .int .i64 0, .int .i64 0, .int .i64 0, .int .i64 0, .string ⟨#[]⟩, .slice none 0 0] 97 HO ?_; clear HO; intro g7 w7 HO) | ((with_reducible refine Pre.gate_store 97 rfl ?_); refine Bx.sts HO ?_; clear HO; intro w9 HO) | ((with_reducible refine Pre.gate_load 3 rfl ?_); (try (refine gate_guard Z16 ?_; dsimp only)); refine Bx.ld HO Tryz.underlying3 ?_) | ((with_reducible refine Pre.gate_load 9 rfl ?_); (try (refine gate_guard Z16 ?_; dsimp only)); refine Bx.ld HO Tryz.underlying9 ?_) | ((with_reducible refine Pre.gate_load 9 rfl ?_); (try (refine gate_guard Z16 ?_; dsimp only)); refine Bx.ld HO Tryz.underlying9 ?_ (hv := HG.out)))
 case' B =>
  obtain ⟨hae, hfl, _, hia, hg, hs7, hf⟩ := h
  have f1 : (ae != 0) = true := bne_iff_ne.mpr hae
  have f2 : decide (fl ≥ 128) = true := by rw [hfl]; kernel_rfl
  have f3 : (Int.tmod (wrap64 (Int.tdiv fl 64)) 2 == 1) = false := by rw [hfl]; kernel_rfl
  have f4 : (Int.tmod (Int.tdiv fl 64) 2 == 1) = false := by rw [hfl]; kernel_rfl
  clear hae hfl
  have HG := Aside0.mk hg
  have HS7 := Aside0.mk hs7
  have HF := Aside0.mk hf
  clear hg hs7 hf
  obtain ⟨o1, o2, o3, o4, o5, hah⟩ := o
  have f5 : decide (om > 0) = true := decide_eq_true o1
  have f7 : (0 ≤ om) = True := eq_true Z23
  have f6 : (dp.toList == ([] : List UInt8)) = false := beq_eq_false_iff_ne.mpr (fun e => o2 (by rw [ByteArray.toList_eq] at e; cases dp with | mk d => exact congrArg ByteArray.mk (Array.toList_inj.mp e)))
  clear o2
  go_enter Tryz.func34, Tryz.ntmps34
  go_upto_region 9 with (first | ((with_reducible refine gate_dst (N := 2) rfl ?_); refine Bx.mk 2 #[.string p0, .string p1, .string p2, .string p3, .string h0, .string h1, .string id] 46 HO ?_; clear HO; intro g2 w2 HO) | ((with_reducible refine gate_dst (N := 3) rfl ?_); refine Bx.mk 3 #[.int .i64 ty, .int .i64 at_, .string d] 48 HO ?_; clear HO; intro g3 w3 HO) | ((with_reducible refine gate_dst (N := 4) rfl ?_); refine Bx.mk 4 #[.string ⟨#[]⟩, .string ⟨#[]⟩, .string ⟨#[]⟩, .string ⟨#[]⟩, .string ⟨#[]⟩, .string ⟨#[]⟩, .string ⟨#[]⟩] 46 HO ?_; clear HO; intro g4 w4 HO) | ((with_reducible refine Pre.gate_load 48 rfl ?_); refine Bx.lds [.int .i64 ty, .int .i64 at_, .string d] HO Tryz.underlying48 ?_) | ((with_reducible refine gate_callee (f := 78) rfl ?_); refine goesL_ (some 17) rfl rfl Tryz.func78 Z12 rfl #[.agg #[.int .i64 ty, .int .i64 at_, .string d]] rfl (by (try simp only [List.map_toArray, List.map_cons, List.map_nil]); first | done | rfl) ?_; (with_reducible refine (roadbookref21_Take.calls k ty at_ d ae fl pl om i s m c b n l _ _ _ _ HO T.out.1 T.out.2.1 T.out.2.2.1 T.out.2.2.2.1 T.out.2.2.2.2.1 T.out.2.2.2.2.2.1 T.out.2.2.2.2.2.2.1 T.out.2.2.2.2.2.2.2.1 T.out.2.2.2.2.2.2.2.2.1 T.out.2.2.2.2.2.2.2.2.2.1 T.out.2.2.2.2.2.2.2.2.2.2.1 T.out.2.2.2.2.2.2.2.2.2.2.2.1 T.out.2.2.2.2.2.2.2.2.2.2.2.2.1 T.out.2.2.2.2.2.2.2.2.2.2.2.2.2.1 T.out.2.2.2.2.2.2.2.2.2.2.2.2.2.2.1 T.out.2.2.2.2.2.2.2.2.2.2.2.2.2.2.2.1 T.out.2.2.2.2.2.2.2.2.2.2.2.2.2.2.2.2.1 y T.out.2.2.2.2.2.2.2.2.2.2.2.2.2.2.2.2.2).mono ?_); clear HO; rintro e w8 ⟨A, cp, rs, rfl, HR, HO⟩; refine ⟨_, rfl, ?_⟩; simp only [List.cons_append] at HO) | ((with_reducible refine gate_dst (N := 7) rfl ?_); refine Bx.mk 7 #[.int .i64 0, .int .i64 0, .int .i64 0, .int .i64 0, .int .i64 0, .int .i64 0, .int .i64 0, .int .i64 0, .string ⟨#[]⟩, .slice none 0 0] 97 HO ?_; clear HO; intro g7 w7 HO) | ((with_reducible refine Pre.gate_store 97 rfl ?_); refine Bx.sts HO ?_; clear HO; intro w9 HO) | ((with_reducible refine Pre.gate_load 3 rfl ?_); (try (refine gate_guard Z16 ?_; dsimp only)); refine Bx.ld HO Tryz.underlying3 ?_) | ((with_reducible refine Pre.gate_load 9 rfl ?_); (try (refine gate_guard Z16 ?_; dsimp only)); refine Bx.ld HO Tryz.underlying9 ?_) | ((with_reducible refine Pre.gate_load 9 rfl ?_); (try (refine gate_guard Z16 ?_; dsimp only)); refine Bx.ld HO Tryz.underlying9 ?_ (hv := HG.out)))
  refine Bx.rgo (Sq.b 9 0) [] _ roadbookref22_update.tab9 roadbookref22_update.bits9 HO ?_ (List.Sublist.refl _)
  clear HO
  intro w9 HO HS HT_ HW_
  clear HS
  refine Sq.pur 0 (some 40) (Sq.b 9 1) HT_.out ?_
  refine Sq.pur 1 (some 41) (Sq.b 9 3) HT_.out ?_
  refine Bx.rld 2 42 (Sq.b 9 7) HT_ HW_ HO Tryz.underlying3 ?_
  refine Sq.pur 5 (some 45) (Sq.b 9 39) HT_.out ?_
  refine Bx.rld 6 46 (Sq.b 9 103) HT_ HW_ HO Tryz.underlying3 ?_
  refine one_ (i := 3) (N := some 43) (Sq.b 9 111) rfl rfl (one_of HT_.out Z12) Z34 (fun K hK => ?_)
  refine goes_ Tryz.func79 Z12 rfl #[.int .i64 ae] Z16 rfl rfl (by (try simp only [List.map_toArray, List.map_cons, List.map_nil]); first | done | rfl) ?_
  with_reducible refine (roadbookref21_Base.calls ae b _ T.out.2.2.2.2.2.2.2.2.2.2.2.1).mono ?_
  rintro e w9 ⟨rfl, hd⟩
  refine ⟨_, rfl, ?_⟩
  replace HO := Bx.dr HO hd; clear hd
  refine hK.out _ _ HO.out (fun _ => ?_)
  clear hK K
  refine norm_ (a' := ?_) ?_ ?_
  rotate_left
  ·show Act.put _ (some 43) _ = _
   simp only [Act.put, Sq.s1, Sq.s2, Sq.s3, i64_w, i32_w]
   rfl
  refine Sq.pur 4 (some 44) (Sq.b 9 127) HT_.out ?_
  refine Sq.pur 7 (some 47) (Sq.b 9 255) HT_.out ?_
  refine Sq.pur 8 (some 10) (Sq.b 9 511) HT_.out ?_
  refine done_ (done_of HT_.out Z12) ?_
  go_upto_region 10 with fail
 all_goals
  go_upto_region 21 with (first | ((with_reducible refine Pre.gate_load 3 rfl ?_); (try (refine gate_guard Z16 ?_; dsimp only)); refine Bx.ld HO Tryz.underlying3 ?_) | ((with_reducible refine Pre.gate_load 9 rfl ?_); (try (refine gate_guard Z16 ?_; dsimp only)); refine Bx.ld HO Tryz.underlying9 ?_) | ((with_reducible refine gate_callee (f := 80) rfl ?_); refine goesL_ (some 56) rfl rfl Tryz.func80 Z12 rfl #[.int .i64 ae, .string ((⟨#[]⟩ : ByteArray) ++ y), .int .i64 pl] rfl (by (try simp only [List.map_toArray, List.map_cons, List.map_nil]); first | done | rfl) ?_; (with_reducible refine (roadbookref21_Whole.calls k ae ((⟨#[]⟩ : ByteArray) ++ y) pl a _ EW0.out).mono ?_); rintro e w8 ⟨rfl, hb⟩; refine ⟨_, rfl, ?_⟩; replace HO := Bx.stp HO hb; clear hb) | ((with_reducible refine gate_callee (f := 80) rfl ?_); refine goesL_ (some 56) rfl rfl Tryz.func80 Z12 rfl #[.int .i64 ae, .string (ah ++ y), .int .i64 pl] rfl (by (try simp only [List.map_toArray, List.map_cons, List.map_nil]); first | done | rfl) ?_; (with_reducible refine (roadbookref21_Whole.calls k ae (ah ++ y) pl a _ EW.out).mono ?_); rintro e w8 ⟨rfl, hb⟩; refine ⟨_, rfl, ?_⟩; replace HO := Bx.stp HO hb; clear hb) | ((with_reducible refine Pre.gate_store 9 rfl ?_); refine Bx.st HO ?_ (hcs := HS7.out) (hfit := HF.out); clear HO; intro w9 HO) | ((with_reducible refine Pre.gate_load 46 rfl ?_); refine Bx.lds [.string p0, .string r1, .string r2, .string r3, .string h0, .string h1, .string id] HO Tryz.underlying46 ?_) | ((with_reducible refine Pre.gate_load 97 rfl ?_); refine Bx.lds [.int .i64 ae, .int .i64 fl, .int .i64 pl, .int .i64 om, .int .i64 i, .int .i64 s, .int .i64 m, .int .i64 1, .string y, .slice A l.length cp] HO Tryz.underlying97 ?_) | ((with_reducible refine gate_callee (f := 81) rfl ?_); refine goesL_ (some 100) rfl rfl Tryz.func81 Z12 rfl #[.agg #[.string p0, .string r1, .string r2, .string r3, .string h0, .string h1, .string id], .agg #[.int .i64 ae, .int .i64 fl, .int .i64 pl, .int .i64 om, .int .i64 i, .int .i64 s, .int .i64 m, .int .i64 1, .string y, .slice A l.length cp], .string a] rfl (by (try simp only [List.map_toArray, List.map_cons, List.map_nil]); first | done | rfl) ?_; (with_reducible refine (roadbookref22_told.calls ae fl pl om i s m y a A l.length cp X Y p0 r1 r2 r3 h0 h1 id _ _ _ _ HO HT.out).mono ?_); clear HO; rintro e w8 ⟨rfl, HO⟩; refine ⟨_, rfl, ?_⟩) | ((with_reducible refine gate_dst (N := 13) rfl ?_); refine Bx.mk 13 #[.int .i64 0, .int .i64 0, .int .i64 0, .string ⟨#[]⟩, .int .i64 0, .int .i64 0, .string ⟨#[]⟩, .int .i64 0, .int .i64 0, .string ⟨#[]⟩, .int .i64 0, .string ⟨#[]⟩, .int .i64 0, .int .i64 0, .int .i64 0, .int .i64 0, .int .i64 0, .int .i64 0, .int .i64 0, .string ⟨#[]⟩, .string ⟨#[]⟩, .slice none 0 0, .int .i64 0, .string ⟨#[]⟩, .slice none 0 0] 32 HO ?_; clear HO; intro gm gi HO) | ((with_reducible refine Pre.gate_store 32 rfl ?_); refine Bx.sts HO ?_; clear HO; intro w9 HO))
  refine Bx.rgo (Sq.b 6 0) [] [(gm, #[.int .i64 11, .int .i64 0, .int .i64 0, .string ⟨#[]⟩, .int .i64 0, .int .i64 ae, .string a, .int .i64 pl, .int .i64 0, .string Y, .int .i64 m, .string X, .int .i64 s, .int .i64 0, .int .i64 i, .int .i64 0, .int .i64 0, .int .i64 0, .int .i64 0, .string ⟨#[]⟩, .string ⟨#[]⟩, .slice none 0 0, .int .i64 0, .string ⟨#[]⟩, .slice A l.length cp], 32), (g2, #[.string p0, .string r1, .string r2, .string r3, .string h0, .string h1, .string id], 46)] roadbookref22_update.tab21 roadbookref22_update.bits21 HO ?_
  clear HO
  intro w9 HO HS HT_ HW_
  refine Bx.rlds 0 106 (Sq.b 6 1) [.string p0, .string r1, .string r2, .string r3, .string h0, .string h1, .string id] HT_ HW_ HS Tryz.underlying46 ?_
  refine Bx.rlds 1 107 (Sq.b 6 3) [.int .i64 11, .int .i64 0, .int .i64 0, .string ⟨#[]⟩, .int .i64 0, .int .i64 ae, .string a, .int .i64 pl, .int .i64 0, .string Y, .int .i64 m, .string X, .int .i64 s, .int .i64 0, .int .i64 i, .int .i64 0, .int .i64 0, .int .i64 0, .int .i64 0, .string ⟨#[]⟩, .string ⟨#[]⟩, .slice none 0 0, .int .i64 0, .string ⟨#[]⟩, .slice A l.length cp] HT_ HW_ HS Tryz.underlying32 ?_
  refine two_ (i := 2) (j := 3) (Ni := some 108) (Nj := none) (Sq.b 6 7) (Sq.b 6 11) rfl rfl rfl rfl (two_of HT_.out Z12) Z34 Z34 (fun K hK => ?_) (fun K hK => ?_)
  refine roadbookref22_update.slit 108 #[.int .i64 11, .int .i64 0, .int .i64 0, .string ⟨#[]⟩, .int .i64 0, .int .i64 ae, .string a, .int .i64 pl, .int .i64 0, .string Y, .int .i64 m, .string X, .int .i64 s, .int .i64 0, .int .i64 i, .int .i64 0, .int .i64 0, .int .i64 0, .int .i64 0, .string ⟨#[]⟩, .string ⟨#[]⟩, .slice none 0 0, .int .i64 0, .string ⟨#[]⟩, .slice A l.length cp] 32 1 HO ?_
  clear HO
  intro gr w9 HO
  refine hK.out _ _ (HO.out.sub (by repeat (first | exact List.nil_sublist _ | exact List.Sublist.refl _ | apply List.Sublist.cons_cons | apply List.Sublist.cons))) (fun _ => ?_)
  clear hK K
  refine norm_ (a' := ?_) ?_ ?_
  rotate_left
  ·show Act.put _ (some 108) _ = _
   simp only [Act.put, Sq.s1, Sq.s2, Sq.s3, i64_w, i32_w]
   rfl
  refine one_ (i := 3) (N := none) (Sq.b 6 15) rfl rfl (one_of HT_.out Z12) Z34 (fun K hK => ?_)
  refine roadbookref22_update.ssts HO ?_
  clear HO
  intro w9 HO
  refine hK.out _ _ (HO.out.sub (by repeat (first | exact List.nil_sublist _ | exact List.Sublist.refl _ | apply List.Sublist.cons_cons | apply List.Sublist.cons))) (fun _ => ?_)
  clear hK K
  refine Sq.pur 4 (some 5) (Sq.b 6 31) HT_.out ?_
  refine Sq.pur 5 (some 6) (Sq.b 6 63) HT_.out ?_
  refine done_ (done_of HT_.out Z12) ?_
  rotate_left
  refine roadbookref22_update.ssts HO ?_
  clear HO
  intro w9 HO
  refine hK.out _ _ (HO.out.sub (by repeat (first | exact List.nil_sublist _ | exact List.Sublist.refl _ | apply List.Sublist.cons_cons | apply List.Sublist.cons))) (fun _ => ?_)
  clear hK K
  refine one_ (i := 2) (N := some 108) (Sq.b 6 15) rfl rfl (one_of HT_.out Z12) Z34 (fun K hK => ?_)
  refine roadbookref22_update.slit 108 #[.int .i64 11, .int .i64 0, .int .i64 0, .string ⟨#[]⟩, .int .i64 0, .int .i64 ae, .string a, .int .i64 pl, .int .i64 0, .string Y, .int .i64 m, .string X, .int .i64 s, .int .i64 0, .int .i64 i, .int .i64 0, .int .i64 0, .int .i64 0, .int .i64 0, .string ⟨#[]⟩, .string ⟨#[]⟩, .slice none 0 0, .int .i64 0, .string ⟨#[]⟩, .slice A l.length cp] 32 1 HO ?_
  clear HO
  intro gr w9 HO
  refine hK.out _ _ (HO.out.sub (by repeat (first | exact List.nil_sublist _ | exact List.Sublist.refl _ | apply List.Sublist.cons_cons | apply List.Sublist.cons))) (fun _ => ?_)
  clear hK K
  refine norm_ (a' := ?_) ?_ ?_
  rotate_left
  ·show Act.put _ (some 108) _ = _
   simp only [Act.put, Sq.s1, Sq.s2, Sq.s3, i64_w, i32_w]
   rfl
  refine Sq.pur 4 (some 5) (Sq.b 6 31) HT_.out ?_
  refine Sq.pur 5 (some 6) (Sq.b 6 63) HT_.out ?_
  refine done_ (done_of HT_.out Z12) ?_
  all_goals
   go_wp2
   exact Bx.ret [.cell 4 46, .tmp 5, .tmp 6] (Bx.vc HO Tryz.underlying46 (Bx.vt (Bx.vt .nil))) ⟨A, cp, rs, gr, rfl, HR, ⟨HO.out.sub (by repeat (first | exact List.nil_sublist _ | exact List.Sublist.refl _ | apply List.Sublist.cons_cons | apply List.Sublist.cons))⟩⟩

/-! ### roadbookref22_Step: function 18 -/
set_option maxHeartbeats 8000000 in
set_option maxRecDepth 100000 in
theorem roadbookref22_Step.calls6 (k : Nat) (at_ : Int) (d : ByteArray) (p0 p1 p2 p3 h0 h1 id : ByteArray) (hs : List Bx.Box) (B : Nat) (w0 w : World) (HO : Aside0 (Bx.Own B w0 w hs)) (hd : 10 ≤ d.size) (e1 : roadbookref22_fixed.f k d 10 = some (true, 0)) :
  Calls Tryz.prog 18 #[.agg #[.string p0, .string p1, .string p2, .string p3, .string h0, .string h1, .string id], .agg #[.int .i64 6, .int .i64 at_, .string d]] w fun e w' => e = .returned (.tuple #[.agg #[.string p0, .string p1, .string p2, .string p3, .string h0, .string h1, .string (d.extract 2 10)], .slice none 0 0, .int .i64 0]) ∧ Aside0 (Bx.Own B w0 w' hs) := by
 have E1 := Aside0.mk e1
 have s9 : ((10 : Int) ≤ (d.size : Int)) = True := eq_true Z23
 clear e1
 have ic := Tryz.underlying46
 have hu48 := Tryz.underlying48
 go_enter Tryz.func18, Tryz.ntmps18
 go_wp2_with (first | ((with_reducible refine gate_dst (N := 2) rfl ?_); refine Bx.mk 2 #[.string p0, .string p1, .string p2, .string p3, .string h0, .string h1, .string id] 46 HO ?_; clear HO; intro g2 w2 HO) | ((with_reducible refine gate_dst (N := 3) rfl ?_); refine Bx.mk 3 #[.int .i64 6, .int .i64 at_, .string d] 48 HO ?_; clear HO; intro g3 w3 HO) | ((with_reducible refine gate_dst (N := 4) rfl ?_); refine Bx.mk 4 #[.string ⟨#[]⟩, .string ⟨#[]⟩, .string ⟨#[]⟩, .string ⟨#[]⟩, .string ⟨#[]⟩, .string ⟨#[]⟩, .string ⟨#[]⟩] 46 HO ?_; clear HO; intro g4 w4 HO) | ((with_reducible refine Pre.gate_load 3 rfl ?_); (try (refine gate_guard Z16 ?_; dsimp only)); refine Bx.ld HO Tryz.underlying3 ?_) | ((with_reducible refine Pre.gate_load 9 rfl ?_); (try (refine gate_guard Z16 ?_; dsimp only)); refine Bx.ld HO Tryz.underlying9 ?_) | ((with_reducible refine gate_callee (f := 32) rfl ?_); refine goesL_ (some 18) rfl rfl Tryz.func32 Z12 rfl #[.string d, .int .i64 10] rfl (by (try simp only [List.map_toArray, List.map_cons, List.map_nil]); first | done | rfl) ?_; (with_reducible refine (roadbookref22_fixed.calls k d 10 true 0 _ E1.out).mono ?_); rintro e w8 ⟨rfl, hb⟩; refine ⟨_, rfl, ?_⟩; replace HO := Bx.stp HO hb; clear hb) | ((with_reducible refine Pre.gate_store 9 rfl ?_); refine Bx.st HO ?_; clear HO; intro w9 HO) | ((with_reducible refine Pre.gate_load 46 rfl ?_); refine Bx.lds [.string p0, .string p1, .string p2, .string p3, .string h0, .string h1, .string (d.extract 2 10)] HO Tryz.underlying46 ?_) | ((with_reducible refine Pre.gate_store 46 rfl ?_); refine Bx.sts HO ?_; clear HO; intro w9 HO))
 exact Bx.ret [.cell 4 46, .tmp 5, .tmp 6] (Bx.vc HO Tryz.underlying46 (Bx.vt (Bx.vt .nil))) ⟨rfl, ⟨HO.out.sub (by repeat (first | exact List.nil_sublist _ | exact List.Sublist.refl _ | apply List.Sublist.cons_cons | apply List.Sublist.cons))⟩⟩
/-- What a next hop's bytes are. -/
def roadbookref22_Step.Ho (k : Nat) (d x y : ByteArray) (ae n0 f : Int) (b : Bool) (p0 p1 p2 p3 h0 h1 id g0 g1 : ByteArray) (j : Nat) : Prop := (2 ≤ d.size) ∧ (wrap64 (bt d 0) = ae) ∧ (1 ≤ ae ∧ ae ≤ 3) ∧ (roadbookref20_Long.f ae = some n0) ∧ (roadbookref22_fixed.f k d (wrap64 (2 + n0)) = some (true, 0)) ∧ (2 ≤ wrap64 (2 + n0) ∧ wrap64 (2 + n0) ≤ (d.size : Int)) ∧ (d.extract 2 (wrap64 (2 + n0)).toNat = x) ∧ ((ae ≠ 3 ∧ x = y) ∨ (ae = 3 ∧ roadbookref06_Long.f x = some (y, b))) ∧ (roadbookref22_Family.f ae = some f) ∧ (∀ g w, (Instr.indexAt 44 (.pointer (some ⟨g, 4, none⟩)) (.int .i64 f)).run Tryz.prog w = .ok (.pointer (some ⟨g, j, none⟩)) w) ∧ ((#[.string p0, .string p1, .string p2, .string p3, .string h0, .string h1, .string id] : Array Value).setIfInBounds j (.string y) = #[.string p0, .string p1, .string p2, .string p3, .string g0, .string g1, .string id]) ∧ (Nat.ble (j + 1) 7 = true)
set_option maxHeartbeats 8000000 in
set_option maxRecDepth 100000 in
theorem roadbookref22_Step.calls7 (k : Nat) (at_ : Int) (d x y : ByteArray) (ae n0 f : Int) (b : Bool) (p0 p1 p2 p3 h0 h1 id : ByteArray) (g0 g1 : ByteArray) (j : Nat) (hs : List Bx.Box) (B : Nat) (w0 w : World) (HO : Aside0 (Bx.Own B w0 w hs)) (h : roadbookref22_Step.Ho k d x y ae n0 f b p0 p1 p2 p3 h0 h1 id g0 g1 j) :
  Calls Tryz.prog 18 #[.agg #[.string p0, .string p1, .string p2, .string p3, .string h0, .string h1, .string id], .agg #[.int .i64 7, .int .i64 at_, .string d]] w fun e w' => e = .returned (.tuple #[.agg #[.string p0, .string p1, .string p2, .string p3, .string g0, .string g1, .string id], .slice none 0 0, .int .i64 0]) ∧ Aside0 (Bx.Own B w0 w' hs) := by
 have H := Aside0.mk h
 unfold roadbookref22_Step.Ho at H
 clear h
 have ic := Tryz.underlying46
 have hu48 := Tryz.underlying48
 go_enter Tryz.func18, Tryz.ntmps18
 go_wp2_with (first | ((with_reducible refine gate_dst (N := 2) rfl ?_); refine Bx.mk 2 #[.string p0, .string p1, .string p2, .string p3, .string h0, .string h1, .string id] 46 HO ?_; clear HO; intro g2 w2 HO) | ((with_reducible refine gate_dst (N := 3) rfl ?_); refine Bx.mk 3 #[.int .i64 7, .int .i64 at_, .string d] 48 HO ?_; clear HO; intro g3 w3 HO) | ((with_reducible refine gate_dst (N := 4) rfl ?_); refine Bx.mk 4 #[.string ⟨#[]⟩, .string ⟨#[]⟩, .string ⟨#[]⟩, .string ⟨#[]⟩, .string ⟨#[]⟩, .string ⟨#[]⟩, .string ⟨#[]⟩] 46 HO ?_; clear HO; intro g4 w4 HO) | ((with_reducible refine Pre.gate_load 3 rfl ?_); (try (refine gate_guard Z16 ?_; dsimp only)); refine Bx.ld HO Tryz.underlying3 ?_) | ((with_reducible refine Pre.gate_load 9 rfl ?_); (try (refine gate_guard Z16 ?_; dsimp only)); refine Bx.ld HO Tryz.underlying9 ?_) | ((with_reducible refine Pre.gate_load 46 rfl ?_); refine Bx.lds [.string p0, .string p1, .string p2, .string p3, .string h0, .string h1, .string id] HO Tryz.underlying46 ?_) | ((with_reducible refine gate_callee (f := 33) rfl ?_); refine goesL_ (some 38) rfl rfl Tryz.func33 Z12 rfl #[.agg #[.string p0, .string p1, .string p2, .string p3, .string h0, .string h1, .string id], .string d] rfl (by (try simp only [List.map_toArray, List.map_cons, List.map_nil]); first | done | rfl) ?_; (with_reducible refine (roadbookref22_hop.calls k d x y ae n0 f b p0 p1 p2 p3 h0 h1 id g0 g1 j _ _ _ _ HO H.out.1 H.out.2.1 H.out.2.2.1 H.out.2.2.2.1 H.out.2.2.2.2.1 H.out.2.2.2.2.2.1 H.out.2.2.2.2.2.2.1 H.out.2.2.2.2.2.2.2.1 H.out.2.2.2.2.2.2.2.2.1 H.out.2.2.2.2.2.2.2.2.2.1 H.out.2.2.2.2.2.2.2.2.2.2.1 H.out.2.2.2.2.2.2.2.2.2.2.2).mono ?_); clear HO; rintro e w8 ⟨rfl, HO⟩; refine ⟨_, rfl, ?_⟩) | ((with_reducible refine gate_dst (N := 9) rfl ?_); refine Bx.mk 9 #[.string ⟨#[]⟩, .string ⟨#[]⟩, .string ⟨#[]⟩, .string ⟨#[]⟩, .string ⟨#[]⟩, .string ⟨#[]⟩, .string ⟨#[]⟩] 46 HO ?_; clear HO; intro g9 w9 HO) | ((with_reducible refine Pre.gate_store 46 rfl ?_); refine Bx.sts HO ?_; clear HO; intro w9 HO) | ((with_reducible refine Pre.gate_load 46 rfl ?_); refine Bx.lds [.string p0, .string p1, .string p2, .string p3, .string g0, .string g1, .string id] HO Tryz.underlying46 ?_))
 exact Bx.ret [.cell 4 46, .tmp 5, .tmp 6] (Bx.vc HO Tryz.underlying46 (Bx.vt (Bx.vt .nil))) ⟨rfl, ⟨HO.out.sub (by repeat (first | exact List.nil_sublist _ | exact List.Sublist.refl _ | apply List.Sublist.cons_cons | apply List.Sublist.cons))⟩⟩
set_option maxHeartbeats 8000000 in
set_option maxRecDepth 100000 in
theorem roadbookref22_Step.calls8 (k : Nat) (at_ : Int) (d y ah a : ByteArray) (ae fl pl om i s m c b n : Int) (l : List S80) (X Y : ByteArray) (p0 p1 p2 p3 h0 h1 id : ByteArray) (r1 r2 r3 dp : ByteArray) (j : Nat) (hs : List Bx.Box) (B : Nat) (w0 w : World) (HO : Aside0 (Bx.Own B w0 w hs)) (t : roadbookref22_update.Ta k d y ae fl pl om i s m c b n l) (ew : roadbookref21_Whole.f k ae (ah ++ y) pl = some a) (hz : ah.size + (y).size ≤ 9223372036854775807) (ht : roadbookref22_update.To ae m h0 h1 id X Y) (h : (ae = 0 ∧ fl = 0 ∧ (om = 0 ∧ ah = ⟨#[]⟩) ∧ r1 = p1 ∧ r2 = p2 ∧ r3 = p3) ∨ (ae ≠ 0 ∧ fl = 128 ∧ ((om = 0 ∧ ah = ⟨#[]⟩) ∨ (0 < om ∧ dp ≠ ⟨#[]⟩ ∧ b ≤ (dp.size : Int) ∧ 0 ≤ b ∧ om ≤ ((dp.size - b.toNat : Nat) : Int) ∧ (dp.extract b.toNat dp.size).extract 0 om.toNat = ah)) ∧ (∀ g w, (Instr.indexAt 43 (.pointer (some ⟨g, 0, none⟩)) (.int .i64 ae)).run Tryz.prog w = .ok (.pointer (some ⟨g, j, none⟩)) w) ∧ (#[.string p0, .string p1, .string p2, .string p3, .string h0, .string h1, .string id] : Array Value)[j]? = some (.string dp) ∧ (#[.string p0, .string p1, .string p2, .string p3, .string h0, .string h1, .string id] : Array Value).setIfInBounds j (.string a) = #[.string p0, .string r1, .string r2, .string r3, .string h0, .string h1, .string id] ∧ Nat.ble (j + 1) 7 = true)) :
  Calls Tryz.prog 18 #[.agg #[.string p0, .string p1, .string p2, .string p3, .string h0, .string h1, .string id], .agg #[.int .i64 8, .int .i64 at_, .string d]] w fun e w' => ∃ A cp rs gr, e = .returned (.tuple #[.agg #[.string p0, .string r1, .string r2, .string r3, .string h0, .string h1, .string id], .slice (some ⟨gr, 0, none⟩) 1 1, .int .i64 0]) ∧ Aside0 (roadbookref21_Take.Rw A cp l rs) ∧ Aside0 (Bx.Own B w0 w' ((gr, #[.int .i64 11, .int .i64 0, .int .i64 0, .string ⟨#[]⟩, .int .i64 0, .int .i64 ae, .string a, .int .i64 pl, .int .i64 0, .string Y, .int .i64 m, .string X, .int .i64 s, .int .i64 0, .int .i64 i, .int .i64 0, .int .i64 0, .int .i64 0, .int .i64 0, .string ⟨#[]⟩, .string ⟨#[]⟩, .slice none 0 0, .int .i64 0, .string ⟨#[]⟩, .slice A l.length cp], 32) :: (hs ++ rs))) := by
 have ic := Tryz.underlying46
 have hu48 := Tryz.underlying48
 go_enter Tryz.func18, Tryz.ntmps18
 go_wp2_with (first | ((with_reducible refine gate_dst (N := 2) rfl ?_); refine Bx.mk 2 #[.string p0, .string p1, .string p2, .string p3, .string h0, .string h1, .string id] 46 HO ?_; clear HO; intro g2 w2 HO) | ((with_reducible refine gate_dst (N := 3) rfl ?_); refine Bx.mk 3 #[.int .i64 8, .int .i64 at_, .string d] 48 HO ?_; clear HO; intro g3 w3 HO) | ((with_reducible refine gate_dst (N := 4) rfl ?_); refine Bx.mk 4 #[.string ⟨#[]⟩, .string ⟨#[]⟩, .string ⟨#[]⟩, .string ⟨#[]⟩, .string ⟨#[]⟩, .string ⟨#[]⟩, .string ⟨#[]⟩] 46 HO ?_; clear HO; intro g4 w4 HO) | ((with_reducible refine Pre.gate_load 3 rfl ?_); (try (refine gate_guard Z16 ?_; dsimp only)); refine Bx.ld HO Tryz.underlying3 ?_) | ((with_reducible refine Pre.gate_load 9 rfl ?_); (try (refine gate_guard Z16 ?_; dsimp only)); refine Bx.ld HO Tryz.underlying9 ?_) | ((with_reducible refine Pre.gate_load 46 rfl ?_); refine Bx.lds [.string p0, .string p1, .string p2, .string p3, .string h0, .string h1, .string id] HO Tryz.underlying46 ?_) | ((with_reducible refine Pre.gate_load 48 rfl ?_); refine Bx.lds [.int .i64 8, .int .i64 at_, .string d] HO Tryz.underlying48 ?_) | ((with_reducible refine gate_callee (f := 34) rfl ?_); refine goesL_ (some 45) rfl rfl Tryz.func34 Z12 rfl #[.agg #[.string p0, .string p1, .string p2, .string p3, .string h0, .string h1, .string id], .agg #[.int .i64 8, .int .i64 at_, .string d]] rfl (by (try simp only [List.map_toArray, List.map_cons, List.map_nil]); first | done | rfl) ?_; (with_reducible refine (roadbookref22_update.calls k 8 at_ d y ah a ae fl pl om i s m c b n l X Y p0 p1 p2 p3 h0 h1 id r1 r2 r3 dp j _ _ _ _ HO t ew hz ht h).mono ?_); clear HO; rintro e w8 ⟨A, cp, rs, gr, rfl, HR, HO⟩; refine ⟨_, rfl, ?_⟩) | ((with_reducible refine Pre.gate_store 46 rfl ?_); refine Bx.sts HO ?_; clear HO; intro w9 HO))
 exact Bx.ret [.cell 4 46, .tmp 5, .tmp 6] (Bx.vc HO Tryz.underlying46 (Bx.vt (Bx.vt .nil))) ⟨A, cp, rs, gr, rfl, HR, ⟨HO.out.sub (by repeat (first | exact List.nil_sublist _ | exact List.Sublist.refl _ | apply List.Sublist.cons_cons | apply List.Sublist.cons))⟩⟩

end Go.Proofs.YtnllanjoebjeiaaGreat.PV
