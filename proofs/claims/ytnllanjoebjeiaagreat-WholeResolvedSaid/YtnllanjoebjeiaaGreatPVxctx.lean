-- Written by mp.py, a program of this work (wip/tools), out of the translation; Lean checks it.
import Derived.Test.YtnllanjoebjeiaaGreatPVxZ
import Derived.Test.YtnllanjoebjeiaaGreatPVxbits
import Derived.Test.YtnllanjoebjeiaaGreatPVxrouteTake
import Derived.Test.YtnllanjoebjeiaaGreatPVxprefix
import Derived.Test.YtnllanjoebjeiaaGreatBox
namespace Go.Proofs.YtnllanjoebjeiaaGreat.PV
open Go.RowKit Go.Proofs.YtnllanjoebjeiaaGreatW.PrintWords Go.Proofs.YtnllanjoebjeiaaGreatW.PrintLast Go.Proofs.YtnllanjoebjeiaaGreatW.PrintMore
attribute [local go_sem] max2_int min2_int max_two min_two max_three min_three max_four min_four   -- for this text's walks alone
set_option linter.unusedVariables false
set_option linter.unusedSimpArgs false

/-! ### ctx_Family: function 68 -/
def ctx_Family.f (a0 : Int) : Option (Int) := if a0 = 1 then (some 0) else (if a0 = 2 then (some 1) else (if a0 = 3 then (some 1) else (some (-1))))
set_option maxHeartbeats 8000000 in
set_option maxRecDepth 100000 in
theorem ctx_Family.calls (a0 : Int) (r : Int) (w : World) (h : ctx_Family.f a0 = some r) :
  Calls Tryz.prog 68 #[.int .i64 a0] w fun e w' => e = .returned (.int .i64 r) ∧ Drawn0 w w' := by
 have H : (if a0 = 1 then (some 0) else (if a0 = 2 then (some 1) else (if a0 = 3 then (some 1) else (some (-1))))) = some r := h
 clear h
 by_cases c2 : a0 = 1
 ·rw [if_pos c2] at H
  have cK : (a0 == 1) = true := beq_iff_eq.mpr c2
  have cR : (a0 != 1) = false := bne_eq_false_iff_eq.mpr c2
  clear c2
  obtain rfl := Option.some.inj H
  go_enter Tryz.func68, Tryz.ntmps68
  go_wp2
  go_ret
  exact ⟨Z8, Z11⟩
 ·rw [if_neg c2] at H
  have cK : (a0 == 1) = false := beq_eq_false_iff_ne.mpr c2
  have cR : (a0 != 1) = true := bne_iff_ne.mpr c2
  by_cases c3 : a0 = 2
  ·rw [if_pos c3] at H
   have bU : (a0 == 2) = true := beq_iff_eq.mpr c3
   have ck : (a0 != 2) = false := bne_eq_false_iff_eq.mpr c3
   clear c3
   obtain rfl := Option.some.inj H
   go_enter Tryz.func68, Tryz.ntmps68
   go_wp2
   go_ret
   exact ⟨Z8, Z11⟩
  ·rw [if_neg c3] at H
   have bU : (a0 == 2) = false := beq_eq_false_iff_ne.mpr c3
   have ck : (a0 != 2) = true := bne_iff_ne.mpr c3
   by_cases c4 : a0 = 3
   ·rw [if_pos c4] at H
    have bP : (a0 == 3) = true := beq_iff_eq.mpr c4
    have cl : (a0 != 3) = false := bne_eq_false_iff_eq.mpr c4
    clear c4
    obtain rfl := Option.some.inj H
    go_enter Tryz.func68, Tryz.ntmps68
    go_wp2
    go_ret
    exact ⟨Z8, Z11⟩
   ·rw [if_neg c4] at H
    have bP : (a0 == 3) = false := beq_eq_false_iff_ne.mpr c4
    have cl : (a0 != 3) = true := bne_iff_ne.mpr c4
    obtain rfl := Option.some.inj H
    go_enter Tryz.func68, Tryz.ntmps68
    go_wp2
    go_ret
    exact ⟨Z8, Z11⟩

/-! ### ctx_either: function 125 -/
def ctx_either.f (a0 : ByteArray) (a1 : Bool) : Option (Bool) := if a0.toList = ([] : List UInt8) then (some true) else (some a1)
set_option maxHeartbeats 8000000 in
set_option maxRecDepth 100000 in
theorem ctx_either.calls (a0 : ByteArray) (a1 : Bool) (r : Bool) (w : World) (h : ctx_either.f a0 a1 = some r) :
  Calls Tryz.prog 125 #[.string a0, .bool a1] w fun e w' => e = .returned (.bool r) ∧ Drawn0 w w' := by
 have H : (if a0.toList = ([] : List UInt8) then (some true) else (some a1)) = some r := h
 clear h
 by_cases c3 : a0.toList = ([] : List UInt8)
 ·rw [if_pos c3] at H
  have bU : (a0.toList == ([] : List UInt8)) = true := beq_iff_eq.mpr c3
  have ck : (a0.toList != ([] : List UInt8)) = false := bne_eq_false_iff_eq.mpr c3
  clear c3
  obtain rfl := Option.some.inj H
  go_enter Tryz.func125, Tryz.ntmps125
  go_wp2
  go_ret
  exact ⟨Z8, Z11⟩
 ·rw [if_neg c3] at H
  have bU : (a0.toList == ([] : List UInt8)) = false := beq_eq_false_iff_ne.mpr c3
  have ck : (a0.toList != ([] : List UInt8)) = true := bne_iff_ne.mpr c3
  obtain rfl := Option.some.inj H
  go_enter Tryz.func125, Tryz.ntmps125
  go_wp2
  go_ret
  exact ⟨Z8, Z11⟩

/-! ### ctx_stepper_id: function 174 -/
set_option maxHeartbeats 8000000 in
set_option maxRecDepth 100000 in
theorem ctx_stepper_id.calls (g : Nat) (hs hs' : List Bx.Box) (p0 p1 p2 p3 h0 h1 id : ByteArray) (d : ByteArray) (hd : d.size = 10) (B : Nat) (w0 w : World) (HO : Aside0 (Bx.Own B w0 w hs)) (hU : Bx.Upd hs g #[.string p0, .string p1, .string p2, .string p3, .string h0, .string h1, .string id] #[.string p0, .string p1, .string p2, .string p3, .string h0, .string h1, .string (d.extract 2 10)] 177 hs') :
  Calls Tryz.prog 174 #[.pointer (some ⟨g, 0, none⟩), .string d] w fun e w' => e = .returned (.int .i64 0) ∧ Aside0 (Bx.Own B w0 w' hs') := by
 have HD := Aside0.mk hd
 have hA := hU.at
 have hu177 := Tryz.underlying177
 have ic := Tryz.underlying46
 go_enter Tryz.func174, Tryz.ntmps174
 go_wp2_with (first | ((with_reducible refine gate_callee (f := 194) rfl ?_); refine goesL_ (some 9) rfl rfl Tryz.func194 Z12 rfl #[.string d, .int .i64 10] rfl (by (try simp only [List.map_toArray, List.map_cons, List.map_nil]); first | done | rfl) ?_; (with_reducible refine (ctx_counts.calls d HD.out _).mono ?_); rintro e w8 ⟨rfl, hb⟩; refine ⟨_, rfl, ?_⟩; replace HO := Bx.stp HO hb; clear hb) | ((with_reducible refine Pre.gate_store 9 rfl ?_); refine Bx.st HO ?_; clear HO; intro w9 HO))
 go_ret
 exact ⟨rfl, HO⟩

/-! ### ctx_stepper_address: function 197 -/
def ctx_stepper_address.T4 : Bool × List (List Nat × List Nat) := (true, [([], []), ([], []), ([1], [1]), ([0], [0]), ([3], [3]), ([4], [4]), ([5, 2], [2, 5]), ([6], [6]), ([7, 0, 1, 2, 3, 4, 5, 6, 7], [7])])
def ctx_stepper_address.B4 : List Nat := [0, 0, 2, 1, 9, 25, 63, 127, 255]
theorem ctx_stepper_address.tab4 : rtab .any (opsOf Tryz.f197 4) = ctx_stepper_address.T4 := by kernel_rfl
theorem ctx_stepper_address.bits4 : waitsOk ctx_stepper_address.T4.2 ctx_stepper_address.B4 = true := by kernel_rfl
set_option maxHeartbeats 8000000 in
set_option maxRecDepth 100000 in
/-- Of the example's Update. -/
theorem ctx_stepper_address.calls (g : Nat) (hs : List Bx.Box) (p0 p1 p2 p3 h0 h1 id : ByteArray) (B : Nat) (w0 w : World) (HO : Aside0 (Bx.Own B w0 w hs)) (hA : Bx.At hs g #[.string p0, .string p1, .string p2, .string p3, .string h0, .string h1, .string id] 177) :
  Calls Tryz.prog 197 #[.pointer (some ⟨g, 0, none⟩), .agg #[.int .i64 1, .int .i64 128, .int .i64 8, .int .i64 0, .int .i64 0, .int .i64 0, .int .i64 1, .int .i64 1, .string ⟨#[10]⟩, .slice none 0 0]] w fun e w' => e = .returned (.tuple #[.string ⟨#[10, 0, 0, 0]⟩, .bool true]) ∧ Aside0 (Bx.Own B w0 w' hs) := by
 have hu177 := Tryz.underlying177
 have ic := Tryz.underlying46
 have hu97 := Tryz.underlying97
 have hix : ∀ w, (Instr.index 196 (.agg #[.int .i64 0, .int .i64 4, .int .i64 16, .int .i64 16]) (.int .i64 1)).run Tryz.prog w = .ok (.int .i64 4) w := by intro w; kernel_rfl
 go_enter Tryz.func197, Tryz.ntmps197
 go_upto_region 4 with (first | ((with_reducible refine gate_dst (N := 3) rfl ?_); refine Bx.mk 3 #[.int .i64 1, .int .i64 128, .int .i64 8, .int .i64 0, .int .i64 0, .int .i64 0, .int .i64 1, .int .i64 1, .string ⟨#[10]⟩, .slice none 0 0] 97 HO ?_; clear HO; intro g1 w3 HO) | ((with_reducible refine Pre.gate_load 3 rfl ?_); (try (refine gate_guard Z16 ?_; dsimp only)); refine Bx.ld HO Tryz.underlying3 ?_))
 refine Bx.rgo (Sq.b 9 0) [] _ ctx_stepper_address.tab4 ctx_stepper_address.bits4 HO ?_ (List.Sublist.refl _)
 clear HO
 intro w9 HO HS HT_ HW_
 clear HS
 refine Sq.pur 0 (some 17) (Sq.b 9 1) HT_.out ?_
 refine Sq.pur 1 (some 18) (Sq.b 9 3) HT_.out ?_
 refine Bx.rld 2 19 (Sq.b 9 7) HT_ HW_ HO Tryz.underlying3 ?_
 refine Sq.pur 3 (some 20) (Sq.b 9 15) HT_.out ?_
 refine Sq.pur 4 (some 21) (Sq.b 9 31) HT_.out ?_
 refine Sq.pur 5 (some 22) (Sq.b 9 63) HT_.out ?_
 refine Sq.pur 6 (some 23) (Sq.b 9 127) HT_.out ?_
 refine Bx.rld 7 24 (Sq.b 9 255) HT_ HW_ HO Tryz.underlying9 ?_
 refine Sq.pur 8 (some 8) (Sq.b 9 511) HT_.out ?_
 refine done_ (done_of HT_.out Z12) ?_
 go_wp2_with (first | ((with_reducible refine Pre.gate_load 3 rfl ?_); (try (refine gate_guard Z16 ?_; dsimp only)); refine Bx.ld HO Tryz.underlying3 ?_) | ((with_reducible refine Pre.gate_load 9 rfl ?_); (try (refine gate_guard Z16 ?_; dsimp only)); refine Bx.ld HO Tryz.underlying9 ?_) | ((with_reducible refine gate_callee (f := 200) rfl ?_); refine goesL_ (some 44) rfl rfl Tryz.func200 Z12 rfl #[.string ⟨#[10]⟩, .int .i64 4] rfl (by (try simp only [List.map_toArray, List.map_cons, List.map_nil]); first | done | rfl) ?_; (with_reducible refine (prefix_Fill.calls ⟨#[10]⟩ 4 ⟨#[10, 0, 0, 0]⟩ _ Z12).mono ?_); rintro e w8 ⟨rfl, hb⟩; refine ⟨_, rfl, ?_⟩; replace HO := Bx.stp HO hb; clear hb) | ((with_reducible refine gate_callee (f := 185) rfl ?_); refine goesL_ (some 55) rfl rfl Tryz.func185 Z12 rfl #[.string ⟨#[10, 0, 0, 0]⟩, .int .i64 8] rfl (by (try simp only [List.map_toArray, List.map_cons, List.map_nil]); first | done | rfl) ?_; (with_reducible refine (bits_Keep.calls ⟨#[10, 0, 0, 0]⟩ 8 ⟨#[10, 0, 0, 0]⟩ _ Z12).mono ?_); rintro e w8 ⟨rfl, hb⟩; refine ⟨_, rfl, ?_⟩; replace HO := Bx.stp HO hb; clear hb))
 go_ret2
 exact ⟨rfl, Bx.drop HO⟩

/-! ### ctx_stepper_flags: function 198 -/
def ctx_stepper_flags.T3 : Bool × List (List Nat × List Nat) := (true, [([], []), ([], []), ([1], [1]), ([], []), ([0], [0]), ([4], [4]), ([5], [5]), ([6, 2, 0, 1, 2, 3], [2, 6]), ([7, 3, 0, 1, 2, 3], [3, 7])])
def ctx_stepper_flags.B3 : List Nat := [0, 0, 2, 0, 1, 17, 49, 127, 255]
theorem ctx_stepper_flags.tab3 : rtab .any (opsOf Tryz.f198 3) = ctx_stepper_flags.T3 := by kernel_rfl
theorem ctx_stepper_flags.bits3 : waitsOk ctx_stepper_flags.T3.2 ctx_stepper_flags.B3 = true := by kernel_rfl
set_option maxHeartbeats 8000000 in
set_option maxRecDepth 100000 in
/-- Of the example's Update. -/
theorem ctx_stepper_flags.calls (g : Nat) (hs hs' : List Bx.Box) (p0 p1 p2 p3 h0 h1 id : ByteArray) (a : ByteArray) (B : Nat) (w0 w : World) (HO : Aside0 (Bx.Own B w0 w hs)) (hU : Bx.Upd hs g #[.string p0, .string p1, .string p2, .string p3, .string h0, .string h1, .string id] #[.string p0, .string a, .string p2, .string p3, .string h0, .string h1, .string id] 177 hs') :
  Calls Tryz.prog 198 #[.pointer (some ⟨g, 0, none⟩), .agg #[.int .i64 1, .int .i64 128, .int .i64 8, .int .i64 0, .int .i64 0, .int .i64 0, .int .i64 1, .int .i64 1, .string ⟨#[10]⟩, .slice none 0 0], .string a] w fun e w' => e = .returned (.tuple #[]) ∧ Aside0 (Bx.Own B w0 w' hs') := by
 have hA := hU.at
 have hu177 := Tryz.underlying177
 have ic := Tryz.underlying46
 have hu97 := Tryz.underlying97
 go_enter Tryz.func198, Tryz.ntmps198
 go_upto_region 3 with (first | ((with_reducible refine gate_dst (N := 4) rfl ?_); refine Bx.mk 4 #[.int .i64 1, .int .i64 128, .int .i64 8, .int .i64 0, .int .i64 0, .int .i64 0, .int .i64 1, .int .i64 1, .string ⟨#[10]⟩, .slice none 0 0] 97 HO ?_; clear HO; intro g1 w4 HO) | ((with_reducible refine Pre.gate_load 3 rfl ?_); (try (refine gate_guard Z16 ?_; dsimp only)); refine Bx.ld HO Tryz.underlying3 ?_))
 refine Bx.rgo (Sq.b 9 0) [8] _ ctx_stepper_flags.tab3 ctx_stepper_flags.bits3 HO ?_ (List.Sublist.refl _)
 clear HO
 intro w9 HO HS HT_ HW_
 clear HS
 refine Sq.pur 0 (some 14) (Sq.b 9 1) HT_.out ?_
 refine Sq.pur 1 (some 15) (Sq.b 9 3) HT_.out ?_
 refine Bx.rld 2 16 (Sq.b 9 7) HT_ HW_ HO Tryz.underlying3 ?_
 refine Sq.pur 3 (some 17) (Sq.b 9 15) HT_.out ?_
 refine Sq.pur 4 (some 18) (Sq.b 9 31) HT_.out ?_
 refine Sq.pur 5 (some 19) (Sq.b 9 63) HT_.out ?_
 refine Sq.pur 6 (some 20) (Sq.b 9 127) HT_.out ?_
 refine Sq.pur 7 (some 21) (Sq.b 9 255) HT_.out ?_
 refine Bx.rst 8 (Sq.b 9 511) HT_ HO ?_
 clear HO
 intro w9 HO
 refine done_ (done_of HT_.out Z12) ?_
 go_wp2_with (first | ((with_reducible refine Pre.gate_load 3 rfl ?_); (try (refine gate_guard Z16 ?_; dsimp only)); refine Bx.ld HO Tryz.underlying3 ?_))
 go_end0
 exact ⟨rfl, Bx.drop HO⟩

/-! ### ctx_stepper_told: function 199 -/
set_option maxHeartbeats 8000000 in
set_option maxRecDepth 100000 in
/-- Of the example's Update, the example's router-id being known. -/
theorem ctx_stepper_told.calls (g : Nat) (hs : List Bx.Box) (p0 p1 p2 p3 h0 h1 : ByteArray) (B : Nat) (w0 w : World) (HO : Aside0 (Bx.Own B w0 w hs)) (hA : Bx.At hs g #[.string p0, .string p1, .string p2, .string p3, .string h0, .string h1, .string ⟨#[97, 98, 99, 100, 101, 102, 103, 104]⟩] 177) :
  Calls Tryz.prog 199 #[.pointer (some ⟨g, 0, none⟩), .agg #[.int .i64 1, .int .i64 128, .int .i64 8, .int .i64 0, .int .i64 0, .int .i64 0, .int .i64 1, .int .i64 1, .string ⟨#[10]⟩, .slice none 0 0]] w fun e w' => e = .returned (.bool true) ∧ Aside0 (Bx.Own B w0 w' hs) := by
 have hu177 := Tryz.underlying177
 have ic := Tryz.underlying46
 have hu97 := Tryz.underlying97
 go_enter Tryz.func199, Tryz.ntmps199
 go_wp2_with (first | ((with_reducible refine gate_dst (N := 3) rfl ?_); refine Bx.mk 3 #[.int .i64 1, .int .i64 128, .int .i64 8, .int .i64 0, .int .i64 0, .int .i64 0, .int .i64 1, .int .i64 1, .string ⟨#[10]⟩, .slice none 0 0] 97 HO ?_; clear HO; intro g1 w3 HO) | ((with_reducible refine Pre.gate_load 3 rfl ?_); (try (refine gate_guard Z16 ?_; dsimp only)); refine Bx.ld HO Tryz.underlying3 ?_) | ((with_reducible refine Pre.gate_load 9 rfl ?_); (try (refine gate_guard Z16 ?_; dsimp only)); refine Bx.ld HO Tryz.underlying9 ?_))
 go_ret
 exact ⟨rfl, Bx.drop HO⟩

/-! ### ctx_stepper_update: function 176 -/
def ctx_stepper_update.T12 : Bool × List (List Nat × List Nat) := (true, [([], []), ([0], [0]), ([1], [1]), ([2], [2]), ([3], [3]), ([], []), ([], []), ([6], [6]), ([7], [7]), ([5], [5]), ([9], [9]), ([10], [10]), ([11, 8], [8, 11]), ([12], [12]), ([0, 1, 2, 3, 4, 6, 7], []), ([14, 4, 8, 0, 1, 2, 3, 4, 6, 7], [4, 14]), ([0, 1, 2, 3, 4, 5, 6, 7, 8, 9, 10, 11, 12, 13, 14, 15], []), ([16, 13, 15, 0, 1, 2, 3, 4, 5, 6, 7, 8, 9, 10, 11, 12, 13, 14, 15], [13, 16])])
def ctx_stepper_update.B12 : List Nat := [0, 1, 3, 7, 15, 0, 0, 64, 192, 32, 544, 1568, 4064, 8160, 223, 16863, 65535, 131071]
theorem ctx_stepper_update.tab12 : rtab .any (opsOf Tryz.f176 12) = ctx_stepper_update.T12 := by kernel_rfl
theorem ctx_stepper_update.bits12 : waitsOk ctx_stepper_update.T12.2 ctx_stepper_update.B12 = true := by kernel_rfl
theorem ctx_stepper_update.bd : Tryz.prog.built 32 [(0, .int .i64 11), (5, .int .i64 1), (6, .string ⟨#[10, 0, 0, 0]⟩), (7, .int .i64 8), (14, .int .i64 0), (12, .int .i64 0), (10, .int .i64 1), (24, .slice none 0 0)] = some #[.int .i64 11, .int .i64 0, .int .i64 0, .string ⟨#[]⟩, .int .i64 0, .int .i64 1, .string ⟨#[10, 0, 0, 0]⟩, .int .i64 8, .int .i64 0, .string ⟨#[]⟩, .int .i64 1, .string ⟨#[]⟩, .int .i64 0, .int .i64 0, .int .i64 0, .int .i64 0, .int .i64 0, .int .i64 0, .int .i64 0, .string ⟨#[]⟩, .string ⟨#[]⟩, .slice none 0 0, .int .i64 0, .string ⟨#[]⟩, .slice none 0 0] := by kernel_rfl
set_option maxHeartbeats 8000000 in
set_option maxRecDepth 100000 in
/-- Of the example's Update. -/
theorem ctx_stepper_update.calls (at_ : Int) (g : Nat) (hs hs' : List Bx.Box) (p0 p1 p2 p3 h0 h1 : ByteArray) (B : Nat) (w0 w : World) (HO : Aside0 (Bx.Own B w0 w hs)) (hU : Bx.Upd hs g #[.string p0, .string p1, .string p2, .string p3, .string h0, .string h1, .string ⟨#[97, 98, 99, 100, 101, 102, 103, 104]⟩] #[.string p0, .string ⟨#[10, 0, 0, 0]⟩, .string p2, .string p3, .string h0, .string h1, .string ⟨#[97, 98, 99, 100, 101, 102, 103, 104]⟩] 177 hs') :
  Calls Tryz.prog 176 #[.pointer (some ⟨g, 0, none⟩), .agg #[.int .i64 8, .int .i64 at_, .string route_Take.d]] w fun e w' => ∃ gm, e = .returned (.tuple #[.slice (some ⟨gm, 0, none⟩) 1 1, .int .i64 0]) ∧ Aside0 (Bx.Own B w0 w' ((gm, #[.int .i64 11, .int .i64 0, .int .i64 0, .string ⟨#[]⟩, .int .i64 0, .int .i64 1, .string ⟨#[10, 0, 0, 0]⟩, .int .i64 8, .int .i64 0, .string h0, .int .i64 1, .string ⟨#[97, 98, 99, 100, 101, 102, 103, 104]⟩, .int .i64 0, .int .i64 0, .int .i64 0, .int .i64 0, .int .i64 0, .int .i64 0, .int .i64 0, .string ⟨#[]⟩, .string ⟨#[]⟩, .slice none 0 0, .int .i64 0, .string ⟨#[]⟩, .slice none 0 0], 32) :: hs')) := by
 have hA := hU.at
 have hA' := hU.at'
 have hu177 := Tryz.underlying177
 have ic := Tryz.underlying46
 have hu97 := Tryz.underlying97
 have dP := Tryz.underlying32
 obtain ⟨d, hd⟩ : ∃ d, d = route_Take.d := ⟨_, rfl⟩
 rw [← hd]
 have HD := Aside0.mk hd
 clear hd
 go_enter Tryz.func176, Tryz.ntmps176
 go_upto_region 12 with (first | ((with_reducible refine gate_dst (N := 3) rfl ?_); refine Bx.mk 3 #[.int .i64 8, .int .i64 at_, .string d] 48 HO ?_; clear HO; intro g3 w3 HO) | ((with_reducible refine gate_dst (N := 6) rfl ?_); refine Bx.mk 6 #[.int .i64 0, .int .i64 0, .int .i64 0, .int .i64 0, .int .i64 0, .int .i64 0, .int .i64 0, .int .i64 0, .string ⟨#[]⟩, .slice none 0 0] 97 HO ?_; clear HO; intro g6 w6 HO) | ((with_reducible refine gate_dst (N := 10) rfl ?_); refine Bx.mk 10 #[.int .i64 0, .int .i64 0, .int .i64 0, .string ⟨#[]⟩, .int .i64 0, .int .i64 0, .string ⟨#[]⟩, .int .i64 0, .int .i64 0, .string ⟨#[]⟩, .int .i64 0, .string ⟨#[]⟩, .int .i64 0, .int .i64 0, .int .i64 0, .int .i64 0, .int .i64 0, .int .i64 0, .int .i64 0, .string ⟨#[]⟩, .string ⟨#[]⟩, .slice none 0 0, .int .i64 0, .string ⟨#[]⟩, .slice none 0 0] 32 HO ?_; clear HO; intro gm dL HO) | ((with_reducible refine Pre.gate_load 48 rfl ?_); refine Bx.lds [.int .i64 8, .int .i64 at_, .string d] HO Tryz.underlying48 ?_) | ((with_reducible refine gate_callee (f := 196) rfl ?_); refine goesL_ (some 13) rfl rfl Tryz.func196 Z12 rfl #[.agg #[.int .i64 8, .int .i64 at_, .string d]] rfl (by (try simp only [List.map_toArray, List.map_cons, List.map_nil]); first | done | rfl) ?_; (with_reducible refine ((by rw [HD.out]; exact route_Take.calls at_ _ : Calls _ _ #[.agg #[.int .i64 8, .int .i64 at_, .string d]] _ _)).mono ?_); rintro e w8 ⟨rfl, hb⟩; refine ⟨_, rfl, ?_⟩; replace HO := Bx.stp HO hb; clear hb) | ((with_reducible refine Pre.gate_store 97 rfl ?_); refine Bx.sts HO ?_; clear HO; intro w9 HO) | ((with_reducible refine Pre.gate_load 97 rfl ?_); refine Bx.lds [.int .i64 1, .int .i64 128, .int .i64 8, .int .i64 0, .int .i64 0, .int .i64 0, .int .i64 1, .int .i64 1, .string ⟨#[10]⟩, .slice none 0 0] HO Tryz.underlying97 ?_) | ((with_reducible refine gate_callee (f := 197) rfl ?_); refine goesL_ (some 23) rfl rfl Tryz.func197 Z12 rfl #[.pointer (some ⟨g, 0, none⟩), .agg #[.int .i64 1, .int .i64 128, .int .i64 8, .int .i64 0, .int .i64 0, .int .i64 0, .int .i64 1, .int .i64 1, .string ⟨#[10]⟩, .slice none 0 0]] rfl (by (try simp only [List.map_toArray, List.map_cons, List.map_nil]); first | done | rfl) ?_; (with_reducible refine (ctx_stepper_address.calls g _ p0 p1 p2 p3 h0 h1 ⟨#[97, 98, 99, 100, 101, 102, 103, 104]⟩ B w0 _ HO (by repeat (first | exact .here | assumption | apply Bx.At.there))).mono ?_); clear HO; rintro e w8 ⟨rfl, HO⟩; refine ⟨_, rfl, ?_⟩) | ((with_reducible refine gate_callee (f := 198) rfl ?_); refine goesL_ (some 31) rfl rfl Tryz.func198 Z12 rfl #[.pointer (some ⟨g, 0, none⟩), .agg #[.int .i64 1, .int .i64 128, .int .i64 8, .int .i64 0, .int .i64 0, .int .i64 0, .int .i64 1, .int .i64 1, .string ⟨#[10]⟩, .slice none 0 0], .string ⟨#[10, 0, 0, 0]⟩] rfl (by (try simp only [List.map_toArray, List.map_cons, List.map_nil]); first | done | rfl) ?_; (with_reducible refine (ctx_stepper_flags.calls g _ _ p0 p1 p2 p3 h0 h1 ⟨#[97, 98, 99, 100, 101, 102, 103, 104]⟩ ⟨#[10, 0, 0, 0]⟩ B w0 _ HO (by repeat (first | exact .here | assumption | apply Bx.Upd.there))).mono ?_); clear HO; rintro e w8 ⟨rfl, HO⟩; refine ⟨_, rfl, ?_⟩) | ((with_reducible refine gate_callee (f := 199) rfl ?_); refine goesL_ (some 34) rfl rfl Tryz.func199 Z12 rfl #[.pointer (some ⟨g, 0, none⟩), .agg #[.int .i64 1, .int .i64 128, .int .i64 8, .int .i64 0, .int .i64 0, .int .i64 0, .int .i64 1, .int .i64 1, .string ⟨#[10]⟩, .slice none 0 0]] rfl (by (try simp only [List.map_toArray, List.map_cons, List.map_nil]); first | done | rfl) ?_; (with_reducible refine (ctx_stepper_told.calls g _ p0 ⟨#[10, 0, 0, 0]⟩ p2 p3 h0 h1 B w0 _ HO (by repeat (first | exact .here | assumption | apply Bx.At.there))).mono ?_); clear HO; rintro e w8 ⟨rfl, HO⟩; refine ⟨_, rfl, ?_⟩) | ((with_reducible refine Pre.gate_load 3 rfl ?_); (try (refine gate_guard Z16 ?_; dsimp only)); refine Bx.ld HO Tryz.underlying3 ?_) | ((with_reducible refine Pre.gate_load 30 rfl ?_); (try (refine gate_guard Z16 ?_; dsimp only)); refine Bx.ld HO Tryz.underlying30 ?_) | ((with_reducible refine gate_dst (N := 49) rfl ?_); refine Pre.build_event 49 32 [(0, .const (.int .i64 11)), (5, .tmp 37), (6, .tmp 38), (7, .tmp 40), (14, .tmp 42), (12, .tmp 44), (10, .tmp 46), (24, .tmp 48)] rfl rfl rfl (ctx_stepper_update.bd) ?_) | ((with_reducible refine Pre.gate_store 32 rfl ?_); refine Bx.sts HO ?_; clear HO; intro w9 HO))
 have sS : ∀ v M, Bx.Own B w0 v ((gm, M, 32) :: (g6, #[.int .i64 1, .int .i64 128, .int .i64 8, .int .i64 0, .int .i64 0, .int .i64 0, .int .i64 1, .int .i64 1, .string ⟨#[10]⟩, .slice none 0 0], 97) :: (g3, #[.int .i64 8, .int .i64 at_, .string d], 48) :: hs') → M[5]? = some (.int .i64 1) → (Bx.Own B w0 v hs' ∧ v.cell? ⟨gm, 5, none⟩ = some (.int .i64 1)) := fun v M h hM => ⟨h.sub (by repeat (first | exact List.Sublist.refl _ | apply List.Sublist.cons)), (blk_cell (h.get .here) 5).trans hM⟩
 refine Bx.rgoS (Sq.b 18 0) [17] (fun v => Bx.Own B w0 v hs' ∧ v.cell? ⟨gm, 5, none⟩ = some (.int .i64 1)) ctx_stepper_update.tab12 ctx_stepper_update.bits12 HO ?_ (fun v h => sS v _ h rfl)
 clear HO
 intro w9 HO HS HT_ HW_
 refine Sq.pur 0 (some 53) (Sq.b 18 1) HT_.out ?_
 refine Sq.pur 1 (some 54) (Sq.b 18 3) HT_.out ?_
 refine Sq.pur 2 (some 55) (Sq.b 18 7) HT_.out ?_
 refine Sq.pur 3 (some 56) (Sq.b 18 15) HT_.out ?_
 refine Bx.rldS 4 57 (Sq.b 18 31) HT_ HW_ HS (fun v h => h.1) Tryz.underlying9 ?_ (ha := hA')
 refine Sq.pur 5 (some 58) (Sq.b 18 63) HT_.out ?_
 refine Sq.pur 6 (some 59) (Sq.b 18 127) HT_.out ?_
 refine Bx.rldc 7 60 (Sq.b 18 255) HT_ HW_ HS (fun v h => h.2) Tryz.underlying3 ?_
 refine Sq.pur 9 (some 62) (Sq.b 18 767) HT_.out ?_
 refine Sq.pur 10 (some 63) (Sq.b 18 1791) HT_.out ?_
 refine Sq.pur 11 (some 64) (Sq.b 18 3839) HT_.out ?_
 refine Sq.pur 14 (some 67) (Sq.b 18 20223) HT_.out ?_
 refine one_ (i := 8) (N := some 61) (Sq.b 18 20479) rfl rfl (one_of HT_.out Z12) Z34 (fun K hK => ?_)
 refine goes_ Tryz.func68 Z12 rfl #[.int .i64 1] Z16 rfl rfl (by (try simp only [List.map_toArray, List.map_cons, List.map_nil]); first | done | rfl) ?_
 with_reducible refine (ctx_Family.calls 1 0 _ Z12).mono ?_
 rintro e w9 ⟨rfl, hd⟩
 refine ⟨_, rfl, ?_⟩
 replace HO := Bx.dr HO hd; clear hd
 refine hK.out _ _ (sS _ _ HO.out rfl) (fun _ => ?_)
 clear hK K
 refine norm_ (a' := ?_) ?_ ?_
 rotate_left
 ·show Act.put _ (some 61) _ = _
  simp only [Act.put, Sq.s1, Sq.s2, Sq.s3, i64_w, i32_w]
  rfl
 have HS := Aside0.mk (sS _ _ HO.out rfl)
 refine Sq.pur 12 (some 65) (Sq.b 18 24575) HT_.out ?_
 refine Bx.rldS 13 66 (Sq.b 18 32767) HT_ HW_ HS (fun v h => h.1) Tryz.underlying9 ?_ (ha := hA')
 refine Bx.rst1 15 (Sq.b 18 65535) HT_ HO ?_ (hS := fun u hu => sS u _ hu rfl)
 clear HO
 intro w9 HO
 refine Sq.pur 16 (some 68) (Sq.b 18 131071) HT_.out ?_
 refine Bx.rst 17 (Sq.b 18 262143) HT_ HO ?_
 clear HO
 intro w9 HO
 refine done_ (done_of HT_.out Z12) ?_
 go_wp2_with (first | ((with_reducible refine Pre.gate_load 32 rfl ?_); refine Bx.lds [.int .i64 11, .int .i64 0, .int .i64 0, .string ⟨#[]⟩, .int .i64 0, .int .i64 1, .string ⟨#[10, 0, 0, 0]⟩, .int .i64 8, .int .i64 0, .string h0, .int .i64 1, .string ⟨#[97, 98, 99, 100, 101, 102, 103, 104]⟩, .int .i64 0, .int .i64 0, .int .i64 0, .int .i64 0, .int .i64 0, .int .i64 0, .int .i64 0, .string ⟨#[]⟩, .string ⟨#[]⟩, .slice none 0 0, .int .i64 0, .string ⟨#[]⟩, .slice none 0 0] HO Tryz.underlying32 ?_) | ((with_reducible refine gate_dst (N := 70) rfl ?_); refine Bx.lit 70 #[.int .i64 11, .int .i64 0, .int .i64 0, .string ⟨#[]⟩, .int .i64 0, .int .i64 1, .string ⟨#[10, 0, 0, 0]⟩, .int .i64 8, .int .i64 0, .string h0, .int .i64 1, .string ⟨#[97, 98, 99, 100, 101, 102, 103, 104]⟩, .int .i64 0, .int .i64 0, .int .i64 0, .int .i64 0, .int .i64 0, .int .i64 0, .int .i64 0, .string ⟨#[]⟩, .string ⟨#[]⟩, .slice none 0 0, .int .i64 0, .string ⟨#[]⟩, .slice none 0 0] 32 1 HO ?_; clear HO; intro gr w9 HO))
 go_ret2
 exact ⟨gr, rfl, ⟨HO.out.sub (by repeat (first | exact List.Sublist.refl _ | apply List.Sublist.cons_cons | apply List.Sublist.cons))⟩⟩

/-! ### ctx_Step: function 146 -/
set_option maxHeartbeats 8000000 in
set_option maxRecDepth 100000 in
theorem ctx_Step.calls6 (at_ : Int) (p0 p1 p2 p3 h0 h1 id : ByteArray) (d : ByteArray) (hd : d.size = 10) (hs : List Bx.Box) (B : Nat) (w0 w : World) (HO : Aside0 (Bx.Own B w0 w hs)) :
  Calls Tryz.prog 146 #[.agg #[.string p0, .string p1, .string p2, .string p3, .string h0, .string h1, .string id], .agg #[.int .i64 6, .int .i64 at_, .string d]] w fun e w' => e = .returned (.tuple #[.agg #[.string p0, .string p1, .string p2, .string p3, .string h0, .string h1, .string (d.extract 2 10)], .slice none 0 0, .int .i64 0]) ∧ Aside0 (Bx.Own B w0 w' hs) := by
 have HD := Aside0.mk hd
 have hu177 := Tryz.underlying177
 have ic := Tryz.underlying46
 have hu48 := Tryz.underlying48
 clear hd
 go_enter Tryz.func146, Tryz.ntmps146
 go_wp2_with (first | ((with_reducible refine gate_dst (N := 2) rfl ?_); refine Bx.mk 2 #[.string p0, .string p1, .string p2, .string p3, .string h0, .string h1, .string id] 46 HO ?_; clear HO; intro g2 w2 HO) | ((with_reducible refine gate_dst (N := 3) rfl ?_); refine Bx.mk 3 #[.int .i64 6, .int .i64 at_, .string d] 48 HO ?_; clear HO; intro g3 w3 HO) | ((with_reducible refine gate_dst (N := 4) rfl ?_); refine Bx.mk 4 #[.string ⟨#[]⟩, .string ⟨#[]⟩, .string ⟨#[]⟩, .string ⟨#[]⟩, .string ⟨#[]⟩, .string ⟨#[]⟩, .string ⟨#[]⟩] 46 HO ?_; clear HO; intro g4 w4 HO) | ((with_reducible refine Pre.gate_load 46 rfl ?_); refine Bx.lds [.string p0, .string p1, .string p2, .string p3, .string h0, .string h1, .string id] HO Tryz.underlying46 ?_) | ((with_reducible refine Pre.gate_load 46 rfl ?_); refine Bx.lds [.string p0, .string p1, .string p2, .string p3, .string h0, .string h1, .string (d.extract 2 10)] HO Tryz.underlying46 ?_) | ((with_reducible refine gate_dst (N := 12) rfl ?_); refine Bx.mk 12 #[.string p0, .string p1, .string p2, .string p3, .string h0, .string h1, .string id] 177 HO ?_; clear HO; intro g7 iv HO) | ((with_reducible refine Pre.gate_load 3 rfl ?_); (try (refine gate_guard Z16 ?_; dsimp only)); refine Bx.ld HO Tryz.underlying3 ?_) | ((with_reducible refine Pre.gate_load 9 rfl ?_); (try (refine gate_guard Z16 ?_; dsimp only)); refine Bx.ld HO Tryz.underlying9 ?_) | ((with_reducible refine gate_callee (f := 174) rfl ?_); refine goesL_ (some 20) rfl rfl Tryz.func174 Z12 rfl #[.pointer (some ⟨g7, 0, none⟩), .string d] rfl (by (try simp only [List.map_toArray, List.map_cons, List.map_nil]); first | done | rfl) ?_; (with_reducible refine (ctx_stepper_id.calls g7 _ _ p0 p1 p2 p3 h0 h1 id d HD.out B w0 _ HO (by repeat (first | exact .here | assumption | apply Bx.Upd.there))).mono ?_); clear HO; rintro e w8 ⟨rfl, HO⟩; refine ⟨_, rfl, ?_⟩) | ((with_reducible refine Pre.gate_store 46 rfl ?_); refine Bx.sts HO ?_; clear HO; intro w9 HO))
 exact Bx.ret [.cell 4 46, .tmp 5, .tmp 6] (Bx.vc HO Tryz.underlying46 (Bx.vt (Bx.vt .nil))) ⟨rfl, ⟨HO.out.sub (by repeat (first | exact List.Sublist.refl _ | apply List.Sublist.cons))⟩⟩
set_option maxHeartbeats 8000000 in
set_option maxRecDepth 100000 in
theorem ctx_Step.calls8 (at_ : Int) (p0 p1 p2 p3 h0 h1 : ByteArray) (hs : List Bx.Box) (B : Nat) (w0 w : World) (HO : Aside0 (Bx.Own B w0 w hs)) :
  Calls Tryz.prog 146 #[.agg #[.string p0, .string p1, .string p2, .string p3, .string h0, .string h1, .string ⟨#[97, 98, 99, 100, 101, 102, 103, 104]⟩], .agg #[.int .i64 8, .int .i64 at_, .string route_Take.d]] w fun e w' => ∃ gm, e = .returned (.tuple #[.agg #[.string p0, .string ⟨#[10, 0, 0, 0]⟩, .string p2, .string p3, .string h0, .string h1, .string ⟨#[97, 98, 99, 100, 101, 102, 103, 104]⟩], .slice (some ⟨gm, 0, none⟩) 1 1, .int .i64 0]) ∧ Aside0 (Bx.Own B w0 w' ((gm, #[.int .i64 11, .int .i64 0, .int .i64 0, .string ⟨#[]⟩, .int .i64 0, .int .i64 1, .string ⟨#[10, 0, 0, 0]⟩, .int .i64 8, .int .i64 0, .string h0, .int .i64 1, .string ⟨#[97, 98, 99, 100, 101, 102, 103, 104]⟩, .int .i64 0, .int .i64 0, .int .i64 0, .int .i64 0, .int .i64 0, .int .i64 0, .int .i64 0, .string ⟨#[]⟩, .string ⟨#[]⟩, .slice none 0 0, .int .i64 0, .string ⟨#[]⟩, .slice none 0 0], 32) :: hs)) := by
 have hu177 := Tryz.underlying177
 have ic := Tryz.underlying46
 have hu48 := Tryz.underlying48
 go_enter Tryz.func146, Tryz.ntmps146
 go_wp2_with (first | ((with_reducible refine gate_dst (N := 2) rfl ?_); refine Bx.mk 2 #[.string p0, .string p1, .string p2, .string p3, .string h0, .string h1, .string ⟨#[97, 98, 99, 100, 101, 102, 103, 104]⟩] 46 HO ?_; clear HO; intro g2 w2 HO) | ((with_reducible refine gate_dst (N := 3) rfl ?_); refine Bx.mk 3 #[.int .i64 8, .int .i64 at_, .string route_Take.d] 48 HO ?_; clear HO; intro g3 w3 HO) | ((with_reducible refine gate_dst (N := 4) rfl ?_); refine Bx.mk 4 #[.string ⟨#[]⟩, .string ⟨#[]⟩, .string ⟨#[]⟩, .string ⟨#[]⟩, .string ⟨#[]⟩, .string ⟨#[]⟩, .string ⟨#[]⟩] 46 HO ?_; clear HO; intro g4 w4 HO) | ((with_reducible refine Pre.gate_load 46 rfl ?_); refine Bx.lds [.string p0, .string p1, .string p2, .string p3, .string h0, .string h1, .string ⟨#[97, 98, 99, 100, 101, 102, 103, 104]⟩] HO Tryz.underlying46 ?_) | ((with_reducible refine Pre.gate_load 46 rfl ?_); refine Bx.lds [.string p0, .string ⟨#[10, 0, 0, 0]⟩, .string p2, .string p3, .string h0, .string h1, .string ⟨#[97, 98, 99, 100, 101, 102, 103, 104]⟩] HO Tryz.underlying46 ?_) | ((with_reducible refine gate_dst (N := 12) rfl ?_); refine Bx.mk 12 #[.string p0, .string p1, .string p2, .string p3, .string h0, .string h1, .string ⟨#[97, 98, 99, 100, 101, 102, 103, 104]⟩] 177 HO ?_; clear HO; intro g7 iv HO) | ((with_reducible refine Pre.gate_load 3 rfl ?_); (try (refine gate_guard Z16 ?_; dsimp only)); refine Bx.ld HO Tryz.underlying3 ?_) | ((with_reducible refine Pre.gate_load 48 rfl ?_); refine Bx.lds [.int .i64 8, .int .i64 at_, .string route_Take.d] HO Tryz.underlying48 ?_) | ((with_reducible refine gate_callee (f := 176) rfl ?_); refine goesL_ (some 32) rfl rfl Tryz.func176 Z12 rfl #[.pointer (some ⟨g7, 0, none⟩), .agg #[.int .i64 8, .int .i64 at_, .string route_Take.d]] rfl (by (try simp only [List.map_toArray, List.map_cons, List.map_nil]); first | done | rfl) ?_; (with_reducible refine (ctx_stepper_update.calls at_ g7 _ _ p0 p1 p2 p3 h0 h1 B w0 _ HO (by repeat (first | exact .here | assumption | apply Bx.Upd.there))).mono ?_); clear HO; rintro e w8 ⟨gm, rfl, HO⟩; refine ⟨_, rfl, ?_⟩) | ((with_reducible refine Pre.gate_store 46 rfl ?_); refine Bx.sts HO ?_; clear HO; intro w9 HO))
 exact Bx.ret [.cell 4 46, .tmp 5, .tmp 6] (Bx.vc HO Tryz.underlying46 (Bx.vt (Bx.vt .nil))) ⟨gm, rfl, ⟨HO.out.sub (by repeat (first | exact List.Sublist.refl _ | apply List.Sublist.cons_cons | apply List.Sublist.cons))⟩⟩

end Go.Proofs.YtnllanjoebjeiaaGreat.PV
