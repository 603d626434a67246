-- Written by mp.py, a program of this work (wip/tools), out of the translation; Lean checks it.
import Derived.Test.YtnllanjoebjeiaaGreatPVxZ
import Derived.Test.YtnllanjoebjeiaaGreatPVxctx
import Derived.Test.YtnllanjoebjeiaaGreatPVxframe
import Derived.Test.YtnllanjoebjeiaaGreatPVxrouteTake
import Derived.Test.YtnllanjoebjeiaaGreatBox
namespace Go.Proofs.YtnllanjoebjeiaaGreat.PV
open Go.RowKit Go.Proofs.YtnllanjoebjeiaaGreatW.PrintWords Go.Proofs.YtnllanjoebjeiaaGreatW.PrintLast Go.Proofs.YtnllanjoebjeiaaGreatW.PrintMore
attribute [local go_sem] max2_int min2_int max_two min_two max_three min_three max_four min_four   -- for this text's walks alone
set_option linter.unusedVariables false
set_option linter.unusedSimpArgs false

/-! ### intake_one: function 87 -/
set_option maxHeartbeats 8000000 in
set_option maxRecDepth 100000 in
theorem intake_one.calls6 (at_ : Int) (p0 p1 p2 p3 h0 h1 id : ByteArray) (d : ByteArray) (hd : d.size = 10) (hs : List Bx.Box) (B : Nat) (w0 w : World) (HO : Aside0 (Bx.Own B w0 w hs)) :
  Calls Tryz.prog 87 #[.agg #[.string p0, .string p1, .string p2, .string p3, .string h0, .string h1, .string id], .agg #[.int .i64 6, .int .i64 at_, .string d]] w fun e w' => e = .returned (.tuple #[.agg #[.string p0, .string p1, .string p2, .string p3, .string h0, .string h1, .string (d.extract 2 10)], .slice none 0 0, .int .i64 0]) ∧ Aside0 (Bx.Own B w0 w' hs) := by
 have HD := Aside0.mk hd
 clear hd
 have ic := Tryz.underlying46
 have hu48 := Tryz.underlying48
 go_enter Tryz.func87, Tryz.ntmps87
 go_wp2_with (first | ((with_reducible refine gate_dst (N := 2) rfl ?_); refine Bx.mk 2 #[.string p0, .string p1, .string p2, .string p3, .string h0, .string h1, .string id] 46 HO ?_; clear HO; intro g2 w2 HO) | ((with_reducible refine gate_dst (N := 3) rfl ?_); refine Bx.mk 3 #[.int .i64 6, .int .i64 at_, .string d] 48 HO ?_; clear HO; intro g3 w3 HO) | ((with_reducible refine gate_dst (N := 4) rfl ?_); refine Bx.mk 4 #[.string ⟨#[]⟩, .string ⟨#[]⟩, .string ⟨#[]⟩, .string ⟨#[]⟩, .string ⟨#[]⟩, .string ⟨#[]⟩, .string ⟨#[]⟩] 46 HO ?_; clear HO; intro g4 w4 HO) | ((with_reducible refine gate_dst (N := 7) rfl ?_); refine Bx.mk 7 #[.int .i64 0, .int .i64 0, .int .i64 0, .string ⟨#[]⟩, .int .i64 0, .int .i64 0, .string ⟨#[]⟩, .int .i64 0, .int .i64 0, .string ⟨#[]⟩, .int .i64 0, .string ⟨#[]⟩, .int .i64 0, .int .i64 0, .int .i64 0, .int .i64 0, .int .i64 0, .int .i64 0, .int .i64 0, .string ⟨#[]⟩, .string ⟨#[]⟩, .slice none 0 0, .int .i64 0, .string ⟨#[]⟩, .slice none 0 0] 32 HO ?_; clear HO; intro g7 w7 HO) | ((with_reducible refine Pre.gate_load 3 rfl ?_); (try (refine gate_guard Z16 ?_; dsimp only)); refine Bx.ld HO Tryz.underlying3 ?_) | ((with_reducible refine Pre.gate_load 46 rfl ?_); refine Bx.lds [.string p0, .string p1, .string p2, .string p3, .string h0, .string h1, .string id] HO Tryz.underlying46 ?_) | ((with_reducible refine Pre.gate_load 48 rfl ?_); refine Bx.lds [.int .i64 6, .int .i64 at_, .string d] HO Tryz.underlying48 ?_) | ((with_reducible refine gate_callee (f := 146) rfl ?_); refine goesL_ (some 27) rfl rfl Tryz.func146 Z12 rfl #[.agg #[.string p0, .string p1, .string p2, .string p3, .string h0, .string h1, .string id], .agg #[.int .i64 6, .int .i64 at_, .string d]] rfl (by (try simp only [List.map_toArray, List.map_cons, List.map_nil]); first | done | rfl) ?_; (with_reducible refine (ctx_Step.calls6 at_ p0 p1 p2 p3 h0 h1 id d HD.out _ B w0 _ HO).mono ?_); clear HO; rintro e w8 ⟨rfl, HO⟩; refine ⟨_, rfl, ?_⟩) | ((with_reducible refine Pre.gate_store 46 rfl ?_); refine Bx.sts HO ?_; clear HO; intro w9 HO))
 exact Bx.ret [.cell 4 46, .tmp 5, .tmp 6] (Bx.vc HO Tryz.underlying46 (Bx.vt (Bx.vt .nil))) ⟨rfl, ⟨HO.out.sub (by repeat (first | exact List.Sublist.refl _ | apply List.Sublist.cons_cons | apply List.Sublist.cons))⟩⟩
set_option maxHeartbeats 8000000 in
set_option maxRecDepth 100000 in
theorem intake_one.calls8 (at_ : Int) (p0 p1 p2 p3 h0 h1 : ByteArray) (hs : List Bx.Box) (B : Nat) (w0 w : World) (HO : Aside0 (Bx.Own B w0 w hs)) :
  Calls Tryz.prog 87 #[.agg #[.string p0, .string p1, .string p2, .string p3, .string h0, .string h1, .string ⟨#[97, 98, 99, 100, 101, 102, 103, 104]⟩], .agg #[.int .i64 8, .int .i64 at_, .string route_Take.d]] w fun e w' => ∃ gm, e = .returned (.tuple #[.agg #[.string p0, .string ⟨#[10, 0, 0, 0]⟩, .string p2, .string p3, .string h0, .string h1, .string ⟨#[97, 98, 99, 100, 101, 102, 103, 104]⟩], .slice (some ⟨gm, 0, none⟩) 1 1, .int .i64 0]) ∧ Aside0 (Bx.Own B w0 w' ((gm, #[.int .i64 11, .int .i64 0, .int .i64 0, .string ⟨#[]⟩, .int .i64 0, .int .i64 1, .string ⟨#[10, 0, 0, 0]⟩, .int .i64 8, .int .i64 0, .string h0, .int .i64 1, .string ⟨#[97, 98, 99, 100, 101, 102, 103, 104]⟩, .int .i64 0, .int .i64 0, .int .i64 0, .int .i64 0, .int .i64 0, .int .i64 0, .int .i64 0, .string ⟨#[]⟩, .string ⟨#[]⟩, .slice none 0 0, .int .i64 0, .string ⟨#[]⟩, .slice none 0 0], 32) :: hs)) := by
 have ic := Tryz.underlying46
 have hu48 := Tryz.underlying48
 go_enter Tryz.func87, Tryz.ntmps87
 go_wp2_with (first | ((with_reducible refine gate_dst (N := 2) rfl ?_); refine Bx.mk 2 #[.string p0, .string p1, .string p2, .string p3, .string h0, .string h1, .string ⟨#[97, 98, 99, 100, 101, 102, 103, 104]⟩] 46 HO ?_; clear HO; intro g2 w2 HO) | ((with_reducible refine gate_dst (N := 3) rfl ?_); refine Bx.mk 3 #[.int .i64 8, .int .i64 at_, .string route_Take.d] 48 HO ?_; clear HO; intro g3 w3 HO) | ((with_reducible refine gate_dst (N := 4) rfl ?_); refine Bx.mk 4 #[.string ⟨#[]⟩, .string ⟨#[]⟩, .string ⟨#[]⟩, .string ⟨#[]⟩, .string ⟨#[]⟩, .string ⟨#[]⟩, .string ⟨#[]⟩] 46 HO ?_; clear HO; intro g4 w4 HO) | ((with_reducible refine gate_dst (N := 7) rfl ?_); refine Bx.mk 7 #[.int .i64 0, .int .i64 0, .int .i64 0, .string ⟨#[]⟩, .int .i64 0, .int .i64 0, .string ⟨#[]⟩, .int .i64 0, .int .i64 0, .string ⟨#[]⟩, .int .i64 0, .string ⟨#[]⟩, .int .i64 0, .int .i64 0, .int .i64 0, .int .i64 0, .int .i64 0, .int .i64 0, .int .i64 0, .string ⟨#[]⟩, .string ⟨#[]⟩, .slice none 0 0, .int .i64 0, .string ⟨#[]⟩, .slice none 0 0] 32 HO ?_; clear HO; intro g7 w7 HO) | ((with_reducible refine Pre.gate_load 3 rfl ?_); (try (refine gate_guard Z16 ?_; dsimp only)); refine Bx.ld HO Tryz.underlying3 ?_) | ((with_reducible refine Pre.gate_load 46 rfl ?_); refine Bx.lds [.string p0, .string p1, .string p2, .string p3, .string h0, .string h1, .string ⟨#[97, 98, 99, 100, 101, 102, 103, 104]⟩] HO Tryz.underlying46 ?_) | ((with_reducible refine Pre.gate_load 48 rfl ?_); refine Bx.lds [.int .i64 8, .int .i64 at_, .string route_Take.d] HO Tryz.underlying48 ?_) | ((with_reducible refine gate_callee (f := 146) rfl ?_); refine goesL_ (some 27) rfl rfl Tryz.func146 Z12 rfl #[.agg #[.string p0, .string p1, .string p2, .string p3, .string h0, .string h1, .string ⟨#[97, 98, 99, 100, 101, 102, 103, 104]⟩], .agg #[.int .i64 8, .int .i64 at_, .string route_Take.d]] rfl (by (try simp only [List.map_toArray, List.map_cons, List.map_nil]); first | done | rfl) ?_; (with_reducible refine (ctx_Step.calls8 at_ p0 p1 p2 p3 h0 h1 _ B w0 _ HO).mono ?_); clear HO; rintro e w8 ⟨gm, rfl, HO⟩; refine ⟨_, rfl, ?_⟩) | ((with_reducible refine Pre.gate_store 46 rfl ?_); refine Bx.sts HO ?_; clear HO; intro w9 HO))
 exact Bx.ret [.cell 4 46, .tmp 5, .tmp 6] (Bx.vc HO Tryz.underlying46 (Bx.vt (Bx.vt .nil))) ⟨gm, rfl, ⟨HO.out.sub (by repeat (first | exact List.Sublist.refl _ | apply List.Sublist.cons_cons | apply List.Sublist.cons))⟩⟩

/-! ### intake_Fold: function 41 -/
def intake_Fold.T6 : Bool × List (List Nat × List Nat) := (true, [([], []), ([], []), ([], []), ([1, 2], [1, 2]), ([3], [3]), ([0, 4], [0, 4]), ([5], [5]), ([6], [6]), ([6], [6]), ([6], [6]), ([], []), ([10, 7, 5, 0, 1, 2, 3, 4, 5, 6, 7, 10], [7, 10]), ([8, 11, 0, 1, 2, 3, 4, 5, 6, 7, 8, 10, 11], [8]), ([9, 12, 0, 1, 2, 3, 4, 5, 6, 7, 8, 9, 10, 11, 12], [9])])
def intake_Fold.B6 : List Nat := [0, 0, 0, 6, 14, 31, 63, 127, 127, 127, 0, 1279, 3583, 8191]
theorem intake_Fold.tab6 : rtab .any (opsOf Tryz.f41 6) = intake_Fold.T6 := by kernel_rfl
theorem intake_Fold.bits6 : waitsOk intake_Fold.T6.2 intake_Fold.B6 = true := by kernel_rfl
def intake_Fold.T12 : Bool × List (List Nat × List Nat) := (true, [([], []), ([], []), ([0, 0], [0]), ([1, 2, 0, 1, 2], [1]), ([3, 0, 1, 2, 3], []), ([4, 0, 1, 2, 3, 4], [])])
def intake_Fold.B12 : List Nat := [0, 0, 1, 7, 15, 31]
theorem intake_Fold.tab12 : rtab .any (opsOf Tryz.f41 12) = intake_Fold.T12 := by kernel_rfl
theorem intake_Fold.bits12 : waitsOk intake_Fold.T12.2 intake_Fold.B12 = true := by kernel_rfl
theorem intake_Fold.s0 (hs : List Bx.Box) (B : Nat) (w0 w : World) (HO : Aside0 (Bx.Own B w0 w hs)) : Calls Tryz.prog 87 #[.agg #[.string ⟨#[]⟩, .string ⟨#[]⟩, .string ⟨#[]⟩, .string ⟨#[]⟩, .string ⟨#[]⟩, .string ⟨#[]⟩, .string ⟨#[]⟩], .agg #[.int .i64 6, .int .i64 4, .string ⟨#[0, 0, 97, 98, 99, 100, 101, 102, 103, 104]⟩]] w fun e w' => e = .returned (.tuple #[.agg #[.string ⟨#[]⟩, .string ⟨#[]⟩, .string ⟨#[]⟩, .string ⟨#[]⟩, .string ⟨#[]⟩, .string ⟨#[]⟩, .string ⟨#[97, 98, 99, 100, 101, 102, 103, 104]⟩], .slice none 0 0, .int .i64 0]) ∧ Aside0 (Bx.Own B w0 w' hs) := by
 have q := intake_one.calls6 4 ⟨#[]⟩ ⟨#[]⟩ ⟨#[]⟩ ⟨#[]⟩ ⟨#[]⟩ ⟨#[]⟩ ⟨#[]⟩ ⟨#[0, 0, 97, 98, 99, 100, 101, 102, 103, 104]⟩ rfl hs B w0 w HO
 rwa [show (⟨#[0, 0, 97, 98, 99, 100, 101, 102, 103, 104]⟩ : ByteArray).extract 2 10 = ⟨#[97, 98, 99, 100, 101, 102, 103, 104]⟩ from by kernel_rfl] at q
theorem intake_Fold.s1 (hs : List Bx.Box) (B : Nat) (w0 w : World) (HO : Aside0 (Bx.Own B w0 w hs)) : Calls Tryz.prog 87 #[.agg #[.string ⟨#[]⟩, .string ⟨#[]⟩, .string ⟨#[]⟩, .string ⟨#[]⟩, .string ⟨#[]⟩, .string ⟨#[]⟩, .string ⟨#[97, 98, 99, 100, 101, 102, 103, 104]⟩], .agg #[.int .i64 8, .int .i64 16, .string route_Take.d]] w fun e w' => ∃ gm, e = .returned (.tuple #[.agg #[.string ⟨#[]⟩, .string ⟨#[10, 0, 0, 0]⟩, .string ⟨#[]⟩, .string ⟨#[]⟩, .string ⟨#[]⟩, .string ⟨#[]⟩, .string ⟨#[97, 98, 99, 100, 101, 102, 103, 104]⟩], .slice (some ⟨gm, 0, none⟩) 1 1, .int .i64 0]) ∧ Aside0 (Bx.Own B w0 w' ((gm, #[.int .i64 11, .int .i64 0, .int .i64 0, .string ⟨#[]⟩, .int .i64 0, .int .i64 1, .string ⟨#[10, 0, 0, 0]⟩, .int .i64 8, .int .i64 0, .string ⟨#[]⟩, .int .i64 1, .string ⟨#[97, 98, 99, 100, 101, 102, 103, 104]⟩, .int .i64 0, .int .i64 0, .int .i64 0, .int .i64 0, .int .i64 0, .int .i64 0, .int .i64 0, .string ⟨#[]⟩, .string ⟨#[]⟩, .slice none 0 0, .int .i64 0, .string ⟨#[]⟩, .slice none 0 0], 32) :: hs)) := intake_one.calls8 16 ⟨#[]⟩ ⟨#[]⟩ ⟨#[]⟩ ⟨#[]⟩ ⟨#[]⟩ ⟨#[]⟩ hs B w0 w HO
theorem intake_Fold.info : (Tryz.prog.info? 32).map (fun i => (i.zero, i.size, i.bytes)) = some (some (.agg #[.int .i64 0, .int .i64 0, .int .i64 0, .string ⟨#[]⟩, .int .i64 0, .int .i64 0, .string ⟨#[]⟩, .int .i64 0, .int .i64 0, .string ⟨#[]⟩, .int .i64 0, .string ⟨#[]⟩, .int .i64 0, .int .i64 0, .int .i64 0, .int .i64 0, .int .i64 0, .int .i64 0, .int .i64 0, .string ⟨#[]⟩, .string ⟨#[]⟩, .slice none 0 0, .int .i64 0, .string ⟨#[]⟩, .slice none 0 0]), 25, 288) := by kernel_rfl
set_option maxHeartbeats 8000000 in
set_option maxRecDepth 100000 in
/-- Of the two TLVs of the example's datagram. -/
theorem intake_Fold.calls (gb cap : Nat) (cb : Array Value) (hs : List Bx.Box) (B : Nat) (w0 w : World) (HO : Aside0 (Bx.Own B w0 w ((gb, cb, 48) :: hs))) (hR : Bx.Row 3 2 (.slice (some ⟨gb, 0, none⟩) 2 cap) [.int .i64 6, .int .i64 4, .string ⟨#[0, 0, 97, 98, 99, 100, 101, 102, 103, 104]⟩, .int .i64 8, .int .i64 16, .string route_Take.d] (gb, cb, 48)) :
  Calls Tryz.prog 41 #[.slice (some ⟨gb, 0, none⟩) 2 cap] w fun e w' => ∃ v b, e = .returned (.tuple #[v, .agg #[.string ⟨#[]⟩, .string ⟨#[10, 0, 0, 0]⟩, .string ⟨#[]⟩, .string ⟨#[]⟩, .string ⟨#[]⟩, .string ⟨#[]⟩, .string ⟨#[97, 98, 99, 100, 101, 102, 103, 104]⟩], .int .i64 0, .int .i64 0]) ∧ Bx.Row 25 1 v [.int .i64 11, .int .i64 0, .int .i64 0, .string ⟨#[]⟩, .int .i64 0, .int .i64 1, .string ⟨#[10, 0, 0, 0]⟩, .int .i64 8, .int .i64 0, .string ⟨#[]⟩, .int .i64 1, .string ⟨#[97, 98, 99, 100, 101, 102, 103, 104]⟩, .int .i64 0, .int .i64 0, .int .i64 0, .int .i64 0, .int .i64 0, .int .i64 0, .int .i64 0, .string ⟨#[]⟩, .string ⟨#[]⟩, .slice none 0 0, .int .i64 0, .string ⟨#[]⟩, .slice none 0 0] b ∧ b.2.2 = 32 ∧ Aside0 (Bx.Own B w0 w' (b :: hs)) := by
 have HR := Aside0.mk hR
 have ic := Tryz.underlying46
 have hu48 := Tryz.underlying48
 clear hR
 go_enter Tryz.func41, Tryz.ntmps41
 go_wp2_with (first | ((with_reducible refine gate_dst (N := 3) rfl ?_); refine Bx.mk 3 #[.string ⟨#[]⟩, .string ⟨#[]⟩, .string ⟨#[]⟩, .string ⟨#[]⟩, .string ⟨#[]⟩, .string ⟨#[]⟩, .string ⟨#[]⟩] 46 HO ?_; clear HO; intro g3 w3 HO) | ((with_reducible refine gate_dst (N := 7) rfl ?_); refine Bx.mk 7 #[.string ⟨#[]⟩, .string ⟨#[]⟩, .string ⟨#[]⟩, .string ⟨#[]⟩, .string ⟨#[]⟩, .string ⟨#[]⟩, .string ⟨#[]⟩] 46 HO ?_; clear HO; intro g7 w7 HO))
 go_loopg [6, 14] 2 (fun kq v6 eQ w' => (kq = 2 ∧ v6 = .slice none 0 0 ∧ eQ = .int .i64 0 ∧ Aside0 (Bx.Own B w0 w' ((g7, #[.string ⟨#[]⟩, .string ⟨#[]⟩, .string ⟨#[]⟩, .string ⟨#[]⟩, .string ⟨#[]⟩, .string ⟨#[]⟩, .string ⟨#[]⟩], 46) :: (g3, #[.string ⟨#[]⟩, .string ⟨#[]⟩, .string ⟨#[]⟩, .string ⟨#[]⟩, .string ⟨#[]⟩, .string ⟨#[]⟩, .string ⟨#[]⟩], 46) :: (gb, cb, 48) :: hs))) ∨ (kq = 1 ∧ v6 = .slice none 0 0 ∧ eQ = .int .i64 1 ∧ Aside0 (Bx.Own B w0 w' ((g7, #[.string ⟨#[]⟩, .string ⟨#[]⟩, .string ⟨#[]⟩, .string ⟨#[]⟩, .string ⟨#[]⟩, .string ⟨#[]⟩, .string ⟨#[97, 98, 99, 100, 101, 102, 103, 104]⟩], 46) :: (g3, #[.string ⟨#[]⟩, .string ⟨#[]⟩, .string ⟨#[]⟩, .string ⟨#[]⟩, .string ⟨#[]⟩, .string ⟨#[]⟩, .string ⟨#[]⟩], 46) :: (gb, cb, 48) :: hs))) ∨ (kq = 0 ∧ eQ = .int .i64 2 ∧ ∃ b5 c5, Aside0 (Bx.Row 25 1 v6 [.int .i64 11, .int .i64 0, .int .i64 0, .string ⟨#[]⟩, .int .i64 0, .int .i64 1, .string ⟨#[10, 0, 0, 0]⟩, .int .i64 8, .int .i64 0, .string ⟨#[]⟩, .int .i64 1, .string ⟨#[97, 98, 99, 100, 101, 102, 103, 104]⟩, .int .i64 0, .int .i64 0, .int .i64 0, .int .i64 0, .int .i64 0, .int .i64 0, .int .i64 0, .string ⟨#[]⟩, .string ⟨#[]⟩, .slice none 0 0, .int .i64 0, .string ⟨#[]⟩, .slice none 0 0] (b5, c5, 32)) ∧ Aside0 (Bx.Own B w0 w' ((b5, c5, 32) :: (g7, #[.string ⟨#[]⟩, .string ⟨#[10, 0, 0, 0]⟩, .string ⟨#[]⟩, .string ⟨#[]⟩, .string ⟨#[]⟩, .string ⟨#[]⟩, .string ⟨#[97, 98, 99, 100, 101, 102, 103, 104]⟩], 46) :: (g3, #[.string ⟨#[]⟩, .string ⟨#[]⟩, .string ⟨#[]⟩, .string ⟨#[]⟩, .string ⟨#[]⟩, .string ⟨#[]⟩, .string ⟨#[]⟩], 46) :: (gb, cb, 48) :: hs))))
 case atStart => exact .inl ⟨rfl, rfl, rfl, HO⟩
 case round =>
 clear HO
 rcases hrel with ⟨rfl, rfl, rfl, HO⟩ | ⟨rfl, rfl, rfl, HO⟩ | ⟨rfl, rfl, b5, c5, hR, HO⟩
 ·skip
  go_upto_region 6 with fail
  refine Bx.rgo (Sq.b 14 0) [11] [(g7, #[.string ⟨#[]⟩, .string ⟨#[]⟩, .string ⟨#[]⟩, .string ⟨#[]⟩, .string ⟨#[]⟩, .string ⟨#[]⟩, .string ⟨#[]⟩], 46), (gb, cb, 48)] intake_Fold.tab6 intake_Fold.bits6 HO ?_
  clear HO
  intro w9 HO HS HT_ HW_
  refine Bx.rlds 0 18 (Sq.b 14 1) [.string ⟨#[]⟩, .string ⟨#[]⟩, .string ⟨#[]⟩, .string ⟨#[]⟩, .string ⟨#[]⟩, .string ⟨#[]⟩, .string ⟨#[]⟩] HT_ HW_ HS Tryz.underlying46 ?_
  refine Sq.pur 1 (some 19) (Sq.b 14 3) HT_.out ?_
  refine Sq.pur 2 (some 20) (Sq.b 14 7) HT_.out ?_
  refine Sq.pur 3 (some 21) (Sq.b 14 15) HT_.out ?_
  refine Bx.rlds 4 22 (Sq.b 14 31) [.int .i64 6, .int .i64 4, .string ⟨#[0, 0, 97, 98, 99, 100, 101, 102, 103, 104]⟩] HT_ HW_ HS Tryz.underlying48 ?_ (hv := HR.out.seg 0 Z34 rfl)
  refine two_ (i := 5) (j := 10) (Ni := some 23) (Nj := some 9) (Sq.b 14 63) (Sq.b 14 1055) rfl rfl rfl rfl (two_of HT_.out Z12) Z34 Z34 (fun K hK => ?oa0) (fun K hK => ?ob0)
  case' oa0 =>
   refine goes_ Tryz.func87 Z12 rfl #[.agg #[.string ⟨#[]⟩, .string ⟨#[]⟩, .string ⟨#[]⟩, .string ⟨#[]⟩, .string ⟨#[]⟩, .string ⟨#[]⟩, .string ⟨#[]⟩], .agg #[.int .i64 6, .int .i64 4, .string ⟨#[0, 0, 97, 98, 99, 100, 101, 102, 103, 104]⟩]] Z16 rfl rfl (by (try simp only [List.map_toArray, List.map_cons, List.map_nil]); first | done | rfl) ?_
   with_reducible refine (intake_Fold.s0 _ _ _ _ HO).mono ?_
   clear HO
   rintro e w9 ⟨rfl, HO⟩
   refine ⟨_, rfl, ?_⟩
   refine hK.out _ _ (HO.out.sub (by repeat (first | exact List.nil_sublist _ | exact List.Sublist.refl _ | apply List.Sublist.cons_cons | apply List.Sublist.cons))) (fun _ => ?_)
   clear hK K
   refine norm_ (a' := ?_) ?_ ?_
   rotate_left
   ·show Act.put _ (some 23) _ = _
    simp only [Act.put, Sq.s1, Sq.s2, Sq.s3, i64_w, i32_w]
    rfl
   refine Sq.pur 6 (some 17) (Sq.b 14 127) HT_.out ?_
   refine Sq.pur 7 (some 24) (Sq.b 14 255) HT_.out ?_
   refine Sq.pur 8 (some 25) (Sq.b 14 511) HT_.out ?_
   refine Sq.pur 9 (some 26) (Sq.b 14 1023) HT_.out ?_
   refine one_ (i := 10) (N := some 9) (Sq.b 14 2047) rfl rfl (one_of HT_.out Z12) Z34 (fun K hK => ?_)
   refine Bx.smk 9 #[.string ⟨#[]⟩, .string ⟨#[]⟩, .string ⟨#[]⟩, .string ⟨#[]⟩, .string ⟨#[]⟩, .string ⟨#[]⟩, .string ⟨#[]⟩] 46 HO ?_
   clear HO
   intro g9 w9 HO
   refine hK.out _ _ (HO.out.sub (by repeat (first | exact List.nil_sublist _ | exact List.Sublist.refl _ | apply List.Sublist.cons_cons | apply List.Sublist.cons))) (fun _ => ?_)
   clear hK K
   refine norm_ (a' := ?_) ?_ ?_
   rotate_left
   ·show Act.put _ (some 9) _ = _
    simp only [Act.put, Sq.s1, Sq.s2, Sq.s3, i64_w, i32_w]
    rfl
   refine Bx.rsts 11 (Sq.b 14 4095) HT_ HO ?_
   clear HO
   intro w9 HO
   refine Sq.pur 12 (some 10) (Sq.b 14 8191) HT_.out ?_
   refine Sq.pur 13 (some 11) (Sq.b 14 16383) HT_.out ?_
   refine done_ (done_of HT_.out Z12) ?_
  case' ob0 =>
   refine Bx.smk 9 #[.string ⟨#[]⟩, .string ⟨#[]⟩, .string ⟨#[]⟩, .string ⟨#[]⟩, .string ⟨#[]⟩, .string ⟨#[]⟩, .string ⟨#[]⟩] 46 HO ?_
   clear HO
   intro g9 w9 HO
   refine hK.out _ _ (HO.out.sub (by repeat (first | exact List.nil_sublist _ | exact List.Sublist.refl _ | apply List.Sublist.cons_cons | apply List.Sublist.cons))) (fun _ => ?_)
   clear hK K
   refine norm_ (a' := ?_) ?_ ?_
   rotate_left
   ·show Act.put _ (some 9) _ = _
    simp only [Act.put, Sq.s1, Sq.s2, Sq.s3, i64_w, i32_w]
    rfl
   refine one_ (i := 5) (N := some 23) (Sq.b 14 1087) rfl rfl (one_of HT_.out Z12) Z34 (fun K hK => ?_)
   refine goes_ Tryz.func87 Z12 rfl #[.agg #[.string ⟨#[]⟩, .string ⟨#[]⟩, .string ⟨#[]⟩, .string ⟨#[]⟩, .string ⟨#[]⟩, .string ⟨#[]⟩, .string ⟨#[]⟩], .agg #[.int .i64 6, .int .i64 4, .string ⟨#[0, 0, 97, 98, 99, 100, 101, 102, 103, 104]⟩]] Z16 rfl rfl (by (try simp only [List.map_toArray, List.map_cons, List.map_nil]); first | done | rfl) ?_
   with_reducible refine (intake_Fold.s0 _ _ _ _ HO).mono ?_
   clear HO
   rintro e w9 ⟨rfl, HO⟩
   refine ⟨_, rfl, ?_⟩
   refine hK.out _ _ (HO.out.sub (by repeat (first | exact List.nil_sublist _ | exact List.Sublist.refl _ | apply List.Sublist.cons_cons | apply List.Sublist.cons))) (fun _ => ?_)
   clear hK K
   refine norm_ (a' := ?_) ?_ ?_
   rotate_left
   ·show Act.put _ (some 23) _ = _
    simp only [Act.put, Sq.s1, Sq.s2, Sq.s3, i64_w, i32_w]
    rfl
   refine Sq.pur 6 (some 17) (Sq.b 14 1151) HT_.out ?_
   refine Sq.pur 7 (some 24) (Sq.b 14 1279) HT_.out ?_
   refine Sq.pur 8 (some 25) (Sq.b 14 1535) HT_.out ?_
   refine Sq.pur 9 (some 26) (Sq.b 14 2047) HT_.out ?_
   refine Bx.rsts 11 (Sq.b 14 4095) HT_ HO ?_
   clear HO
   intro w9 HO
   refine Sq.pur 12 (some 10) (Sq.b 14 8191) HT_.out ?_
   refine Sq.pur 13 (some 11) (Sq.b 14 16383) HT_.out ?_
   refine done_ (done_of HT_.out Z12) ?_
  all_goals
   go_wp2_with (first | ((with_reducible refine Pre.gate_load 46 rfl ?_); refine Bx.lds [.string ⟨#[]⟩, .string ⟨#[]⟩, .string ⟨#[]⟩, .string ⟨#[]⟩, .string ⟨#[]⟩, .string ⟨#[]⟩, .string ⟨#[97, 98, 99, 100, 101, 102, 103, 104]⟩] HO Tryz.underlying46 ?_) | ((with_reducible refine Pre.gate_store 46 rfl ?_); refine Bx.sts HO ?_; clear HO; intro w9 HO) | ((with_reducible refine gate_builtin (b := .append) (xs := #[.tmp 37, .tmp 38]) rfl ?_); refine Bx.app0 Tryz.underlying22 Z12 ?_))
   go_roundg 1
   case measure => omega
   case rel => exact .inr (.inl ⟨rfl, rfl, rfl, ⟨HO.out.sub (by repeat (first | exact List.Sublist.refl _ | apply List.Sublist.cons_cons | apply List.Sublist.cons))⟩⟩)
 ·skip
  go_upto_region 6 with fail
  refine Bx.rgo (Sq.b 14 0) [11] [(g7, #[.string ⟨#[]⟩, .string ⟨#[]⟩, .string ⟨#[]⟩, .string ⟨#[]⟩, .string ⟨#[]⟩, .string ⟨#[]⟩, .string ⟨#[97, 98, 99, 100, 101, 102, 103, 104]⟩], 46), (gb, cb, 48)] intake_Fold.tab6 intake_Fold.bits6 HO ?_
  clear HO
  intro w9 HO HS HT_ HW_
  refine Bx.rlds 0 18 (Sq.b 14 1) [.string ⟨#[]⟩, .string ⟨#[]⟩, .string ⟨#[]⟩, .string ⟨#[]⟩, .string ⟨#[]⟩, .string ⟨#[]⟩, .string ⟨#[97, 98, 99, 100, 101, 102, 103, 104]⟩] HT_ HW_ HS Tryz.underlying46 ?_
  refine Sq.pur 1 (some 19) (Sq.b 14 3) HT_.out ?_
  refine Sq.pur 2 (some 20) (Sq.b 14 7) HT_.out ?_
  refine Sq.pur 3 (some 21) (Sq.b 14 15) HT_.out ?_
  refine Bx.rlds 4 22 (Sq.b 14 31) [.int .i64 8, .int .i64 16, .string route_Take.d] HT_ HW_ HS Tryz.underlying48 ?_ (hv := HR.out.seg 3 Z34 rfl)
  refine two_ (i := 5) (j := 10) (Ni := some 23) (Nj := some 9) (Sq.b 14 63) (Sq.b 14 1055) rfl rfl rfl rfl (two_of HT_.out Z12) Z34 Z34 (fun K hK => ?oa1) (fun K hK => ?ob1)
  case' oa1 =>
   refine goes_ Tryz.func87 Z12 rfl #[.agg #[.string ⟨#[]⟩, .string ⟨#[]⟩, .string ⟨#[]⟩, .string ⟨#[]⟩, .string ⟨#[]⟩, .string ⟨#[]⟩, .string ⟨#[97, 98, 99, 100, 101, 102, 103, 104]⟩], .agg #[.int .i64 8, .int .i64 16, .string route_Take.d]] Z16 rfl rfl (by (try simp only [List.map_toArray, List.map_cons, List.map_nil]); first | done | rfl) ?_
   with_reducible refine (intake_Fold.s1 _ _ _ _ HO).mono ?_
   clear HO
   rintro e w9 ⟨gm, rfl, HO⟩
   refine ⟨_, rfl, ?_⟩
   refine hK.out _ _ (HO.out.sub (by repeat (first | exact List.nil_sublist _ | exact List.Sublist.refl _ | apply List.Sublist.cons_cons | apply List.Sublist.cons))) (fun _ => ?_)
   clear hK K
   refine norm_ (a' := ?_) ?_ ?_
   rotate_left
   ·show Act.put _ (some 23) _ = _
    simp only [Act.put, Sq.s1, Sq.s2, Sq.s3, i64_w, i32_w]
    rfl
   refine Sq.pur 6 (some 17) (Sq.b 14 127) HT_.out ?_
   refine Sq.pur 7 (some 24) (Sq.b 14 255) HT_.out ?_
   refine Sq.pur 8 (some 25) (Sq.b 14 511) HT_.out ?_
   refine Sq.pur 9 (some 26) (Sq.b 14 1023) HT_.out ?_
   refine one_ (i := 10) (N := some 9) (Sq.b 14 2047) rfl rfl (one_of HT_.out Z12) Z34 (fun K hK => ?_)
   refine Bx.smk 9 #[.string ⟨#[]⟩, .string ⟨#[]⟩, .string ⟨#[]⟩, .string ⟨#[]⟩, .string ⟨#[]⟩, .string ⟨#[]⟩, .string ⟨#[]⟩] 46 HO ?_
   clear HO
   intro g9 w9 HO
   refine hK.out _ _ (HO.out.sub (by repeat (first | exact List.nil_sublist _ | exact List.Sublist.refl _ | apply List.Sublist.cons_cons | apply List.Sublist.cons))) (fun _ => ?_)
   clear hK K
   refine norm_ (a' := ?_) ?_ ?_
   rotate_left
   ·show Act.put _ (some 9) _ = _
    simp only [Act.put, Sq.s1, Sq.s2, Sq.s3, i64_w, i32_w]
    rfl
   refine Bx.rsts 11 (Sq.b 14 4095) HT_ HO ?_
   clear HO
   intro w9 HO
   refine Sq.pur 12 (some 10) (Sq.b 14 8191) HT_.out ?_
   refine Sq.pur 13 (some 11) (Sq.b 14 16383) HT_.out ?_
   refine done_ (done_of HT_.out Z12) ?_
  case' ob1 =>
   refine Bx.smk 9 #[.string ⟨#[]⟩, .string ⟨#[]⟩, .string ⟨#[]⟩, .string ⟨#[]⟩, .string ⟨#[]⟩, .string ⟨#[]⟩, .string ⟨#[]⟩] 46 HO ?_
   clear HO
   intro g9 w9 HO
   refine hK.out _ _ (HO.out.sub (by repeat (first | exact List.nil_sublist _ | exact List.Sublist.refl _ | apply List.Sublist.cons_cons | apply List.Sublist.cons))) (fun _ => ?_)
   clear hK K
   refine norm_ (a' := ?_) ?_ ?_
   rotate_left
   ·show Act.put _ (some 9) _ = _
    simp only [Act.put, Sq.s1, Sq.s2, Sq.s3, i64_w, i32_w]
    rfl
   refine one_ (i := 5) (N := some 23) (Sq.b 14 1087) rfl rfl (one_of HT_.out Z12) Z34 (fun K hK => ?_)
   refine goes_ Tryz.func87 Z12 rfl #[.agg #[.string ⟨#[]⟩, .string ⟨#[]⟩, .string ⟨#[]⟩, .string ⟨#[]⟩, .string ⟨#[]⟩, .string ⟨#[]⟩, .string ⟨#[97, 98, 99, 100, 101, 102, 103, 104]⟩], .agg #[.int .i64 8, .int .i64 16, .string route_Take.d]] Z16 rfl rfl (by (try simp only [List.map_toArray, List.map_cons, List.map_nil]); first | done | rfl) ?_
   with_reducible refine (intake_Fold.s1 _ _ _ _ HO).mono ?_
   clear HO
   rintro e w9 ⟨gm, rfl, HO⟩
   refine ⟨_, rfl, ?_⟩
   refine hK.out _ _ (HO.out.sub (by repeat (first | exact List.nil_sublist _ | exact List.Sublist.refl _ | apply List.Sublist.cons_cons | apply List.Sublist.cons))) (fun _ => ?_)
   clear hK K
   refine norm_ (a' := ?_) ?_ ?_
   rotate_left
   ·show Act.put _ (some 23) _ = _
    simp only [Act.put, Sq.s1, Sq.s2, Sq.s3, i64_w, i32_w]
    rfl
   refine Sq.pur 6 (some 17) (Sq.b 14 1151) HT_.out ?_
   refine Sq.pur 7 (some 24) (Sq.b 14 1279) HT_.out ?_
   refine Sq.pur 8 (some 25) (Sq.b 14 1535) HT_.out ?_
   refine Sq.pur 9 (some 26) (Sq.b 14 2047) HT_.out ?_
   refine Bx.rsts 11 (Sq.b 14 4095) HT_ HO ?_
   clear HO
   intro w9 HO
   refine Sq.pur 12 (some 10) (Sq.b 14 8191) HT_.out ?_
   refine Sq.pur 13 (some 11) (Sq.b 14 16383) HT_.out ?_
   refine done_ (done_of HT_.out Z12) ?_
  all_goals
   go_wp2_with (first | ((with_reducible refine Pre.gate_load 46 rfl ?_); refine Bx.lds [.string ⟨#[]⟩, .string ⟨#[10, 0, 0, 0]⟩, .string ⟨#[]⟩, .string ⟨#[]⟩, .string ⟨#[]⟩, .string ⟨#[]⟩, .string ⟨#[97, 98, 99, 100, 101, 102, 103, 104]⟩] HO Tryz.underlying46 ?_) | ((with_reducible refine Pre.gate_store 46 rfl ?_); refine Bx.sts HO ?_; clear HO; intro w9 HO) | ((with_reducible refine gate_builtin (b := .append) (xs := #[.tmp 37, .tmp 38]) rfl ?_); replace HO := Aside0.mk (show Bx.Own _ _ _ ([] ++ _) from HO.out); refine Bx.app [.int .i64 11, .int .i64 0, .int .i64 0, .string ⟨#[]⟩, .int .i64 0, .int .i64 1, .string ⟨#[10, 0, 0, 0]⟩, .int .i64 8, .int .i64 0, .string ⟨#[]⟩, .int .i64 1, .string ⟨#[97, 98, 99, 100, 101, 102, 103, 104]⟩, .int .i64 0, .int .i64 0, .int .i64 0, .int .i64 0, .int .i64 0, .int .i64 0, .int .i64 0, .string ⟨#[]⟩, .string ⟨#[]⟩, .slice none 0 0, .int .i64 0, .string ⟨#[]⟩, .slice none 0 0] HO .nil Tryz.underlying22 intake_Fold.info ?_; clear HO; intro v2 g5 c5 w9 hR2 HO))
   go_roundg 0
   case measure => omega
   case rel => exact .inr (.inr ⟨rfl, rfl, g5, c5, ⟨hR2⟩, ⟨HO.out.sub (by repeat (first | exact List.Sublist.refl _ | apply List.Sublist.cons_cons | apply List.Sublist.cons))⟩⟩)
 go_upto_region 12 with fail
 refine Bx.rgo (Sq.b 6 0) [3] _ intake_Fold.tab12 intake_Fold.bits12 HO ?_ (List.Sublist.refl _)
 clear HO
 intro w9 HO HS HT_ HW_
 clear HS
 refine Sq.pur 0 (some 41) (Sq.b 6 1) HT_.out ?_
 refine Bx.rlds 1 42 (Sq.b 6 3) [.string ⟨#[]⟩, .string ⟨#[10, 0, 0, 0]⟩, .string ⟨#[]⟩, .string ⟨#[]⟩, .string ⟨#[]⟩, .string ⟨#[]⟩, .string ⟨#[97, 98, 99, 100, 101, 102, 103, 104]⟩] HT_ HW_ HO Tryz.underlying46 ?_
 refine Sq.pur 2 (some 2) (Sq.b 6 7) HT_.out ?_
 refine Bx.rsts 3 (Sq.b 6 15) HT_ HO ?_
 clear HO
 intro w9 HO
 refine Sq.pur 4 (some 4) (Sq.b 6 31) HT_.out ?_
 refine Sq.pur 5 (some 5) (Sq.b 6 63) HT_.out ?_
 refine done_ (done_of HT_.out Z12) ?_
 go_wp2
 exact Bx.ret [.tmp 2, .cell 3 46, .tmp 4, .tmp 5] (Bx.vt (Bx.vc HO Tryz.underlying46 (Bx.vt (Bx.vt .nil)))) ⟨_, _, rfl, hR.out, rfl, ⟨HO.out.sub (by repeat (first | exact List.Sublist.refl _ | apply List.Sublist.cons_cons | apply List.Sublist.cons))⟩⟩

/-! ### intake_Parse: function 22 -/
/-- The example's datagram, and what stands in it. -/
def suite_Parse.b0 : ByteArray := ⟨#[42, 2, 0, 25, 6, 10, 0, 0, 97, 98, 99, 100, 101, 102, 103, 104, 8, 11, 1, 128, 8, 0, 0, 0, 0, 0, 0, 1, 10]⟩
def suite_Parse.s0 : ByteArray := ⟨#[6, 10, 0, 0, 97, 98, 99, 100, 101, 102, 103, 104, 8, 11, 1, 128, 8, 0, 0, 0, 0, 0, 0, 1, 10]⟩
theorem intake_Parse.b : frame_Body.f suite_Parse.b0 = some (suite_Parse.s0, 0, 0) := by kernel_rfl
theorem intake_Parse.t : frame_Trailer.f suite_Parse.b0 = some ⟨#[]⟩ := by kernel_rfl
theorem intake_Parse.s : frame_Split.f 3 suite_Parse.s0 4 = some (2, [.int .i64 6, .int .i64 4, .string ⟨#[0, 0, 97, 98, 99, 100, 101, 102, 103, 104]⟩, .int .i64 8, .int .i64 16, .string route_Take.d]) := by kernel_rfl
set_option maxHeartbeats 8000000 in
set_option maxRecDepth 100000 in
theorem intake_Parse.calls (B : Nat) (hs : List Bx.Box) (w0 w : World) (HO : Aside0 (Bx.Own B w0 w hs)) :
  Calls Tryz.prog 22 #[.string suite_Parse.b0] w fun e w' => ∃ v b, e = .returned (.tuple #[v, .int .i64 0, .int .i64 0]) ∧ Bx.Row 25 1 v [.int .i64 11, .int .i64 0, .int .i64 0, .string ⟨#[]⟩, .int .i64 0, .int .i64 1, .string ⟨#[10, 0, 0, 0]⟩, .int .i64 8, .int .i64 0, .string ⟨#[]⟩, .int .i64 1, .string ⟨#[97, 98, 99, 100, 101, 102, 103, 104]⟩, .int .i64 0, .int .i64 0, .int .i64 0, .int .i64 0, .int .i64 0, .int .i64 0, .int .i64 0, .string ⟨#[]⟩, .string ⟨#[]⟩, .slice none 0 0, .int .i64 0, .string ⟨#[]⟩, .slice none 0 0] b ∧ b.2.2 = 32 ∧ Aside0 (Bx.Own B w0 w' (b :: hs)) := by
 obtain ⟨d, hd⟩ : ∃ d, d = suite_Parse.b0 := ⟨_, rfl⟩
 obtain ⟨s, hs0⟩ : ∃ s, s = suite_Parse.s0 := ⟨_, rfl⟩
 have hz : s.size = 25 := by rw [hs0]; rfl
 have h1 := intake_Parse.b
 have h2 := intake_Parse.t
 have h3 := intake_Parse.s
 rw [← hd, ← hs0] at h1
 rw [← hd] at h2 ⊢
 rw [← hs0] at h3
 have A1 := Aside0.mk h1
 have A2 := Aside0.mk h2
 have A3 := Aside0.mk h3
 have hw := (show wrap64 (4 + 25) = 29 from by kernel_rfl)
 have ic := Tryz.underlying46
 clear h1 h2 h3 hd hs0
 go_enter Tryz.func22, Tryz.ntmps22
 go_wp2_with (first | ((with_reducible refine gate_callee (f := 38) rfl ?_); refine goesL_ (some 13) rfl rfl Tryz.func38 Z12 rfl #[.string d] rfl (by (try simp only [List.map_toArray, List.map_cons, List.map_nil]); first | done | rfl) ?_; (with_reducible refine (frame_Body.calls d s 0 0 _ A1.out).mono ?_); rintro e w8 ⟨rfl, hd⟩; refine ⟨_, rfl, ?_⟩; replace HO := Bx.dr HO hd; clear hd) | ((with_reducible refine gate_callee (f := 40) rfl ?_); refine goesL_ (some 33) rfl rfl Tryz.func40 Z12 rfl #[.string d] rfl (by (try simp only [List.map_toArray, List.map_cons, List.map_nil]); first | done | rfl) ?_; (with_reducible refine (frame_Trailer.calls d ⟨#[]⟩ _ A2.out).mono ?_); rintro e w8 ⟨rfl, hd⟩; refine ⟨_, rfl, ?_⟩; replace HO := Bx.dr HO hd; clear hd) | ((with_reducible refine gate_callee (f := 39) rfl ?_); refine goesL_ (some 23) rfl rfl Tryz.func39 Z12 rfl #[.string s, .int .i64 4] rfl (by (try simp only [List.map_toArray, List.map_cons, List.map_nil]); first | done | rfl) ?_; (with_reducible refine (frame_Split.calls 3 s 4 2 _ _ _ _ _ HO A3.out).mono ?_); clear HO; rintro e w8 ⟨v, rs, rfl, HR, HO⟩; refine ⟨_, rfl, ?_⟩; obtain ⟨gb, cb, cap, rfl, rfl, hR⟩ := HR.out.some Z34; replace HR := Aside0.mk hR; clear hR) | ((with_reducible refine gate_callee (f := 39) rfl ?_); refine goesL_ (some 37) rfl rfl Tryz.func39 Z12 rfl #[.string ⟨#[]⟩, .int .i64 29] rfl (by (try simp only [List.map_toArray, List.map_cons, List.map_nil]); first | done | rfl) ?_; (with_reducible refine (frame_Split.calls 1 ⟨#[]⟩ 29 0 [] _ _ _ _ HO Z12).mono ?_); clear HO; rintro e w8 ⟨v, rs, rfl, HR_, HO⟩; refine ⟨_, rfl, ?_⟩; replace HR_ := HR_.out; (cases HR_ with | nil => _ | row h_ _ => exact absurd h_ (Nat.lt_irrefl 0))) | ((with_reducible refine gate_callee (f := 41) rfl ?_); refine goesL_ (some 47) rfl rfl Tryz.func41 Z12 rfl #[.slice (some ⟨gb, 0, none⟩) 2 cap] rfl (by (try simp only [List.map_toArray, List.map_cons, List.map_nil]); first | done | rfl) ?_; (with_reducible refine (intake_Fold.calls gb cap cb _ _ _ _ HO HR.out).mono ?_); clear HO; rintro e w8 ⟨v, b, rfl, hM, hT, HO⟩; refine ⟨_, rfl, ?_⟩; have HM := Aside0.mk hM; have HT := Aside0.mk hT; clear hM hT) | ((with_reducible refine gate_dst (N := 10) rfl ?_); refine Bx.mk 10 #[.string ⟨#[]⟩, .string ⟨#[]⟩, .string ⟨#[]⟩, .string ⟨#[]⟩, .string ⟨#[]⟩, .string ⟨#[]⟩, .string ⟨#[]⟩] 46 HO ?_; clear HO; intro g10 dL HO) | ((with_reducible refine Pre.gate_store 46 rfl ?_); refine Bx.sts HO ?_; clear HO; intro w9 HO))
 go_ret3
 exact ⟨_, b, rfl, HM.out, HT.out, ⟨HO.out.sub (by repeat (first | exact List.Sublist.refl _ | apply List.Sublist.cons_cons | apply List.Sublist.cons))⟩⟩

end Go.Proofs.YtnllanjoebjeiaaGreat.PV
