-- Written by mp.py, a program of this work (wip/tools), out of the translation; Lean checks it.
import Derived.Test.YtnllanjoebjeiaaGreatPVxZ
import Derived.Test.YtnllanjoebjeiaaGreatStore
import Derived.RegionTactic
import Derived.ChangeAlike
namespace Go.Proofs.YtnllanjoebjeiaaGreat.PV
open Go.RowKit Go.Proofs.YtnllanjoebjeiaaGreatW.PrintWords Go.Proofs.YtnllanjoebjeiaaGreatW.PrintLast Go.Proofs.YtnllanjoebjeiaaGreatW.PrintMore
attribute [local go_sem] max2_int min2_int max_two min_two max_three min_three max_four min_four   -- for this text's walks alone
set_option linter.unusedVariables false
set_option linter.unusedSimpArgs false

/-! ### cursor_New: function 84 -/
def cursor_New.f (a0 : ByteArray) : Option (ByteArray × Int × Int × Bool) := some (a0, 0, (a0.size : Int), false)
set_option maxHeartbeats 8000000 in
set_option maxRecDepth 100000 in
theorem cursor_New.calls (a0 : ByteArray) (r1 : ByteArray) (r2 : Int) (r3 : Int) (r4 : Bool) (w : World) (h : cursor_New.f a0 = some (r1, r2, r3, r4)) :
  Calls Tryz.prog 84 #[.string a0] w fun e w' => e = .returned (.agg #[.string r1, .int .i64 r2, .int .i64 r3, .bool r4]) ∧ Below w.heap.size w w' := by
 have hu105 := Tryz.underlying105
 have HB := Aside0.mk (Below.refl w.heap.size w)
 have H : (some (a0, 0, (a0.size : Int), false)) = some (r1, r2, r3, r4) := h
 clear h
 simp only [Option.some.injEq, Prod.mk.injEq] at H
 obtain ⟨rfl, rfl, rfl, rfl⟩ := H
 go_enter Tryz.func84, Tryz.ntmps84
 go_wp2_with (first | ((with_reducible refine gate_dst (N := 2) rfl ?_); refine Sq.box 2 #[.string ⟨#[]⟩, .int .i64 0, .int .i64 0, .bool false] 105 ?_; intro aN hg w2 hbox hb; have aE := Aside0.mk (hbox); have cG := Aside0.mk (Sq.ge hg Z2); have cg := Aside0.mk (Sq.ge hg Z2); replace HB := Aside0.mk (below_step Z2 hb); clear hb hbox hg; have fF := cells_4 aE.out))
 refine bodyPost_ret (results_cell_row rfl _ _ aN 105 #[.string a0, .int .i64 0, .int .i64 (a0.size : Int), .bool false] (0, 0) _ rfl (by (with_reducible repeat (first | refine blk_drewN ?_ _ | refine blk_drew ?_ | refine blk_alloc ?_ _)); apply blk_puts4; (with_reducible repeat (first | refine blk_drewN ?_ _ | refine blk_drew ?_ | refine blk_alloc ?_ _)); exact aE.out) Tryz.underlying105 rfl Z12) rfl ?_
 exact ⟨Z5, Z1⟩

/-! ### cursor_Left: function 85 -/
def cursor_Left.f (ar : ByteArray) (aC : Int) (az : Int) (ay : Bool) : Option (Int) := if ay = true then (none) else (some (wrap64 (az - aC)))
set_option maxHeartbeats 8000000 in
set_option maxRecDepth 100000 in
theorem cursor_Left.calls (ar : ByteArray) (aC : Int) (az : Int) (ay : Bool) (r : Int) (w : World) (h : cursor_Left.f ar aC az ay = some r) :
  Calls Tryz.prog 85 #[.agg #[.string ar, .int .i64 aC, .int .i64 az, .bool ay]] w fun e w' => e = .returned (.int .i64 r) ∧ Below w.heap.size w w' := by
 have hu105 := Tryz.underlying105
 have HB := Aside0.mk (Below.refl w.heap.size w)
 have H : (if ay = true then (none) else (some (wrap64 (az - aC)))) = some r := h
 clear h
 by_cases c2 : ay = true
 ·subst c2
  replace H := Sq.itT H
  exact absurd H Z27
 ·replace c2 := Bool.eq_false_iff.mpr c2
  subst c2
  replace H := Sq.itF H
  obtain rfl := Option.some.inj H
  go_enter Tryz.func85, Tryz.ntmps85
  go_wp2_with (first | ((with_reducible refine gate_dst (N := 1) rfl ?_); refine Sq.box 1 #[.string ar, .int .i64 aC, .int .i64 az, .bool false] 105 ?_; intro aN hg w3 hbox hb; have aE := Aside0.mk (hbox); have cG := Aside0.mk (Sq.ge hg Z2); have cg := Aside0.mk (Sq.ge hg Z2); replace HB := Aside0.mk (below_step Z2 hb); clear hb hbox hg; have ib := cells_4 aE.out))
  go_ret
  exact ⟨Z5, Z1⟩

/-! ### cursor_step: function 173 -/
def cursor_step.f (ar : ByteArray) (aC : Int) (az : Int) (ay : Bool) (a1 : Int) : Option (ByteArray × Int × Int × Bool × Bool) := if ay = true then (none) else (if a1 < 0 then (none) else (if a1 > (wrap64 (az - aC)) then (none) else (some (ar, wrap64 (aC + a1), az, ay, true))))
set_option maxHeartbeats 8000000 in
set_option maxRecDepth 100000 in
theorem cursor_step.calls (ar : ByteArray) (aC : Int) (az : Int) (ay : Bool) (a1 : Int) (r1 : ByteArray) (r2 : Int) (r3 : Int) (r4 : Bool) (r5 : Bool) (w : World) (h : cursor_step.f ar aC az ay a1 = some (r1, r2, r3, r4, r5)) :
  Calls Tryz.prog 173 #[.agg #[.string ar, .int .i64 aC, .int .i64 az, .bool ay], .int .i64 a1] w fun e w' => e = .returned (.tuple #[.agg #[.string r1, .int .i64 r2, .int .i64 r3, .bool r4], .bool r5]) ∧ Below w.heap.size w w' := by
 have hu105 := Tryz.underlying105
 have HB := Aside0.mk (Below.refl w.heap.size w)
 have H : (if ay = true then (none) else (if a1 < 0 then (none) else (if a1 > (wrap64 (az - aC)) then (none) else (some (ar, wrap64 (aC + a1), az, ay, true))))) = some (r1, r2, r3, r4, r5) := h
 clear h
 by_cases c3 : ay = true
 ·subst c3
  have H1 : (none) = some (r1, r2, r3, r4, r5) := by rw [if_pos rfl] at H; exact H
  clear H
  have H := H1
  clear H1
  exact absurd H Z27
 ·replace c3 := Bool.eq_false_iff.mpr c3
  subst c3
  have H1 : (if a1 < 0 then (none) else (if a1 > (wrap64 (az - aC)) then (none) else (some (ar, wrap64 (aC + a1), az, false, true)))) = some (r1, r2, r3, r4, r5) := by rw [if_neg (show ¬ (false = true) by decide)] at H; exact H
  clear H
  have H := H1
  clear H1
  by_cases c4 : a1 < 0
  ·rw [if_pos c4] at H
   exact absurd H Z27
  ·rw [if_neg c4] at H
   have bP : decide (a1 < 0) = false := decide_eq_false c4
   clear c4
   by_cases c5 : a1 > (wrap64 (az - aC))
   ·rw [if_pos c5] at H
    exact absurd H Z27
   ·rw [if_neg c5] at H
    have ca : decide ((wrap64 (az - aC)) < a1) = false := decide_eq_false c5
    clear c5
    simp only [Option.some.injEq, Prod.mk.injEq] at H
    obtain ⟨rfl, rfl, rfl, rfl, rfl⟩ := H
    go_enter Tryz.func173, Tryz.ntmps173
    go_wp2_with (first | ((with_reducible refine gate_dst (N := 2) rfl ?_); refine Sq.box 2 #[.string ar, .int .i64 aC, .int .i64 az, .bool false] 105 ?_; intro aN hg w6 hbox hb; have aE := Aside0.mk (hbox); have cG := Aside0.mk (Sq.ge hg Z2); have cg := Aside0.mk (Sq.ge hg Z2); replace HB := Aside0.mk (below_step Z2 hb); clear hb hbox hg) | ((with_reducible refine gate_dst (N := 4) rfl ?_); refine Sq.box 4 #[.string ⟨#[]⟩, .int .i64 0, .int .i64 0, .bool false] 105 ?_; intro bV hg w7 hbox hb; have bN := Aside0.mk (hbox); have dS := Aside0.mk (Sq.ge hg Z1); have cP := Aside0.mk (Sq.ge hg Z1); have dy := Aside0.mk (Sq.nl hg (blk_lt (g := aN) (o := .cells #[.string ar, .int .i64 aC, .int .i64 az, .bool false] 105 (0, 0)) Z4)); have em := Aside0.mk (Sq.ng hg (blk_lt (g := aN) (o := .cells #[.string ar, .int .i64 aC, .int .i64 az, .bool false] 105 (0, 0)) Z4)); replace aE := Aside0.mk (blk_below (g := aN) (o := .cells #[.string ar, .int .i64 aC, .int .i64 az, .bool false] 105 (0, 0)) Z4 hb); replace HB := Aside0.mk (below_step Z1 hb); clear hb hbox hg; have hnb8 := dy.out; have hnc8 := em.out; have eW := cells_4 aE.out; have hcz10 := cells_4 bN.out))
    refine bodyPost_ret (results_ct rfl _ _ bV 105 _ (0, 0) _ rfl (by (with_reducible repeat (first | refine blk_drewN ?_ _ | refine blk_drew ?_ | refine blk_alloc ?_ _)); apply blk_puts4; (with_reducible repeat (first | refine blk_drewN ?_ _ | refine blk_drew ?_ | refine blk_alloc ?_ _)); refine blk_far ?_ em.out _; (with_reducible repeat (first | refine blk_drewN ?_ _ | refine blk_drew ?_ | refine blk_alloc ?_ _)); exact bN.out) Tryz.underlying105 rfl Z12) rfl ?_
    exact ⟨Z5, Z41⟩

/-! ### cursor_Num: function 144 -/
def cursor_Num.f (ar : ByteArray) (aC : Int) (az : Int) (ay : Bool) (a1 : Int) : Option (Int × ByteArray × Int × Int × Bool) :=
 if a1 < 1 ∨ 7 < a1 then none
 else (cursor_step.f ar aC az ay a1).bind fun b =>
  if b.2.2.2.2 = true ∧ 0 ≤ aC ∧ aC ≤ b.2.1 ∧ b.2.1 ≤ (ar.size : Int) ∧ b.2.1 - aC ≤ 7 then some (Pre.numOf (ar.extract aC.toNat b.2.1.toNat), b.1, b.2.1, b.2.2.1, b.2.2.2.1) else none
set_option maxHeartbeats 8000000 in
set_option maxRecDepth 100000 in
theorem cursor_Num.yes (ar : ByteArray) (aC : Int) (az : Int) (ay : Bool) (a1 : Int) (w : World) (h0 : 1 ≤ a1) (h1 : a1 ≤ 7) (r1 : ByteArray) (r2 r3 : Int) (r4 : Bool) (hs : cursor_step.f ar aC az ay a1 = some (r1, r2, r3, r4, true)) (p0 : 0 ≤ aC) (p1 : aC ≤ r2) (p2 : r2 ≤ ar.size) (p3 : r2 - aC ≤ 7) :
  Calls Tryz.prog 144 #[.agg #[.string ar, .int .i64 aC, .int .i64 az, .bool ay], .int .i64 a1] w fun e w' => e = .returned (.tuple #[.int .i64 (Pre.numOf (ar.extract aC.toNat r2.toNat)), .agg #[.string r1, .int .i64 r2, .int .i64 r3, .bool r4]]) ∧ Below w.heap.size w w' := by
 have hu105 := Tryz.underlying105
 have HB := Aside0.mk (Below.refl w.heap.size w)
 have HS := Aside0.mk hs
 clear hs
 have hconv := fun W s => Lib.run_convert_string_bytes (P := Tryz.prog) W 9 64 5 s Tryz.underlying9 Tryz.underlying64 Tryz.underlying5
 go_enter Tryz.func144, Tryz.ntmps144
 go_wp2_with (first | (go_at_call 173; refine (cursor_step.calls _ _ _ _ _ _ _ _ _ _ _ HS.out).mono ?_; rintro e w1 ⟨rfl, hb⟩; have HB1 := Aside0.mk hb; have hz : w.heap.size + 1 < w1.heap.size := (by have := hb.size; simp at this; omega); have hz0 : w.heap.size < w1.heap.size := Z23; have b5 : w1.heap[w.heap.size + 1]? = some (.cells #[.string ⟨#[]⟩, .int .i64 0, .int .i64 0, .bool false] 105 (0, 0)) := (hb.block _ Z27).trans (by have h := heap_alloc_new (w.alloc (.cells #[.string ar, .int .i64 aC, .int .i64 az, .bool ay] 105)) (.cells #[.string ⟨#[]⟩, .int .i64 0, .int .i64 0, .bool false] 105); simpa using h); have b2 : w1.heap[w.heap.size]? = some (.cells #[.string ar, .int .i64 aC, .int .i64 az, .bool ay] 105 (0, 0)) := (hb.block _ (by simp; omega)).trans (Pre.two_blocks w _ _).1; have c0 : w1.cell? ⟨w.heap.size, 0, none⟩ = some (.string ar) := (blk_cell b2 0).trans rfl; have c1 : w1.cell? ⟨w.heap.size, 1, none⟩ = some (.int .i64 aC) := (blk_cell b2 1).trans rfl; have HB5 := Aside0.mk b5; clear hb b5 b2))
 obtain ⟨sub, hsub⟩ : ∃ s, s = ar.extract aC.toNat r2.toNat := ⟨_, rfl⟩
 have hsz : sub.size = r2.toNat - aC.toNat := by rw [hsub, ByteArray.size_extract]; omega
 rw [← hsub, ← hsz]
 have HS2 := Aside0.mk hsub
 have hz7 : sub.size ≤ 7 := by omega
 clear hsub
 obtain ⟨W2, hW2⟩ : ∃ W, W = w1.alloc (.cells #[.string r1, .int .i64 r2, .int .i64 r3, .bool r4] 105) := ⟨_, rfl⟩
 have e2 : W2.heap.size = w1.heap.size + 1 := by rw [hW2]; simp
 obtain ⟨W3, hW3⟩ : ∃ W, W = Lib.bytesWorld W2 5 sub := ⟨_, rfl⟩
 have hcell : ∀ k : Nat, k < sub.size → W3.cell? ⟨w1.heap.size + 1, k, none⟩ = some (.int .u8 (sub.data.toList.getD k 0).toNat) := fun k hk => by rw [hW3, ← e2]; exact Lib.bytesWorld_cell W2 5 sub k hk
 have b6 : W3.heap[w1.heap.size]? = some (.cells #[.string r1, .int .i64 r2, .int .i64 r3, .bool r4] 105 (0, 0)) := by
  rw [hW3, Lib.bytesWorld_at_old _ _ _ _ Z23, hW2]; exact heap_alloc_new _ _
 have b5 : W3.heap[w.heap.size + 1]? = some (.cells #[.string ⟨#[]⟩, .int .i64 0, .int .i64 0, .bool false] 105 (0, 0)) := by
  rw [hW3, Lib.bytesWorld_at_old _ _ _ _ Z23, hW2, (Below.block (below_alloc (Below.refl w1.heap.size w1) _) (w.heap.size + 1) hz)]; exact HB5.out
 have HBw := Aside0.mk (((below_alloc (below_alloc (Below.refl w.heap.size w) (.cells #[.string ar, .int .i64 aC, .int .i64 az, .bool ay] 105)) (.cells #[.string ⟨#[]⟩, .int .i64 0, .int .i64 0, .bool false] 105)).trans (HB1.out.mono (by simp; omega))).trans (((below_alloc (Below.refl w1.heap.size w1) (.cells #[.string r1, .int .i64 r2, .int .i64 r3, .bool r4] 105)).trans ((Pre.below_bytes _ 5 sub).mono Z27)).mono Z23))
 rw [← hW2, ← hW3] at HBw
 rw [← hW2, ← hW3]
 have g0 : W3.cell? ⟨w1.heap.size, 0, none⟩ = some (.string r1) := (blk_cell b6 0).trans rfl
 have g1 : W3.cell? ⟨w1.heap.size, 1, none⟩ = some (.int .i64 r2) := (blk_cell b6 1).trans rfl
 have g2 : W3.cell? ⟨w1.heap.size, 2, none⟩ = some (.int .i64 r3) := (blk_cell b6 2).trans rfl
 have g3 : W3.cell? ⟨w1.heap.size, 3, none⟩ = some (.bool r4) := (blk_cell b6 3).trans rfl
 have k0 : W3.cell? ⟨w.heap.size + 1, 0, none⟩ = some (.string ⟨#[]⟩) := (blk_cell b5 0).trans rfl
 have k1 : W3.cell? ⟨w.heap.size + 1, 1, none⟩ = some (.int .i64 0) := (blk_cell b5 1).trans rfl
 have k2 : W3.cell? ⟨w.heap.size + 1, 2, none⟩ = some (.int .i64 0) := (blk_cell b5 2).trans rfl
 have k3 : W3.cell? ⟨w.heap.size + 1, 3, none⟩ = some (.bool false) := (blk_cell b5 3).trans rfl
 have f0 := blk_frozen b5 0
 have f1 := blk_frozen b5 1
 have f2 := blk_frozen b5 2
 have f3 := blk_frozen b5 3
 have hne : ¬ w1.heap.size = w.heap.size + 1 := by omega
 have hne2 : ¬ w.heap.size + 1 = w1.heap.size := by omega
 have HC := Aside0.mk hcell
 clear hcell hW3 hW2 e2 c0 c1 b5 b6 hconv
 go_loop [8, 37] (fun n i => ∃ (k : Nat) (v : Int), k ≤ sub.size ∧ i = .int .i64 k ∧ n = .int .i64 v ∧ Aside0 (v = ((bytesOf sub).take k).foldl (fun a b => a * 256 + b) 0) ∧ 0 ≤ v ∧ v < 256 ^ k) (fun _ i => sub.size - (intOf i).toNat)
 case atStart => exact ⟨0, 0, Nat.zero_le _, rfl, rfl, ⟨rfl⟩, Z34, Z34⟩
 case round =>
  obtain ⟨k, v, hk, rfl, rfl, HV, hv0, hv1⟩ := hrel
  have hv2 : v < 72057594037927936 := Int.lt_of_lt_of_le hv1 (Pre.pow_le7_ k Z23)
  by_cases hlt : k < sub.size
  ·have hc := HC.out k hlt
   obtain ⟨x, hx⟩ : ∃ x : Int, ((sub.data.toList.getD k 0).toNat : Int) = x := ⟨_, rfl⟩
   rw [hx] at hc
   have hx0 : 0 ≤ x ∧ x ≤ 255 := by have := (sub.data.toList.getD k 0).toNat_lt; omega
   obtain ⟨hxl, hxh⟩ := hx0
   have hv3 : v < 281474976710656 := Int.lt_of_lt_of_le hv1 (Pre.pow_le6_ k Z23)
   have hor : Go.bits .or .i64 (v * 256) x = v * 256 + x := Pre.or_byte hv0 hv3 hxl hxh
   have HX := Aside0.mk hx
   have HV1 := Aside0.mk hv1
   clear hx hv1 hv2
   go_wp2
   go_round
   case rel =>
    refine ⟨k + 1, v * 256 + x, Z23, by go_num, rfl, ⟨?_⟩, Z23, ?_⟩
    ·rw [Pre.fold_take _ k (by rw [bytesOf, List.length_map, data_length]; exact hlt), ← HV.out]
     congr 1
     rw [← HX.out, ← Pre.bt_getD_, ← rd_bytesOf, rd]; simp
    ·rw [Int.pow_succ]; have := HV1.out; omega
   case measure => simp [intOf]; omega
  ·have e : k = sub.size := by omega
   have e2 : v = Pre.numOf sub := by
    rw [HV.out, e, List.take_of_length_le (by rw [bytesOf, List.length_map, data_length]; exact Nat.le_refl _)]; rfl
   have E2 := Aside0.mk e2
   clear e e2 hv1 hv2
   go_wp2
   go_region
   go_wp2
   refine bodyPost_ret (v := .tuple #[.int .i64 v, .agg #[.string r1, .int .i64 r2, .int .i64 r3, .bool r4]]) (by simp [results, Tryz.results144, go_sem, hz, hz0, g0, g1, g2, g3, k0, k1, k2, k3]) rfl ⟨?_, by repeat (first | exact HBw.out | apply below_alloc | apply below_drew1 | (refine Below.setCell ?_ Z27 _))⟩
   rw [← HS2.out, E2.out]
theorem cursor_Num.calls (ar : ByteArray) (aC : Int) (az : Int) (ay : Bool) (a1 : Int) (r1 : Int) (r2 : ByteArray) (r3 : Int) (r4 : Int) (r5 : Bool) (w : World) (h : cursor_Num.f ar aC az ay a1 = some (r1, r2, r3, r4, r5)) :
  Calls Tryz.prog 144 #[.agg #[.string ar, .int .i64 aC, .int .i64 az, .bool ay], .int .i64 a1] w fun e w' => e = .returned (.tuple #[.int .i64 r1, .agg #[.string r2, .int .i64 r3, .int .i64 r4, .bool r5]]) ∧ Below w.heap.size w w' := by
 unfold cursor_Num.f at h
 by_cases c : a1 < 1 ∨ 7 < a1
 ·rw [if_pos c] at h; cases h
 ·rw [if_neg c] at h
  obtain ⟨⟨s1, s2, s3, s4, s5⟩, hs, h⟩ := Option.bind_eq_some_iff.mp h
  dsimp only at h
  by_cases p : s5 = true ∧ 0 ≤ aC ∧ aC ≤ s2 ∧ s2 ≤ (ar.size : Int) ∧ s2 - aC ≤ 7
  ·rw [if_pos p] at h
   simp only [Option.some.injEq, Prod.mk.injEq] at h
   obtain ⟨rfl, rfl, rfl, rfl, rfl⟩ := h
   rw [p.1] at hs
   exact cursor_Num.yes _ _ _ _ _ w Z23 Z23 _ _ _ _ hs p.2.1 p.2.2.1 p.2.2.2.1 p.2.2.2.2
  ·rw [if_neg p] at h; cases h

/-! ### cursor_Text: function 145 -/
def cursor_Text.f (ar : ByteArray) (aC : Int) (az : Int) (ay : Bool) (a1 : Int) : Option (ByteArray × ByteArray × Int × Int × Bool) := (cursor_step.f ar aC az ay a1).bind fun bt103 => (if bt103.2.2.2.2 = true then (if 0 ≤ aC then (if aC ≤ bt103.2.1 then (if bt103.2.1 ≤ (ar.size : Int) then (some (ar.extract (aC : Int).toNat (bt103.2.1 : Int).toNat, bt103.1, bt103.2.1, bt103.2.2.1, bt103.2.2.2.1)) else (none)) else (none)) else (none)) else (none))
def cursor_Text.T4 : Bool × List (List Nat × List Nat) := (true, [([], []), ([0], [0]), ([], []), ([2], [2]), ([], []), ([4], [4]), ([1, 3, 5], [1, 3, 5]), ([], []), ([6, 0, 1, 2, 3, 4, 5, 6], [6]), ([7, 8, 0, 1, 2, 3, 4, 5, 6, 7, 8], [7])])
def cursor_Text.B4 : List Nat := [0, 1, 0, 4, 0, 16, 63, 0, 127, 511]
theorem cursor_Text.tab4 : rtab .any (opsOf Tryz.f145 4) = cursor_Text.T4 := by kernel_rfl
theorem cursor_Text.bits4 : waitsOk cursor_Text.T4.2 cursor_Text.B4 = true := by kernel_rfl
set_option maxHeartbeats 8000000 in
set_option maxRecDepth 100000 in
theorem cursor_Text.calls (ar : ByteArray) (aC : Int) (az : Int) (ay : Bool) (a1 : Int) (r1 : ByteArray) (r2 : ByteArray) (r3 : Int) (r4 : Int) (r5 : Bool) (w : World) (h : cursor_Text.f ar aC az ay a1 = some (r1, r2, r3, r4, r5)) :
  Calls Tryz.prog 145 #[.agg #[.string ar, .int .i64 aC, .int .i64 az, .bool ay], .int .i64 a1] w fun e w' => e = .returned (.tuple #[.string r1, .agg #[.string r2, .int .i64 r3, .int .i64 r4, .bool r5]]) ∧ Below w.heap.size w w' := by
 have hu105 := Tryz.underlying105
 have HB := Aside0.mk (Below.refl w.heap.size w)
 have H : ((cursor_step.f ar aC az ay a1).bind fun bt103 => (if bt103.2.2.2.2 = true then (if 0 ≤ aC then (if aC ≤ bt103.2.1 then (if bt103.2.1 ≤ (ar.size : Int) then (some (ar.extract (aC : Int).toNat (bt103.2.1 : Int).toNat, bt103.1, bt103.2.1, bt103.2.2.1, bt103.2.2.2.1)) else (none)) else (none)) else (none)) else (none))) = some (r1, r2, r3, r4, r5) := h
 clear h
 replace H := Option.bind_eq_some_iff.mp H
 obtain ⟨⟨bK, bQ, ch, cb, ci⟩, cU, H⟩ := H
 replace H : (if ci = true then (if 0 ≤ aC then (if aC ≤ bQ then (if bQ ≤ (ar.size : Int) then (some (ar.extract (aC : Int).toNat (bQ : Int).toNat, bK, bQ, ch, cb)) else (none)) else (none)) else (none)) else (none)) = some (r1, r2, r3, r4, r5) := H
 have A3 := Aside0.mk cU
 clear cU
 by_cases c4 : ci = true
 ·subst c4
  have H1 : (if 0 ≤ aC then (if aC ≤ bQ then (if bQ ≤ (ar.size : Int) then (some (ar.extract (aC : Int).toNat (bQ : Int).toNat, bK, bQ, ch, cb)) else (none)) else (none)) else (none)) = some (r1, r2, r3, r4, r5) := by rw [if_pos rfl] at H; exact H
  clear H
  have H := H1
  clear H1
  by_cases c5 : 0 ≤ aC
  ·rw [if_pos c5] at H
   have ca := eq_true c5
   have dM : decide (0 ≤ aC) = true := decide_eq_true c5
   clear c5
   by_cases c6 : aC ≤ bQ
   ·rw [if_pos c6] at H
    have ce := eq_true c6
    have cJ : decide (aC ≤ bQ) = true := decide_eq_true c6
    clear c6
    by_cases c7 : bQ ≤ (ar.size : Int)
    ·rw [if_pos c7] at H
     have cN := eq_true c7
     have fN : decide (bQ ≤ (ar.size : Int)) = true := decide_eq_true c7
     clear c7
     simp only [Option.some.injEq, Prod.mk.injEq] at H
     obtain ⟨rfl, rfl, rfl, rfl, rfl⟩ := H
     go_enter Tryz.func145, Tryz.ntmps145
     try go_wp2_with (first | ((with_reducible refine gate_dst (N := 2) rfl ?_); refine Sq.box 2 #[.string ar, .int .i64 aC, .int .i64 az, .bool ay] 105 ?_; intro aN hg w8 hbox hb; have aE := Aside0.mk (hbox); have cG := Aside0.mk (Sq.ge hg Z2); have cg := Aside0.mk (Sq.ge hg Z2); replace HB := Aside0.mk (below_step Z2 hb); clear hb hbox hg) | ((with_reducible refine gate_dst (N := 5) rfl ?_); refine Sq.box 5 #[.string ⟨#[]⟩, .int .i64 0, .int .i64 0, .bool false] 105 ?_; intro bV hg w9 hbox hb; have bN := Aside0.mk (hbox); have dS := Aside0.mk (Sq.ge hg Z1); have cP := Aside0.mk (Sq.ge hg Z1); have dy := Aside0.mk (Sq.nl hg (blk_lt (g := aN) (o := .cells #[.string ar, .int .i64 aC, .int .i64 az, .bool ay] 105 (0, 0)) Z4)); have em := Aside0.mk (Sq.ng hg (blk_lt (g := aN) (o := .cells #[.string ar, .int .i64 aC, .int .i64 az, .bool ay] 105 (0, 0)) Z4)); replace aE := Aside0.mk (blk_below (g := aN) (o := .cells #[.string ar, .int .i64 aC, .int .i64 az, .bool ay] 105 (0, 0)) Z4 hb); replace HB := Aside0.mk (below_step Z1 hb); clear hb hbox hg; have hnb10 := dy.out; have hnc10 := em.out; have fe := cells_4 aE.out) | ((with_reducible refine gate_callee (f := 173) rfl ?_); refine goesL_ (some 11) rfl rfl Tryz.func173 Z12 rfl #[.agg #[.string ar, .int .i64 aC, .int .i64 az, .bool ay], .int .i64 a1] rfl Z3 ?_; (with_reducible refine (cursor_step.calls ar aC az ay a1 bK bQ ch cb true _ A3.out).mono ?_); rintro e iv ⟨rfl, hb⟩; refine ⟨_, rfl, ?_⟩; replace aE := Aside0.mk (blk_below (g := aN) (o := .cells #[.string ar, .int .i64 aC, .int .i64 az, .bool ay] 105 (0, 0)) Z4 hb); replace bN := Aside0.mk (blk_below (g := bV) (o := .cells #[.string ⟨#[]⟩, .int .i64 0, .int .i64 0, .bool false] 105 (0, 0)) (by (with_reducible repeat (first | refine blk_drewN ?_ _ | refine blk_drew ?_ | refine blk_alloc ?_ _)); exact bN.out) hb); replace HB := Aside0.mk (below_step Z41 hb); clear hb) | ((with_reducible refine gate_dst (N := 6) rfl ?_); refine Sq.box 6 #[.string ⟨#[]⟩, .int .i64 0, .int .i64 0, .bool false] 105 ?_; intro gb108 hg gi hbox hb; have BK108 := Aside0.mk (hbox); have GW108 := Aside0.mk (Sq.ge hg Z41); have GE108 := Aside0.mk (Sq.ge hg Z41); have NB101_108 := Aside0.mk (Sq.nl hg (blk_lt (g := aN) (o := .cells #[.string ar, .int .i64 aC, .int .i64 az, .bool ay] 105 (0, 0)) Z4)); have NB108_101 := Aside0.mk (Sq.ng hg (blk_lt (g := aN) (o := .cells #[.string ar, .int .i64 aC, .int .i64 az, .bool ay] 105 (0, 0)) Z4)); have NB102_108 := Aside0.mk (Sq.nl hg (blk_lt (g := bV) (o := .cells #[.string ⟨#[]⟩, .int .i64 0, .int .i64 0, .bool false] 105 (0, 0)) (by (with_reducible repeat (first | refine blk_drewN ?_ _ | refine blk_drew ?_ | refine blk_alloc ?_ _)); exact bN.out))); have NB108_102 := Aside0.mk (Sq.ng hg (blk_lt (g := bV) (o := .cells #[.string ⟨#[]⟩, .int .i64 0, .int .i64 0, .bool false] 105 (0, 0)) (by (with_reducible repeat (first | refine blk_drewN ?_ _ | refine blk_drew ?_ | refine blk_alloc ?_ _)); exact bN.out))); replace aE := Aside0.mk (blk_below (g := aN) (o := .cells #[.string ar, .int .i64 aC, .int .i64 az, .bool ay] 105 (0, 0)) Z4 hb); replace bN := Aside0.mk (blk_below (g := bV) (o := .cells #[.string ⟨#[]⟩, .int .i64 0, .int .i64 0, .bool false] 105 (0, 0)) (by (with_reducible repeat (first | refine blk_drewN ?_ _ | refine blk_drew ?_ | refine blk_alloc ?_ _)); exact bN.out) hb); replace HB := Aside0.mk (below_step Z41 hb); clear hb hbox hg; have hnb14 := NB108_101.out; have hnc14 := NB101_108.out; have hnb15 := NB108_102.out; have hnc15 := NB102_108.out; have ft := cells_4 BK108.out))
     have bL : Aside0 (((((gi.setCell ⟨gb108, 0, none⟩ (.string bK)).setCell ⟨gb108, 1, none⟩ (.int .i64 bQ)).setCell ⟨gb108, 2, none⟩ (.int .i64 ch)).setCell ⟨gb108, 3, none⟩ (.bool cb)).heap[aN]? = some (.cells #[.string ar, .int .i64 aC, .int .i64 az, .bool ay] 105 (0, 0))) := ⟨by (with_reducible repeat (first | refine blk_drewN ?_ _ | refine blk_drew ?_ | refine blk_alloc ?_ _)); refine blk_far ?_ NB101_108.out _; (with_reducible repeat (first | refine blk_drewN ?_ _ | refine blk_drew ?_ | refine blk_alloc ?_ _)); refine blk_far ?_ NB101_108.out _; (with_reducible repeat (first | refine blk_drewN ?_ _ | refine blk_drew ?_ | refine blk_alloc ?_ _)); refine blk_far ?_ NB101_108.out _; (with_reducible repeat (first | refine blk_drewN ?_ _ | refine blk_drew ?_ | refine blk_alloc ?_ _)); refine blk_far ?_ NB101_108.out _; (with_reducible repeat (first | refine blk_drewN ?_ _ | refine blk_drew ?_ | refine blk_alloc ?_ _)); exact aE.out⟩
     have bM : Aside0 (((((gi.setCell ⟨gb108, 0, none⟩ (.string bK)).setCell ⟨gb108, 1, none⟩ (.int .i64 bQ)).setCell ⟨gb108, 2, none⟩ (.int .i64 ch)).setCell ⟨gb108, 3, none⟩ (.bool cb)).heap[bV]? = some (.cells #[.string ⟨#[]⟩, .int .i64 0, .int .i64 0, .bool false] 105 (0, 0))) := ⟨by (with_reducible repeat (first | refine blk_drewN ?_ _ | refine blk_drew ?_ | refine blk_alloc ?_ _)); refine blk_far ?_ NB102_108.out _; (with_reducible repeat (first | refine blk_drewN ?_ _ | refine blk_drew ?_ | refine blk_alloc ?_ _)); refine blk_far ?_ NB102_108.out _; (with_reducible repeat (first | refine blk_drewN ?_ _ | refine blk_drew ?_ | refine blk_alloc ?_ _)); refine blk_far ?_ NB102_108.out _; (with_reducible repeat (first | refine blk_drewN ?_ _ | refine blk_drew ?_ | refine blk_alloc ?_ _)); refine blk_far ?_ NB102_108.out _; (with_reducible repeat (first | refine blk_drewN ?_ _ | refine blk_drew ?_ | refine blk_alloc ?_ _)); exact bN.out⟩
     have cf : Aside0 (((((gi.setCell ⟨gb108, 0, none⟩ (.string bK)).setCell ⟨gb108, 1, none⟩ (.int .i64 bQ)).setCell ⟨gb108, 2, none⟩ (.int .i64 ch)).setCell ⟨gb108, 3, none⟩ (.bool cb)).heap[gb108]? = some (.cells #[.string bK, .int .i64 bQ, .int .i64 ch, .bool cb] 105 (0, 0))) := ⟨by (with_reducible repeat (first | refine blk_drewN ?_ _ | refine blk_drew ?_ | refine blk_alloc ?_ _)); apply blk_puts4; (with_reducible repeat (first | refine blk_drewN ?_ _ | refine blk_drew ?_ | refine blk_alloc ?_ _)); exact BK108.out⟩
     have cQ : Aside0 (Below w.heap.size w ((((gi.setCell ⟨gb108, 0, none⟩ (.string bK)).setCell ⟨gb108, 1, none⟩ (.int .i64 bQ)).setCell ⟨gb108, 2, none⟩ (.int .i64 ch)).setCell ⟨gb108, 3, none⟩ (.bool cb))) := ⟨by repeat (first | (with_reducible first | exact HB.out | apply below_alloc | apply pw_below_drewN | apply below_drew1 | refine below_set ?_ cg.out | refine below_set ?_ cP.out | refine below_set ?_ GE108.out) | exact HB.out)⟩
     (try clear aE)
     (try clear bN)
     (try clear BK108)
     (try clear HB)
     generalize ((((gi.setCell ⟨gb108, 0, none⟩ (.string bK)).setCell ⟨gb108, 1, none⟩ (.int .i64 bQ)).setCell ⟨gb108, 2, none⟩ (.int .i64 ch)).setCell ⟨gb108, 3, none⟩ (.bool cb)) = hV at bL bM cf cQ ⊢
     have aE := bL
     have bN := bM
     have BK108 := cf
     have HB := cQ
     clear bL bM cf cQ
     have bL := Aside0.mk (blk_drew aE.out)
     have bM := Aside0.mk (blk_drew bN.out)
     have cf := Aside0.mk (blk_drew BK108.out)
     have cQ := Aside0.mk (below_drew1 HB.out)
     clear aE
     clear bN
     clear BK108
     clear HB
     have aE := bL
     have bN := bM
     have BK108 := cf
     have HB := cQ
     clear bL bM cf cQ
     refine start_ (n := 10) (S := fun w' => w'.cell? ⟨aN, 0, none⟩ = some (.string ar) ∧ w'.cell? ⟨aN, 1, none⟩ = some (.int .i64 aC) ∧ w'.cell? ⟨aN, 2, none⟩ = some (.int .i64 az) ∧ w'.cell? ⟨aN, 3, none⟩ = some (.bool ay) ∧ w'.cell? ⟨gb108, 0, none⟩ = some (.string bK) ∧ w'.cell? ⟨gb108, 1, none⟩ = some (.int .i64 bQ) ∧ w'.cell? ⟨gb108, 2, none⟩ = some (.int .i64 ch) ∧ w'.cell? ⟨gb108, 3, none⟩ = some (.bool cb)) (ds := []) (Sq.b 10 0) Z12 rfl rfl ⟨Sq.bc aE 0, Sq.bc aE 1, Sq.bc aE 2, Sq.bc aE 3, Sq.bc BK108 0, Sq.bc BK108 1, Sq.bc BK108 2, Sq.bc BK108 3⟩ (fun hHeld => ?_); refine with_tabW cursor_Text.tab4 cursor_Text.bits4 (fun HT_ HW_ => ?_)
     generalize hV.drew = w18 at aE bN BK108 HB hHeld ⊢
     refine Sq.pur 0 (some 17) (Sq.b 10 1) HT_.out ?_
     refine Sq.pur 2 (some 19) (Sq.b 10 5) HT_.out ?_
     refine Sq.pur 4 (some 21) (Sq.b 10 21) HT_.out ?_
     refine Sq.tak 1 (some 18) (Sq.b 10 23) HT_.out HW_.out hHeld (v := ?_) (a' := ?_) ?_ ?_ ?_
     rotate_left
     ·rintro w' ⟨s0, s1, s2, s3, s4, s5, s6, s7⟩
      go_simp
      with_reducible rfl
     rotate_left
     ·simp only [Act.put, Sq.s1, Sq.s2, Sq.s3, i64_w, i32_w]
      rfl
     refine Sq.tak 3 (some 20) (Sq.b 10 31) HT_.out HW_.out hHeld (v := ?_) (a' := ?_) ?_ ?_ ?_
     rotate_left
     ·rintro w' ⟨s0, s1, s2, s3, s4, s5, s6, s7⟩
      go_simp
      with_reducible rfl
     rotate_left
     ·simp only [Act.put, Sq.s1, Sq.s2, Sq.s3, i64_w, i32_w]
      rfl
     refine Sq.tak 5 (some 22) (Sq.b 10 63) HT_.out HW_.out hHeld (v := ?_) (a' := ?_) ?_ ?_ ?_
     rotate_left
     ·rintro w' ⟨s0, s1, s2, s3, s4, s5, s6, s7⟩
      go_simp
      with_reducible rfl
     rotate_left
     ·simp only [Act.put, Sq.s1, Sq.s2, Sq.s3, i64_w, i32_w]
      rfl
     refine Sq.pur 6 (some 23) (Sq.b 10 127) HT_.out ?_
     refine Sq.pur 8 (some 4) (Sq.b 10 383) HT_.out ?_
     refine Sq.tak 7 (some 24) (Sq.b 10 511) HT_.out HW_.out hHeld (v := ?_) (a' := ?_) ?_ ?_ ?_
     rotate_left
     ·rintro w' ⟨s0, s1, s2, s3, s4, s5, s6, s7⟩
      go_simp
      with_reducible rfl
     rotate_left
     ·simp only [Act.put, Sq.s1, Sq.s2, Sq.s3, i64_w, i32_w]
      rfl
     refine one_ (i := 9) (N := none) (Sq.b 10 1023) rfl rfl (one_of HT_.out Z12) Z34 (fun K hK => ?_)
     have hs19 : w18.cell? ⟨bV, 0, none⟩ = some (.string ⟨#[]⟩) := (blk_cell bN.out 0).trans rfl
     have hfs19 := blk_frozen bN.out 0
     have hns19_0 := dy.out
     have hns19_2 := NB108_102.out
     have hms19_0 := em.out
     have hms19_2 := NB102_108.out
     have hs20 : w18.cell? ⟨bV, 1, none⟩ = some (.int .i64 0) := (blk_cell bN.out 1).trans rfl
     have hfs20 := blk_frozen bN.out 1
     have hns20_0 := dy.out
     have hns20_2 := NB108_102.out
     have hms20_0 := em.out
     have hms20_2 := NB102_108.out
     have hs21 : w18.cell? ⟨bV, 2, none⟩ = some (.int .i64 0) := (blk_cell bN.out 2).trans rfl
     have hfs21 := blk_frozen bN.out 2
     have hns21_0 := dy.out
     have hns21_2 := NB108_102.out
     have hms21_0 := em.out
     have hms21_2 := NB102_108.out
     have hs22 : w18.cell? ⟨bV, 3, none⟩ = some (.bool false) := (blk_cell bN.out 3).trans rfl
     have hfs22 := blk_frozen bN.out 3
     have hns22_0 := dy.out
     have hns22_2 := NB108_102.out
     have hms22_0 := em.out
     have hms22_2 := NB102_108.out
     refine skip_ (w1 := ?_) Z16 rfl ?_ ?_
     rotate_left
     ·go_simp
      rfl
     refine hK.out _ _ ⟨((cell_far (p := ⟨bV, _, none⟩) dy.out _).trans (((cell_far (p := ⟨bV, _, none⟩) dy.out _).trans (((cell_far (p := ⟨bV, _, none⟩) dy.out _).trans (((cell_far (p := ⟨bV, _, none⟩) dy.out _).trans (hHeld.1)))))))), ((cell_far (p := ⟨bV, _, none⟩) dy.out _).trans (((cell_far (p := ⟨bV, _, none⟩) dy.out _).trans (((cell_far (p := ⟨bV, _, none⟩) dy.out _).trans (((cell_far (p := ⟨bV, _, none⟩) dy.out _).trans (hHeld.2.1)))))))), ((cell_far (p := ⟨bV, _, none⟩) dy.out _).trans (((cell_far (p := ⟨bV, _, none⟩) dy.out _).trans (((cell_far (p := ⟨bV, _, none⟩) dy.out _).trans (((cell_far (p := ⟨bV, _, none⟩) dy.out _).trans (hHeld.2.2.1)))))))), ((cell_far (p := ⟨bV, _, none⟩) dy.out _).trans (((cell_far (p := ⟨bV, _, none⟩) dy.out _).trans (((cell_far (p := ⟨bV, _, none⟩) dy.out _).trans (((cell_far (p := ⟨bV, _, none⟩) dy.out _).trans (hHeld.2.2.2.1)))))))), ((cell_far (p := ⟨bV, _, none⟩) NB108_102.out _).trans (((cell_far (p := ⟨bV, _, none⟩) NB108_102.out _).trans (((cell_far (p := ⟨bV, _, none⟩) NB108_102.out _).trans (((cell_far (p := ⟨bV, _, none⟩) NB108_102.out _).trans (hHeld.2.2.2.2.1)))))))), ((cell_far (p := ⟨bV, _, none⟩) NB108_102.out _).trans (((cell_far (p := ⟨bV, _, none⟩) NB108_102.out _).trans (((cell_far (p := ⟨bV, _, none⟩) NB108_102.out _).trans (((cell_far (p := ⟨bV, _, none⟩) NB108_102.out _).trans (hHeld.2.2.2.2.2.1)))))))), ((cell_far (p := ⟨bV, _, none⟩) NB108_102.out _).trans (((cell_far (p := ⟨bV, _, none⟩) NB108_102.out _).trans (((cell_far (p := ⟨bV, _, none⟩) NB108_102.out _).trans (((cell_far (p := ⟨bV, _, none⟩) NB108_102.out _).trans (hHeld.2.2.2.2.2.2.1)))))))), ((cell_far (p := ⟨bV, _, none⟩) NB108_102.out _).trans (((cell_far (p := ⟨bV, _, none⟩) NB108_102.out _).trans (((cell_far (p := ⟨bV, _, none⟩) NB108_102.out _).trans (((cell_far (p := ⟨bV, _, none⟩) NB108_102.out _).trans (hHeld.2.2.2.2.2.2.2))))))))⟩ (fun hHeld => ?_)
     clear hK K
     refine done_ (done_of HT_.out Z12) ?_
     try go_wp2
     refine bodyPost_ret (results_tc rfl _ _ bV 105 #[.string bK, .int .i64 bQ, .int .i64 ch, .bool cb] (0, 0) _ rfl (by (with_reducible repeat (first | refine blk_drewN ?_ _ | refine blk_drew ?_ | refine blk_alloc ?_ _)); apply blk_puts4; (with_reducible repeat (first | refine blk_drewN ?_ _ | refine blk_drew ?_ | refine blk_alloc ?_ _)); exact bN.out) Tryz.underlying105 rfl Z12) rfl ?_
     exact ⟨Z5, by repeat (first | (with_reducible first | exact HB.out | apply below_alloc | apply pw_below_drewN | apply below_drew1 | refine below_set ?_ cg.out | refine below_set ?_ cP.out | refine below_set ?_ GE108.out) | exact HB.out)⟩
    ·rw [if_neg c7] at H
     exact absurd H Z27
   ·rw [if_neg c6] at H
    exact absurd H Z27
  ·rw [if_neg c5] at H
   exact absurd H Z27
 ·replace c4 := Bool.eq_false_iff.mpr c4
  subst c4
  have H1 : (none) = some (r1, r2, r3, r4, r5) := by rw [if_neg (show ¬ (false = true) by decide)] at H; exact H
  clear H
  have H := H1
  clear H1
  exact absurd H Z27

end Go.Proofs.YtnllanjoebjeiaaGreat.PV
