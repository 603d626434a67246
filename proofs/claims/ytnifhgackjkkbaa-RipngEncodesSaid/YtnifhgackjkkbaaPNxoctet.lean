-- Written by mp.py, a program of this work (wip/tools), out of the translation; Lean checks it.
import Derived.Test.YtnifhgackjkkbaaPNxZ
import Derived.Test.YtnifhgackjkkbaaConv
import Derived.RegionTactic
import Derived.ChangeAlike
import Derived.StillTailTactics
namespace Go.Proofs.Ytnifhgackjkkbaa.PN
open Go.RowKit Go.Proofs.YtnifhgackjkkbaaW.PrintWords Go.Proofs.YtnifhgackjkkbaaW.PrintLast Go.Proofs.YtnifhgackjkkbaaW.PrintMore
attribute [local go_sem] max2_int min2_int max_two min_two max_three min_three max_four min_four   -- for this text's walks alone
set_option linter.unusedVariables false
set_option linter.unusedSimpArgs false

/-! ### octet_Zero: function 35 -/
/-- Are all bytes noughts? -/
def octet_Zero.f (a0 : ByteArray) : Option Bool := if a0.size ≤ 140737488351232 then some (a0.data.toList.all (· == 0)) else none
theorem octet_Zero.all_step (l : List UInt8) (k : Nat) (h : k < l.length) : (l.take (k+1)).all (· == 0) = ((l.take k).all (· == 0) && (l.getD k 0 == 0)) := by
 rw [List.take_succ_eq_append_getElem h, List.all_append]; simp [List.getD_eq_getElem?_getD, h]
set_option maxHeartbeats 8000000 in
set_option maxRecDepth 100000 in
theorem octet_Zero.calls (a0 : ByteArray) (r : Bool) (w : World) (h : octet_Zero.f a0 = some r) :
  Calls Try.prog 35 #[.string a0] w fun e w' => e = .returned (.bool r) ∧ Below w.heap.size w w' := by
 unfold octet_Zero.f at h
 by_cases hs : a0.size ≤ 140737488351232
 ·rw [if_pos hs] at h
  have HR := Aside0.mk (Option.some.inj h)
  clear h
  have hb : Below w.heap.size w (Lib.bytesWorld w 5 a0) := Pre.below_bytes w 5 a0
  go_enter Try.func35, Try.ntmps35
  have hconv := fun W => Lib.run_convert_string_bytes (P := Try.prog) W 9 38 5 a0 Try.underlying9 Try.underlying38 Try.underlying5
  go_wp2
  clear hconv
  go_loop [8] (fun i => ∃ k : Nat, k ≤ a0.size ∧ i = .int .i64 k ∧ (a0.data.toList.take k).all (· == 0) = true) (fun i => a0.size - (intOf i).toNat)
  case atStart => exact ⟨0, Nat.zero_le _, rfl, rfl⟩
  case round =>
   obtain ⟨k, hk, rfl, hall⟩ := hrel
   have HA := Aside0.mk hall
   clear hall
   by_cases hlt : k < a0.size
   ·have hc := Lib.bytesWorld_cell w 5 a0 k hlt
    obtain ⟨x, hx⟩ : ∃ x : Int, ((a0.data.toList.getD k 0).toNat : Int) = x := ⟨_, rfl⟩
    rw [hx] at hc
    have HX := Aside0.mk hx
    clear hx
    by_cases hz : x = 0
    ·subst hz
     go_wp2
     go_round
     case rel => exact ⟨k + 1, Z25, by go_num, by rw [octet_Zero.all_step _ _ (by rw [data_length]; exact hlt), HA.out]; have := HX.out; simp; exact UInt8.toNat_inj.mp (by simpa using this)⟩
     case measure => simp [intOf]; omega
    ·have hn : (x != 0) = true := by simp [hz]
     obtain rfl : r = false := by
      rw [← HR.out, Bool.eq_false_iff]
      intro hx
      rw [List.all_eq_true] at hx
      have := hx (a0.data.toList.getD k 0) (by rw [List.getD_eq_getElem?_getD, List.getElem?_eq_getElem (by rw [data_length]; exact hlt)]; exact List.getElem_mem _)
      have h2 : a0.data.toList.getD k 0 = 0 := by simpa using this
      have h3 := HX.out
      rw [h2] at h3
      exact hz h3.symm
     clear hz
     go_wp2
     go_ret
     exact ⟨rfl, hb⟩
   ·have e : k = a0.size := by omega
    obtain rfl : r = true := by
     rw [← HR.out, ← HA.out, e, List.take_of_length_le (by rw [data_length]; omega)]
    clear e
    go_wp2
    go_ret
    exact ⟨rfl, hb⟩
 ·rw [if_neg hs] at h; exact absurd h Z36

/-! ### octet_Zeros: function 18 -/
def octet_Zeros.f (a0 : Int) : Option (ByteArray) := if 0 ≤ (mx a0 0) then (if (mx a0 0 : Int).toNat ≤ 281474976710656 then (some (strOfNums (List.replicate (mx a0 0 : Int).toNat 0))) else (none)) else (none)
set_option maxHeartbeats 8000000 in
set_option maxRecDepth 100000 in
theorem octet_Zeros.calls (a0 : Int) (r : ByteArray) (w : World) (h : octet_Zeros.f a0 = some r) :
  Calls Try.prog 18 #[.int .i64 a0] w fun e w' => e = .returned (.string r) ∧ Below w.heap.size w w' := by
 have HB := Aside0.mk (Below.refl w.heap.size w)
 have H : (if 0 ≤ (mx a0 0) then (if (mx a0 0 : Int).toNat ≤ 281474976710656 then (some (strOfNums (List.replicate (mx a0 0 : Int).toNat 0))) else (none)) else (none)) = some r := h
 clear h
 obtain ⟨ji2, hji2⟩ : ∃ j_ : Int, (mx a0 0) = j_ := ⟨_, rfl⟩
 replace H : (if 0 ≤ (ji2) then (if (ji2 : Int).toNat ≤ 281474976710656 then (some (strOfNums (List.replicate (ji2 : Int).toNat 0))) else (none)) else (none)) = some r := by first | (rw [hji2] at H; exact H) | (simp only [hji2] at H ⊢; exact H)
 (try (have hji2l : 0 ≤ ji2 := by (rw [← hji2]; unfold mx; (repeat' split) <;> omega)))
 (try (have hji2m : 0 ≤ ji2 := by omega))
 have hji2_ : (if a0 < 0 then 0 else a0) = ji2 := hji2
 (try have hji2n_ := hji2_; simp only [Int.ofNat_lt] at hji2n_)
 by_cases c3 : 0 ≤ (ji2)
 ·rw [if_pos c3] at H
  have bY := eq_true c3
  have cE : decide (0 ≤ (ji2)) = true := decide_eq_true c3
  clear c3
  by_cases c4 : (ji2 : Int).toNat ≤ 281474976710656
  ·rw [if_pos c4] at H
   have cG := eq_true c4
   have dG : decide ((ji2 : Int).toNat ≤ 281474976710656) = true := decide_eq_true c4
   clear c4
   obtain ⟨eS, hy101⟩ : ∃ y_ : List Int, y_ = (List.replicate (ji2 : Int).toNat 0) := ⟨_, rfl⟩
   replace H : (some (strOfNums eS)) = some r := by first | (rw [hy101]; with_reducible exact H) | (have H2_ := (Option.bind_some _ _).symm.trans H; rw [hy101]; with_reducible exact H2_) | (have H2_ := (Option.bind_some _ _).symm.trans H; with_reducible exact H2_) | with_reducible exact H | (rw [hy101]; exact H) | exact H
   have Ny101 := Aside0.mk hy101
   clear hy101
   obtain rfl := Option.some.inj H
   go_enter Try.func18, Try.ntmps18
   go_wp2_with (first | ((with_reducible refine gate_dst (N := 5) rfl ?_); refine Kd.R_make (Kd.int .u8) _ 5 rfl (N := 5) rfl 38 _ _ rfl ji2 rfl rfl Try.underlying38 (.int .u8 0) 1 info5 rfl Z18 Z25 0 (ok := fun _ => True) (okp := fun _ => True) rfl (fun _ hk => hk) trivial (of_decide_eq_true Z5) (Nat.le_trans (Nat.mul_le_mul_right _ (of_decide_eq_true Z5 : ji2.toNat ≤ 281474976710656)) Z25) (Below.refl _ _) (Nat.le_refl _) ?_; intro fd w5 ho6 hb hg_ hnew_; clear hg_ hnew_; (first | rw [← Ny101.out] at ho6 | (simp only [Int.reduceToNat] at ho6; rw [← Ny101.out] at ho6)); have ee := Aside0.mk (Kd.R_lower ho6 (below_size Z0)); replace HB := Aside0.mk (below_step Z0 hb); clear hb ho6; have hcv7 := own_string (P := Try.prog) Try.underlying38 Try.underlying5 Try.underlying9 (Kd.own_of_R ee.out)))
   go_ret
   exact ⟨by first | rfl | (simp [errW_none, errW_some] <;> rfl) | (simp only [← hji2]; first | rfl | (simp [errW_none, errW_some] <;> rfl)) | (simp [*, errW_none, errW_some] <;> rfl), Z0⟩
  ·rw [if_neg c4] at H
   exact absurd H Z36
 ·rw [if_neg c3] at H
  exact absurd H Z36

/-! ### rte_Get: function 19 -/
theorem rte_Get.six (W : World) (g t : Nat) (c0 c1 c2 c3 c4 c5 v0 v1 v2 v3 v4 v5 : Value) (h : W.heap[g]? = some (.cells #[c0, c1, c2, c3, c4, c5] t (0, 0))) :
 ((((((W.setCell ⟨g, 0, none⟩ v0).setCell ⟨g, 1, none⟩ v1).setCell ⟨g, 2, none⟩ v2).setCell ⟨g, 3, none⟩ v3).setCell ⟨g, 4, none⟩ v4).setCell ⟨g, 5, none⟩ v5).heap[g]? = some (.cells #[v0, v1, v2, v3, v4, v5] t (0, 0)) := by
 have h0 := blk_set h 0 v0
 have h1 := blk_set h0 1 v1
 have h2 := blk_set h1 2 v2
 have h3 := blk_set h2 3 v3
 have h4 := blk_set h3 4 v4
 have h5 := blk_set h4 5 v5
 simpa using h5
theorem rte_Get.drew_heap (w : World) : w.drew.heap = w.heap := rfl
theorem rte_Get.six' (W : World) (g t : Nat) (c0 c1 c2 c3 c4 c5 v0 v1 v2 v3 v4 v5 : Value) (h : W.heap[g]? = some (.cells #[c0, c1, c2, c3, c4, c5] t (0, 0))) :
 ((((((W.setCell ⟨g, 0, none⟩ v0).setCell ⟨g, 1, none⟩ v1).setCell ⟨g, 2, none⟩ v2).setCell ⟨g, 3, none⟩ v3).setCell ⟨g, 4, none⟩ v4).setCell ⟨g, 5, none⟩ v5).drew.heap[g]? = some (.cells #[v0, v1, v2, v3, v4, v5] t (0, 0)) := by
 rw [rte_Get.drew_heap]; exact rte_Get.six W g t c0 c1 c2 c3 c4 c5 v0 v1 v2 v3 v4 v5 h
def rte_Get.f (a0 : ByteArray) : Option (Int × Int × ByteArray × ByteArray × ByteArray × Int × Bool) :=
 if a0.size = 20 then some (bt (a0.extract 16 a0.size) 2, bt (a0.extract 16 a0.size) 0 * 256 + bt (a0.extract 16 a0.size) 1, a0.extract 0 16, (⟨#[]⟩ : ByteArray), (⟨#[]⟩ : ByteArray), bt (a0.extract 16 a0.size) 3, true)
 else some (0, 0, (⟨#[]⟩ : ByteArray), (⟨#[]⟩ : ByteArray), (⟨#[]⟩ : ByteArray), 0, false)
set_option maxHeartbeats 8000000 in
set_option maxRecDepth 100000 in
theorem rte_Get.no (a0 : ByteArray) (w : World) (h : ¬ a0.size = 20) :
  Calls Try.prog 19 #[.string a0] w fun e w' => e = .returned (.tuple #[.agg #[.int .i64 0, .int .i64 0, .string ⟨#[]⟩, .string ⟨#[]⟩, .string ⟨#[]⟩, .int .i64 0], .bool false]) ∧ Below w.heap.size w w' := by
 have jw := Try.underlying47
 have HB := Aside0.mk (Below.refl w.heap.size w)
 have h1 : ((a0.size : Int) != 20) = true := by rw [bne_iff_ne]; omega
 clear h
 go_enter Try.func19, Try.ntmps19
 go_wp2
 exact bodyPost_ret (v := .tuple #[.agg #[.int .i64 0, .int .i64 0, .string ⟨#[]⟩, .string ⟨#[]⟩, .string ⟨#[]⟩, .int .i64 0], .bool false]) (by simp [results, Try.results19, go_sem]) rfl ⟨rfl, by repeat (first | exact HB.out | apply below_alloc | apply below_drew1 | (refine Below.setCell ?_ Z36 _))⟩
set_option maxHeartbeats 8000000 in
set_option maxRecDepth 100000 in
theorem rte_Get.yes (a0 tl : ByteArray) (w : World) (h : a0.size = 20) (ht : a0.extract 16 a0.size = tl) (hz : tl.size = 4) :
  Calls Try.prog 19 #[.string a0] w fun e w' => e = .returned (.tuple #[.agg #[.int .i64 (bt tl 2), .int .i64 (bt tl 0 * 256 + bt tl 1), .string (a0.extract 0 16), .string ⟨#[]⟩, .string ⟨#[]⟩, .int .i64 (bt tl 3)], .bool true]) ∧ Below w.heap.size w w' := by
 have jw := Try.underlying47
 have HB := Aside0.mk (Below.refl w.heap.size w)
 have h1 : ((a0.size : Int) != 20) = false := by rw [bne_eq_false_iff_eq]; omega
 have h16 : 16 ≤ a0.size := by omega
 have h16' : (16 : Int) ≤ (a0.size : Int) := by omega
 clear h
 have i0 : ∀ w : World, (Instr.index 9 (.string tl) (.int .i64 0)).run Try.prog w = .ok (.int .u8 (bt tl 0)) w := fun w => by rw [run_index_string w 9 tl .i64 0 Try.underlying9, dif_pos Z25]; congr 3; exact bt_at tl 0 _
 have i1 : ∀ w : World, (Instr.index 9 (.string tl) (.int .i64 1)).run Try.prog w = .ok (.int .u8 (bt tl 1)) w := fun w => by rw [run_index_string w 9 tl .i64 1 Try.underlying9, dif_pos Z25]; congr 3; exact bt_at tl 1 _
 have i2 : ∀ w : World, (Instr.index 9 (.string tl) (.int .i64 2)).run Try.prog w = .ok (.int .u8 (bt tl 2)) w := fun w => by rw [run_index_string w 9 tl .i64 2 Try.underlying9, dif_pos Z25]; congr 3; exact bt_at tl 2 _
 have i3 : ∀ w : World, (Instr.index 9 (.string tl) (.int .i64 3)).run Try.prog w = .ok (.int .u8 (bt tl 3)) w := fun w => by rw [run_index_string w 9 tl .i64 3 Try.underlying9, dif_pos Z25]; congr 3; exact bt_at tl 3 _
 obtain ⟨x0, e0⟩ : ∃ x, bt tl 0 = x := ⟨_, rfl⟩
 obtain ⟨x1, e1⟩ : ∃ x, bt tl 1 = x := ⟨_, rfl⟩
 obtain ⟨x2, e2⟩ : ∃ x, bt tl 2 = x := ⟨_, rfl⟩
 obtain ⟨x3, e3⟩ : ∃ x, bt tl 3 = x := ⟨_, rfl⟩
 have b0 := bt_range tl 0; have b1 := bt_range tl 1; have b2 := bt_range tl 2; have b3 := bt_range tl 3
 rw [e0] at i0 b0; rw [e1] at i1 b1; rw [e2] at i2 b2; rw [e3] at i3 b3
 rw [e0, e1, e2, e3]
 clear e0 e1 e2 e3
 have hor : Go.bits .or .i64 (x0 * 256) x1 = x0 * 256 + x1 := bits_join .i64 63 Z18 (fun m h0 h1 => by rw [IntKind.wrap_i64]; omega) 8 (x0 * 256) x1 Z25 Z25 Z25 Z25 Z25 Z25
 obtain ⟨b00, b01⟩ := b0; obtain ⟨b10, b11⟩ := b1; obtain ⟨b20, b21⟩ := b2; obtain ⟨b30, b31⟩ := b3
 go_enter Try.func19, Try.ntmps19
 go_wp2
 clear ht h1 HB
 obtain ⟨W, hW⟩ : ∃ W, W = w.alloc (.cells #[.int .i64 0, .int .i64 0, .string ⟨#[]⟩, .string ⟨#[]⟩, .string ⟨#[]⟩, .int .i64 0] 47) := ⟨_, rfl⟩
 have b2 : W.heap[w.heap.size]? = some (.cells #[.int .i64 0, .int .i64 0, .string ⟨#[]⟩, .string ⟨#[]⟩, .string ⟨#[]⟩, .int .i64 0] 47 (0, 0)) := by rw [hW]; exact heap_alloc_new _ _
 have HB := Aside0.mk (show Below w.heap.size w W by rw [hW]; exact below_alloc (Below.refl _ _) _)
 rw [← hW]
 clear hW
 have c0 : W.cell? ⟨w.heap.size, 0, none⟩ = some (.int .i64 0) := (blk_cell b2 0).trans rfl
 have c1 : W.cell? ⟨w.heap.size, 1, none⟩ = some (.int .i64 0) := (blk_cell b2 1).trans rfl
 have c2 : W.cell? ⟨w.heap.size, 2, none⟩ = some (.string ⟨#[]⟩) := (blk_cell b2 2).trans rfl
 have c3 : W.cell? ⟨w.heap.size, 3, none⟩ = some (.string ⟨#[]⟩) := (blk_cell b2 3).trans rfl
 have c4 : W.cell? ⟨w.heap.size, 4, none⟩ = some (.string ⟨#[]⟩) := (blk_cell b2 4).trans rfl
 have c5 : W.cell? ⟨w.heap.size, 5, none⟩ = some (.int .i64 0) := (blk_cell b2 5).trans rfl
 have f0 := blk_frozen b2 0
 have f1 := blk_frozen b2 1
 have f2 := blk_frozen b2 2
 have f3 := blk_frozen b2 3
 have f4 := blk_frozen b2 4
 have f5 := blk_frozen b2 5
 have B2 := Aside0.mk b2
 clear b2
 have q0 : IntKind.i64.wrap x0 = x0 := by rw [IntKind.wrap_i64]; omega
 have q1 : IntKind.i64.wrap x1 = x1 := by rw [IntKind.wrap_i64]; omega
 have q2 : IntKind.i64.wrap x2 = x2 := by rw [IntKind.wrap_i64]; omega
 have q3 : IntKind.i64.wrap x3 = x3 := by rw [IntKind.wrap_i64]; omega
 have q4 : IntKind.i64.wrap (x0 * 256) = x0 * 256 := by rw [IntKind.wrap_i64]; omega
 go_still_tail 17, Z16
 clear q0 q1 q2 q3 q4 hor i0 i1 i2 i3
 change wpList _ _ _ _ _ W.drew
 go_wp2
 clear c0 c1 c2 c3 c4 c5 f0 f1 f2 f3 f4 f5
 have hb := rte_Get.six' W w.heap.size 47 _ _ _ _ _ _ (.int .i64 x2) (.int .i64 (x0 * 256 + x1)) (.string (a0.extract 0 16)) (.string ⟨#[]⟩) (.string ⟨#[]⟩) (.int .i64 x3) B2.out
 refine bodyPost_ret (results_ct rfl _ _ w.heap.size 47 #[.int .i64 x2, .int .i64 (x0 * 256 + x1), .string (a0.extract 0 16), .string ⟨#[]⟩, .string ⟨#[]⟩, .int .i64 x3] (0, 0) _ rfl hb Try.underlying47 rfl Z16) rfl ⟨rfl, ?_⟩
 refine below_drew1 ?_
 refine Below.setCell (p := ⟨w.heap.size, 5, none⟩) ?_ (Nat.le_refl _) _
 refine Below.setCell (p := ⟨w.heap.size, 4, none⟩) ?_ (Nat.le_refl _) _
 refine Below.setCell (p := ⟨w.heap.size, 3, none⟩) ?_ (Nat.le_refl _) _
 refine Below.setCell (p := ⟨w.heap.size, 2, none⟩) ?_ (Nat.le_refl _) _
 refine Below.setCell (p := ⟨w.heap.size, 1, none⟩) ?_ (Nat.le_refl _) _
 refine Below.setCell (p := ⟨w.heap.size, 0, none⟩) ?_ (Nat.le_refl _) _
 exact HB.out
theorem rte_Get.calls (a0 : ByteArray) (r0 r1 : Int) (r2 r3 r4 : ByteArray) (r5 : Int) (r6 : Bool) (w : World) (h : rte_Get.f a0 = some (r0, r1, r2, r3, r4, r5, r6)) :
  Calls Try.prog 19 #[.string a0] w fun e w' => e = .returned (.tuple #[.agg #[.int .i64 r0, .int .i64 r1, .string r2, .string r3, .string r4, .int .i64 r5], .bool r6]) ∧ Below w.heap.size w w' := by
 unfold rte_Get.f at h
 by_cases hs : a0.size = 20
 ·rw [if_pos hs] at h
  obtain ⟨tl, ht⟩ : ∃ tl, a0.extract 16 a0.size = tl := ⟨_, rfl⟩
  rw [ht, Option.some.injEq] at h
  simp only [Prod.mk.injEq] at h
  obtain ⟨rfl, rfl, rfl, rfl, rfl, rfl, rfl⟩ := h
  exact rte_Get.yes a0 tl w hs ht (by rw [← ht, ByteArray.size_extract]; omega)
 ·rw [if_neg hs, Option.some.injEq] at h
  simp only [Prod.mk.injEq] at h
  obtain ⟨rfl, rfl, rfl, rfl, rfl, rfl, rfl⟩ := h
  exact rte_Get.no a0 w hs

/-! ### octet_Fits: function 28 -/
def octet_Fits.f (a0 : Int) (a1 : Int) : Option (Bool) := if a1 ≥ 1 then (if a1 ≤ 7 then (if a0 ≥ 0 then (if 0 ≤ (IntKind.u64.wrap (wrap64 (8 * a1))) then (some ((shr .i64 a0 (IntKind.u64.wrap (wrap64 (8 * a1)))) == 0)) else (none)) else (some false)) else (some false)) else (some false)
set_option maxHeartbeats 8000000 in
set_option maxRecDepth 100000 in
theorem octet_Fits.calls (a0 : Int) (a1 : Int) (r : Bool) (w : World) (h : octet_Fits.f a0 a1 = some r) :
  Calls Try.prog 28 #[.int .i64 a0, .int .i64 a1] w fun e w' => e = .returned (.bool r) ∧ Drawn0 w w' := by
 have H : (if a1 ≥ 1 then (if a1 ≤ 7 then (if a0 ≥ 0 then (if 0 ≤ (IntKind.u64.wrap (wrap64 (8 * a1))) then (some ((shr .i64 a0 (IntKind.u64.wrap (wrap64 (8 * a1)))) == 0)) else (none)) else (some false)) else (some false)) else (some false)) = some r := h
 clear h
 by_cases c3 : a1 ≥ 1
 ·rw [if_pos c3] at H
  have bY : decide (1 ≤ a1) = true := decide_eq_true c3
  clear c3
  by_cases c4 : a1 ≤ 7
  ·rw [if_pos c4] at H
   have cG : decide (a1 ≤ 7) = true := decide_eq_true c4
   clear c4
   by_cases c5 : a0 ≥ 0
   ·rw [if_pos c5] at H
    have cY : decide (0 ≤ a0) = true := decide_eq_true c5
    clear c5
    obtain ⟨ji6, hji6⟩ : ∃ j_ : Int, (IntKind.u64.wrap (wrap64 (8 * a1))) = j_ := ⟨_, rfl⟩
    replace H : (if 0 ≤ (ji6) then (some ((shr .i64 a0 (ji6)) == 0)) else (none)) = some r := by first | (rw [hji6] at H; exact H) | (simp only [hji6] at H ⊢; exact H)
    by_cases c7 : 0 ≤ (ji6)
    ·rw [if_pos c7] at H
     have dn := eq_true c7
     have eY : decide (0 ≤ (ji6)) = true := decide_eq_true c7
     clear c7
     obtain ⟨ji8, hji8⟩ : ∃ j_ : Int, (shr .i64 a0 (ji6)) = j_ := ⟨_, rfl⟩
     replace H : (some ((ji8) == 0)) = some r := by first | (rw [hji8] at H; exact H) | (simp only [hji8] at H ⊢; exact H)
     have hji8_ : (a0 / 2 ^ min (ji6).toNat 64) = ji8 := hji8
     have hji8z : (ji6) ≤ 64 → (a0 / 2 ^ (ji6).toNat) = ji8 := shr_small hji8
     obtain rfl := Option.some.inj H
     go_enter Try.func28, Try.ntmps28
     go_wp2
     go_ret
     exact ⟨by first | rfl | (simp; done) | (simp only [← hji6, ← hji8] <;> (first | rfl | simp)) | (simp [*]; done), Z10⟩
    ·rw [if_neg c7] at H
     exact absurd H Z36
   ·rw [if_neg c5] at H
    have cY : decide (0 ≤ a0) = false := decide_eq_false c5
    clear c5
    obtain rfl := Option.some.inj H
    go_enter Try.func28, Try.ntmps28
    go_wp2
    go_ret
    exact ⟨Z7, Z10⟩
  ·rw [if_neg c4] at H
   have cG : decide (a1 ≤ 7) = false := decide_eq_false c4
   clear c4
   obtain rfl := Option.some.inj H
   go_enter Try.func28, Try.ntmps28
   go_wp2
   go_ret
   exact ⟨Z7, Z10⟩
 ·rw [if_neg c3] at H
  have bY : decide (1 ≤ a1) = false := decide_eq_false c3
  clear c3
  obtain rfl := Option.some.inj H
  go_enter Try.func28, Try.ntmps28
  go_wp2
  go_ret
  exact ⟨Z7, Z10⟩

/-! ### rte_Put: function 51 -/
def rte_Put.f (aA : Int) (aq : Int) (ar : ByteArray) (av : ByteArray) (aw : ByteArray) (ax : Int) : Option (ByteArray × Bool) := if (ar.size : Int) = 16 then (if av.size + aw.size ≤ 9223372036854775807 then (if (av ++ aw).toList = ([] : List UInt8) then ((octet_Fits.f aq 2).bind fun aI => (if aI = true then ((octet_Fits.f aA 1).bind fun aN => (if aN = true then ((octet_Fits.f ax 1).bind fun aJ => (if aJ = true then ((some (([(aq / 256) % 256, (aq) % 256, (aA) % 256, (ax) % 256] : List Int) : List Int)).bind fun cJ => (if ar.size + (strOfNums cJ).size ≤ 9223372036854775807 then (some (ar ++ (strOfNums cJ), true)) else (none))) else (some ((⟨#[]⟩ : ByteArray), false)))) else (some ((⟨#[]⟩ : ByteArray), false)))) else (some ((⟨#[]⟩ : ByteArray), false)))) else (some ((⟨#[]⟩ : ByteArray), false))) else (none)) else (some ((⟨#[]⟩ : ByteArray), false))
set_option maxHeartbeats 8000000 in
set_option maxRecDepth 100000 in
theorem rte_Put.calls (aA : Int) (aq : Int) (ar : ByteArray) (av : ByteArray) (aw : ByteArray) (ax : Int) (r1 : ByteArray) (r2 : Bool) (w : World) (h : rte_Put.f aA aq ar av aw ax = some (r1, r2)) :
  Calls Try.prog 51 #[.agg #[.int .i64 aA, .int .i64 aq, .string ar, .string av, .string aw, .int .i64 ax]] w fun e w' => e = .returned (.tuple #[.string r1, .bool r2]) ∧ Below w.heap.size w w' := by
 have fW := Try.underlying47
 have HB := Aside0.mk (Below.refl w.heap.size w)
 have H : (if (ar.size : Int) = 16 then (if av.size + aw.size ≤ 9223372036854775807 then (if (av ++ aw).toList = ([] : List UInt8) then ((octet_Fits.f aq 2).bind fun aI => (if aI = true then ((octet_Fits.f aA 1).bind fun aN => (if aN = true then ((octet_Fits.f ax 1).bind fun aJ => (if aJ = true then ((some (([(aq / 256) % 256, (aq) % 256, (aA) % 256, (ax) % 256] : List Int) : List Int)).bind fun cJ => (if ar.size + (strOfNums cJ).size ≤ 9223372036854775807 then (some (ar ++ (strOfNums cJ), true)) else (none))) else (some ((⟨#[]⟩ : ByteArray), false)))) else (some ((⟨#[]⟩ : ByteArray), false)))) else (some ((⟨#[]⟩ : ByteArray), false)))) else (some ((⟨#[]⟩ : ByteArray), false))) else (none)) else (some ((⟨#[]⟩ : ByteArray), false))) = some (r1, r2) := h
 clear h
 by_cases c2 : (ar.size : Int) = 16
 ·rw [if_pos c2] at H
  have cV : ((ar.size : Int) == 16) = true := beq_iff_eq.mpr c2
  have dj : ((ar.size : Int) != 16) = false := bne_eq_false_iff_eq.mpr c2
  clear c2
  by_cases c3 : av.size + aw.size ≤ 9223372036854775807
  ·rw [if_pos c3] at H
   have bY := eq_true c3
   have cE : decide (av.size + aw.size ≤ 9223372036854775807) = true := decide_eq_true c3
   try have dU : (9223372036854775807 < av.size + aw.size) = False := eq_false (Nat.not_lt.2 c3)
   try (have jx := dU; simp only [ByteArray.size_append] at jx)
   by_cases c4 : (av ++ aw).toList = ([] : List UInt8)
   ·rw [if_pos c4] at H
    have cG : ((av ++ aw).toList == ([] : List UInt8)) = true := beq_iff_eq.mpr c4
    have dG : ((av ++ aw).toList != ([] : List UInt8)) = false := bne_eq_false_iff_eq.mpr c4
    clear c4
    replace H := Option.bind_eq_some_iff.mp H
    obtain ⟨aI, fb, H⟩ := H
    replace H : (if aI = true then ((octet_Fits.f aA 1).bind fun aN => (if aN = true then ((octet_Fits.f ax 1).bind fun aJ => (if aJ = true then ((some (([(aq / 256) % 256, (aq) % 256, (aA) % 256, (ax) % 256] : List Int) : List Int)).bind fun cJ => (if ar.size + (strOfNums cJ).size ≤ 9223372036854775807 then (some (ar ++ (strOfNums cJ), true)) else (none))) else (some ((⟨#[]⟩ : ByteArray), false)))) else (some ((⟨#[]⟩ : ByteArray), false)))) else (some ((⟨#[]⟩ : ByteArray), false))) = some (r1, r2) := H
    have A5 := Aside0.mk fb
    clear fb
    by_cases c6 : aI = true
    ·subst c6
     have H1 : ((octet_Fits.f aA 1).bind fun aN => (if aN = true then ((octet_Fits.f ax 1).bind fun aJ => (if aJ = true then ((some (([(aq / 256) % 256, (aq) % 256, (aA) % 256, (ax) % 256] : List Int) : List Int)).bind fun cJ => (if ar.size + (strOfNums cJ).size ≤ 9223372036854775807 then (some (ar ++ (strOfNums cJ), true)) else (none))) else (some ((⟨#[]⟩ : ByteArray), false)))) else (some ((⟨#[]⟩ : ByteArray), false)))) = some (r1, r2) := by rw [if_pos rfl] at H; exact H
     clear H
     have H := H1
     clear H1
     replace H := Option.bind_eq_some_iff.mp H
     obtain ⟨aN, fy, H⟩ := H
     replace H : (if aN = true then ((octet_Fits.f ax 1).bind fun aJ => (if aJ = true then ((some (([(aq / 256) % 256, (aq) % 256, (aA) % 256, (ax) % 256] : List Int) : List Int)).bind fun cJ => (if ar.size + (strOfNums cJ).size ≤ 9223372036854775807 then (some (ar ++ (strOfNums cJ), true)) else (none))) else (some ((⟨#[]⟩ : ByteArray), false)))) else (some ((⟨#[]⟩ : ByteArray), false))) = some (r1, r2) := H
     have A7 := Aside0.mk fy
     clear fy
     by_cases c8 : aN = true
     ·subst c8
      have H1 : ((octet_Fits.f ax 1).bind fun aJ => (if aJ = true then ((some (([(aq / 256) % 256, (aq) % 256, (aA) % 256, (ax) % 256] : List Int) : List Int)).bind fun cJ => (if ar.size + (strOfNums cJ).size ≤ 9223372036854775807 then (some (ar ++ (strOfNums cJ), true)) else (none))) else (some ((⟨#[]⟩ : ByteArray), false)))) = some (r1, r2) := by rw [if_pos rfl] at H; exact H
      clear H
      have H := H1
      clear H1
      replace H := Option.bind_eq_some_iff.mp H
      obtain ⟨aJ, jK, H⟩ := H
      replace H : (if aJ = true then ((some (([(aq / 256) % 256, (aq) % 256, (aA) % 256, (ax) % 256] : List Int) : List Int)).bind fun cJ => (if ar.size + (strOfNums cJ).size ≤ 9223372036854775807 then (some (ar ++ (strOfNums cJ), true)) else (none))) else (some ((⟨#[]⟩ : ByteArray), false))) = some (r1, r2) := H
      have A9 := Aside0.mk jK
      clear jK
      by_cases cR : aJ = true
      ·subst cR
       have H1 : ((some (([(aq / 256) % 256, (aq) % 256, (aA) % 256, (ax) % 256] : List Int) : List Int)).bind fun cJ => (if ar.size + (strOfNums cJ).size ≤ 9223372036854775807 then (some (ar ++ (strOfNums cJ), true)) else (none))) = some (r1, r2) := by rw [if_pos rfl] at H; exact H
       clear H
       have H := H1
       clear H1
       obtain ⟨cJ, hy105⟩ : ∃ y_ : List Int, y_ = (([(aq / 256) % 256, (aq) % 256, (aA) % 256, (ax) % 256] : List Int)) := ⟨_, rfl⟩
       replace H : (if ar.size + (strOfNums cJ).size ≤ 9223372036854775807 then (some (ar ++ (strOfNums cJ), true)) else (none)) = some (r1, r2) := by first | (rw [hy105]; with_reducible exact H) | (have H2_ := (Option.bind_some _ _).symm.trans H; rw [hy105]; with_reducible exact H2_) | (have H2_ := (Option.bind_some _ _).symm.trans H; with_reducible exact H2_) | with_reducible exact H | (rw [hy105]; exact H) | exact H
       have Ny105 := Aside0.mk hy105
       clear hy105
       by_cases eI : ar.size + (strOfNums cJ).size ≤ 9223372036854775807
       ·rw [if_pos eI] at H
        have c11b0 := eq_true eI
        have c11b1 : decide (ar.size + (strOfNums cJ).size ≤ 9223372036854775807) = true := decide_eq_true eI
        try have iB : (9223372036854775807 < ar.size + (strOfNums cJ).size) = False := eq_false (Nat.not_lt.2 eI)
        try (have iC := iB; simp only [ByteArray.size_append] at iC)
        simp only [Option.some.injEq, Prod.mk.injEq] at H
        obtain ⟨rfl, rfl⟩ := H
        go_enter Try.func51, Try.ntmps51
        go_wp2_with (first | ((with_reducible refine gate_dst (N := 1) rfl ?_); refine Sq.box 1 #[.int .i64 aA, .int .i64 aq, .string ar, .string av, .string aw, .int .i64 ax] 47 ?_; intro aE hg hA hbox hb; have aG := Aside0.mk (hbox); have cS := Aside0.mk (Sq.ge hg Z0); have cL := Aside0.mk (Sq.ge hg Z0); replace HB := Aside0.mk (below_step Z0 hb); clear hb hbox hg; have hcz13 := cells_6 aG.out) | (go_at_call 28; (with_reducible refine (octet_Fits.calls aq 2 true _ A5.out).mono ?_); rintro e w' ⟨rfl, ⟨nd, rfl⟩⟩) | (go_at_call 28; (with_reducible refine (octet_Fits.calls aA 1 true _ A7.out).mono ?_); rintro e w' ⟨rfl, ⟨nd, rfl⟩⟩) | (go_at_call 28; (with_reducible refine (octet_Fits.calls ax 1 true _ A9.out).mono ?_); rintro e w' ⟨rfl, ⟨nd, rfl⟩⟩) | ((with_reducible refine gate_dst (N := 49) rfl ?_); refine Kd.R_lit (Kd.int .u8) _ 5 ?hg (N := 49) ?hd (xs := ([(aq / 256) % 256, (aq) % 256, (aA) % 256, (ax) % 256] : List Int)) (inner := [.int .u8 ((aq / 256) % 256), .int .u8 ((aq) % 256), .int .u8 ((aA) % 256), .int .u8 ((ax) % 256)]) (ok := fun _ => True) (okp := fun _ => True) ?hr ?hp (fun _ hk => hk) trivial (Below.refl _ _) (Nat.le_refl _) Z36 ?_; (case hd => rfl); (case hg => rfl); (case hr => first | (go_simp; done) | (go_simp; rfl)); (case hp => exact (Reps.one (show Kd.M (Kd.int .u8) _ _ _ ((aq / 256) % 256) [.int .u8 ((aq / 256) % 256)] from rfl) (Reps.one (show Kd.M (Kd.int .u8) _ _ _ ((aq) % 256) [.int .u8 ((aq) % 256)] from rfl) (Reps.one (show Kd.M (Kd.int .u8) _ _ _ ((aA) % 256) [.int .u8 ((aA) % 256)] from rfl) (Reps.one (show Kd.M (Kd.int .u8) _ _ _ ((ax) % 256) [.int .u8 ((ax) % 256)] from rfl) (Reps.none _ _)))))); intro v106 w14 ho15 hb hg_ hnew_; clear hg_ hnew_; (first | rw [← Ny105.out] at ho15 | (simp only [Int.reduceToNat] at ho15; rw [← Ny105.out] at ho15)); have iD := Aside0.mk (Kd.R_lower ho15 (below_size Z3)); replace aG := Aside0.mk (blk_below (g := aE) (o := .cells #[.int .i64 aA, .int .i64 aq, .string ar, .string av, .string aw, .int .i64 ax] 47 (0, 0)) Z6 hb); replace HB := Aside0.mk (below_step Z3 hb); clear hb ho15; have hcv16 := own_string (P := Try.prog) Try.underlying38 Try.underlying5 Try.underlying9 (Kd.own_of_R iD.out)))
        go_ret2
        exact ⟨Z2, Z3⟩
       ·rw [if_neg eI] at H
        exact absurd H Z36
      ·replace cR := Bool.eq_false_iff.mpr cR
       subst cR
       have H1 : (some ((⟨#[]⟩ : ByteArray), false)) = some (r1, r2) := by rw [if_neg (show ¬ (false = true) by decide)] at H; exact H
       clear H
       have H := H1
       clear H1
       simp only [Option.some.injEq, Prod.mk.injEq] at H
       obtain ⟨rfl, rfl⟩ := H
       go_enter Try.func51, Try.ntmps51
       go_wp2_with (first | ((with_reducible refine gate_dst (N := 1) rfl ?_); refine Sq.box 1 #[.int .i64 aA, .int .i64 aq, .string ar, .string av, .string aw, .int .i64 ax] 47 ?_; intro aE hg w17 hbox hb; have aG := Aside0.mk (hbox); have cS := Aside0.mk (Sq.ge hg Z0); have cL := Aside0.mk (Sq.ge hg Z0); replace HB := Aside0.mk (below_step Z0 hb); clear hb hbox hg; have im := cells_6 aG.out) | (go_at_call 28; (with_reducible refine (octet_Fits.calls aq 2 true _ A5.out).mono ?_); rintro e w' ⟨rfl, ⟨nd, rfl⟩⟩) | (go_at_call 28; (with_reducible refine (octet_Fits.calls aA 1 true _ A7.out).mono ?_); rintro e w' ⟨rfl, ⟨nd, rfl⟩⟩) | (go_at_call 28; (with_reducible refine (octet_Fits.calls ax 1 false _ A9.out).mono ?_); rintro e w' ⟨rfl, ⟨nd, rfl⟩⟩))
       go_ret2
       exact ⟨Z2, Z3⟩
     ·replace c8 := Bool.eq_false_iff.mpr c8
      subst c8
      have H1 : (some ((⟨#[]⟩ : ByteArray), false)) = some (r1, r2) := by rw [if_neg (show ¬ (false = true) by decide)] at H; exact H
      clear H
      have H := H1
      clear H1
      simp only [Option.some.injEq, Prod.mk.injEq] at H
      obtain ⟨rfl, rfl⟩ := H
      go_enter Try.func51, Try.ntmps51
      go_wp2_with (first | ((with_reducible refine gate_dst (N := 1) rfl ?_); refine Sq.box 1 #[.int .i64 aA, .int .i64 aq, .string ar, .string av, .string aw, .int .i64 ax] 47 ?_; intro aE hg jy hbox hb; have aG := Aside0.mk (hbox); have cS := Aside0.mk (Sq.ge hg Z0); have cL := Aside0.mk (Sq.ge hg Z0); replace HB := Aside0.mk (below_step Z0 hb); clear hb hbox hg; have fT := cells_6 aG.out) | (go_at_call 28; (with_reducible refine (octet_Fits.calls aq 2 true _ A5.out).mono ?_); rintro e w' ⟨rfl, ⟨nd, rfl⟩⟩) | (go_at_call 28; (with_reducible refine (octet_Fits.calls aA 1 false _ A7.out).mono ?_); rintro e w' ⟨rfl, ⟨nd, rfl⟩⟩))
      go_ret2
      exact ⟨Z2, Z3⟩
    ·replace c6 := Bool.eq_false_iff.mpr c6
     subst c6
     have H1 : (some ((⟨#[]⟩ : ByteArray), false)) = some (r1, r2) := by rw [if_neg (show ¬ (false = true) by decide)] at H; exact H
     clear H
     have H := H1
     clear H1
     simp only [Option.some.injEq, Prod.mk.injEq] at H
     obtain ⟨rfl, rfl⟩ := H
     go_enter Try.func51, Try.ntmps51
     go_wp2_with (first | ((with_reducible refine gate_dst (N := 1) rfl ?_); refine Sq.box 1 #[.int .i64 aA, .int .i64 aq, .string ar, .string av, .string aw, .int .i64 ax] 47 ?_; intro aE hg hG hbox hb; have aG := Aside0.mk (hbox); have cS := Aside0.mk (Sq.ge hg Z0); have cL := Aside0.mk (Sq.ge hg Z0); replace HB := Aside0.mk (below_step Z0 hb); clear hb hbox hg; have fU := cells_6 aG.out) | (go_at_call 28; (with_reducible refine (octet_Fits.calls aq 2 false _ A5.out).mono ?_); rintro e w' ⟨rfl, ⟨nd, rfl⟩⟩))
     go_ret2
     exact ⟨Z2, Z3⟩
   ·rw [if_neg c4] at H
    have cG : ((av ++ aw).toList == ([] : List UInt8)) = false := beq_eq_false_iff_ne.mpr c4
    have dG : ((av ++ aw).toList != ([] : List UInt8)) = true := bne_iff_ne.mpr c4
    simp only [Option.some.injEq, Prod.mk.injEq] at H
    obtain ⟨rfl, rfl⟩ := H
    go_enter Try.func51, Try.ntmps51
    go_wp2_with (first | ((with_reducible refine gate_dst (N := 1) rfl ?_); refine Sq.box 1 #[.int .i64 aA, .int .i64 aq, .string ar, .string av, .string aw, .int .i64 ax] 47 ?_; intro aE hg w23 hbox hb; have aG := Aside0.mk (hbox); have cS := Aside0.mk (Sq.ge hg Z0); have cL := Aside0.mk (Sq.ge hg Z0); replace HB := Aside0.mk (below_step Z0 hb); clear hb hbox hg; have hcz24 := cells_6 aG.out))
    go_ret2
    exact ⟨Z2, Z3⟩
  ·rw [if_neg c3] at H
   exact absurd H Z36
 ·rw [if_neg c2] at H
  have cV : ((ar.size : Int) == 16) = false := beq_eq_false_iff_ne.mpr c2
  have dj : ((ar.size : Int) != 16) = true := bne_iff_ne.mpr c2
  simp only [Option.some.injEq, Prod.mk.injEq] at H
  obtain ⟨rfl, rfl⟩ := H
  go_enter Try.func51, Try.ntmps51
  go_wp2_with (first | ((with_reducible refine gate_dst (N := 1) rfl ?_); refine Sq.box 1 #[.int .i64 aA, .int .i64 aq, .string ar, .string av, .string aw, .int .i64 ax] 47 ?_; intro aE hg w25 hbox hb; have aG := Aside0.mk (hbox); have cS := Aside0.mk (Sq.ge hg Z0); have cL := Aside0.mk (Sq.ge hg Z0); replace HB := Aside0.mk (below_step Z0 hb); clear hb hbox hg; have iq := cells_6 aG.out))
  go_ret2
  exact ⟨Z2, Z3⟩

end Go.Proofs.Ytnifhgackjkkbaa.PN
