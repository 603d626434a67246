-- Written by mp.py, a program of this work (wip/tools), out of the translation; Lean checks it.
import Derived.Test.YtccjakjjaemmkaaPRx0
import Derived.Test.YtccjakjjaemmkaaPRxext
import Derived.Test.YtccjakjjaemmkaaPRxmsgBare
import Derived.Test.YtccjakjjaemmkaaPRxoctet
namespace Go.Proofs.Ytccjakjjaemmkaa.PR
open Go.RowKit Go.Proofs.YtccjakjjaemmkaaW.PrintWords Go.Proofs.YtccjakjjaemmkaaW.PrintLast Go.Proofs.YtccjakjjaemmkaaW.PrintMore
attribute [local go_sem] max2_int min2_int max_two min_two max_three min_three max_four min_four   -- for this text's walks alone
set_option linter.unusedVariables false
set_option linter.unusedSimpArgs false

/-! ### rreq_Right: function 20 -/
mutual
def rreq_Right.j0 : Nat → Bool → Int → Int → Int → ByteArray → Int → Int → ByteArray → Int → Int → ByteArray → Int → ByteArray → Int → Int → Int → Int → Int → Int → Int → ByteArray → ByteArray → List (S46) → Int → ByteArray → List (S48) → Option (Bool)
  | 0, _, _, _, _, _, _, _, _, _, _, _, _, _, _, _, _, _, _, _, _, _, _, _, _, _, _ => none
  | k + 1, x34, x102000, x102001, x102002, x102003, x102004, x102005, x102006, x102007, x102008, x102009, x102010, x102011, x102012, x102013, x102014, x102015, x102016, x102017, x102018, x102019, x102020, x102021, x102022, x102023, x102024 => if x34 = true then (some false) else ((some (([x102017, x102012, x102013] : List Int) : List Int)).bind fun y103 => (rreq_Right.l0 k y103 (y103.length : Int) 0 x102000 x102001 x102002 x102003 x102004 x102005 x102006 x102007 x102008 x102009 x102010 x102011 x102012 x102013 x102014 x102015 x102016 x102017 x102018 x102019 x102020 x102021 x102022 x102023 x102024))
def rreq_Right.l0 : Nat → List Int → Int → Int → Int → Int → Int → ByteArray → Int → Int → ByteArray → Int → Int → ByteArray → Int → ByteArray → Int → Int → Int → Int → Int → Int → Int → ByteArray → ByteArray → List (S46) → Int → ByteArray → List (S48) → Option (Bool)
  | 0, _, _, _, _, _, _, _, _, _, _, _, _, _, _, _, _, _, _, _, _, _, _, _, _, _, _, _, _ => none
  | k + 1, x41, x42, x43, x102000, x102001, x102002, x102003, x102004, x102005, x102006, x102007, x102008, x102009, x102010, x102011, x102012, x102013, x102014, x102015, x102016, x102017, x102018, x102019, x102020, x102021, x102022, x102023, x102024 => if x43 < x42 then (if 0 ≤ x43 then (if x43 < (x41.length : Int) then ((octet_Fits.f (rd x41 x43) 4).bind fun t107 => (if t107 = true then (rreq_Right.l0 k x41 x42 (wrap64 (x43 + 1)) x102000 x102001 x102002 x102003 x102004 x102005 x102006 x102007 x102008 x102009 x102010 x102011 x102012 x102013 x102014 x102015 x102016 x102017 x102018 x102019 x102020 x102021 x102022 x102023 x102024) else (some false))) else (none)) else (none)) else ((octet_Fits.f x102016 1).bind fun t108 => (if t108 = true then ((ext_Right.f k x102024).bind fun t109 => (some t109)) else (some false)))
end
def rreq_Right.f (k : Nat) (a0_0 : Int) (a0_1 : Int) (a0_2 : Int) (a0_3 : ByteArray) (a0_4 : Int) (a0_5 : Int) (a0_6 : ByteArray) (a0_7 : Int) (a0_8 : Int) (a0_9 : ByteArray) (a0_10 : Int) (a0_11 : ByteArray) (a0_12 : Int) (a0_13 : Int) (a0_14 : Int) (a0_15 : Int) (a0_16 : Int) (a0_17 : Int) (a0_18 : Int) (a0_19 : ByteArray) (a0_20 : ByteArray) (l0_21 : List (S46)) (a0_22 : Int) (a0_23 : ByteArray) (l0_24 : List (S48)) : Option (Bool) := if a0_0 = 3 then ((msg_Bare.f a0_0 a0_1 a0_2 a0_3 a0_4 a0_5 a0_6 a0_7 a0_8 a0_9 a0_10 a0_11 a0_12 a0_13 a0_14 a0_15 a0_16 a0_17 a0_18 a0_19 a0_20 l0_21 a0_22 a0_23 l0_24).bind fun t102 => (if t102 = true then (if a0_15 < 0 then (rreq_Right.j0 k true a0_0 a0_1 a0_2 a0_3 a0_4 a0_5 a0_6 a0_7 a0_8 a0_9 a0_10 a0_11 a0_12 a0_13 a0_14 a0_15 a0_16 a0_17 a0_18 a0_19 a0_20 l0_21 a0_22 a0_23 l0_24) else (if a0_15 > 31 then (rreq_Right.j0 k true a0_0 a0_1 a0_2 a0_3 a0_4 a0_5 a0_6 a0_7 a0_8 a0_9 a0_10 a0_11 a0_12 a0_13 a0_14 a0_15 a0_16 a0_17 a0_18 a0_19 a0_20 l0_21 a0_22 a0_23 l0_24) else (if (a0_19.size : Int) = 4 then (rreq_Right.j0 k ((a0_20.size : Int) != 4) a0_0 a0_1 a0_2 a0_3 a0_4 a0_5 a0_6 a0_7 a0_8 a0_9 a0_10 a0_11 a0_12 a0_13 a0_14 a0_15 a0_16 a0_17 a0_18 a0_19 a0_20 l0_21 a0_22 a0_23 l0_24) else (rreq_Right.j0 k true a0_0 a0_1 a0_2 a0_3 a0_4 a0_5 a0_6 a0_7 a0_8 a0_9 a0_10 a0_11 a0_12 a0_13 a0_14 a0_15 a0_16 a0_17 a0_18 a0_19 a0_20 l0_21 a0_22 a0_23 l0_24)))) else (rreq_Right.j0 k true a0_0 a0_1 a0_2 a0_3 a0_4 a0_5 a0_6 a0_7 a0_8 a0_9 a0_10 a0_11 a0_12 a0_13 a0_14 a0_15 a0_16 a0_17 a0_18 a0_19 a0_20 l0_21 a0_22 a0_23 l0_24))) else (rreq_Right.j0 k true a0_0 a0_1 a0_2 a0_3 a0_4 a0_5 a0_6 a0_7 a0_8 a0_9 a0_10 a0_11 a0_12 a0_13 a0_14 a0_15 a0_16 a0_17 a0_18 a0_19 a0_20 l0_21 a0_22 a0_23 l0_24)
theorem rreq_Right.mono_l : ∀ k, (∀ y0 y1 y2 y3 y4 y5 y6 y7 y8 y9 y10 y11 y12 y13 y14 y15 y16 y17 y18 y19 y20 y21 y22 y23 y24 y25, LeO (rreq_Right.j0 k y0 y1 y2 y3 y4 y5 y6 y7 y8 y9 y10 y11 y12 y13 y14 y15 y16 y17 y18 y19 y20 y21 y22 y23 y24 y25) (rreq_Right.j0 (k + 1) y0 y1 y2 y3 y4 y5 y6 y7 y8 y9 y10 y11 y12 y13 y14 y15 y16 y17 y18 y19 y20 y21 y22 y23 y24 y25)) ∧ (∀ y0 y1 y2 y3 y4 y5 y6 y7 y8 y9 y10 y11 y12 y13 y14 y15 y16 y17 y18 y19 y20 y21 y22 y23 y24 y25 y26 y27, LeO (rreq_Right.l0 k y0 y1 y2 y3 y4 y5 y6 y7 y8 y9 y10 y11 y12 y13 y14 y15 y16 y17 y18 y19 y20 y21 y22 y23 y24 y25 y26 y27) (rreq_Right.l0 (k + 1) y0 y1 y2 y3 y4 y5 y6 y7 y8 y9 y10 y11 y12 y13 y14 y15 y16 y17 y18 y19 y20 y21 y22 y23 y24 y25 y26 y27))
  | 0 => ⟨fun _ _ _ _ _ _ _ _ _ _ _ _ _ _ _ _ _ _ _ _ _ _ _ _ _ _ r h => by simp [rreq_Right.j0] at h, fun _ _ _ _ _ _ _ _ _ _ _ _ _ _ _ _ _ _ _ _ _ _ _ _ _ _ _ _ r h => by simp [rreq_Right.l0] at h⟩
  | k + 1 => by
    obtain ⟨ih0, ih1⟩ := rreq_Right.mono_l k
    refine ⟨?_, ?_⟩
    · intro y0 y1 y2 y3 y4 y5 y6 y7 y8 y9 y10 y11 y12 y13 y14 y15 y16 y17 y18 y19 y20 y21 y22 y23 y24 y25
      unfold rreq_Right.j0
      repeat' first
      | (with_reducible exact ih0 _ _ _ _ _ _ _ _ _ _ _ _ _ _ _ _ _ _ _ _ _ _ _ _ _ _)
      | (with_reducible exact ih1 _ _ _ _ _ _ _ _ _ _ _ _ _ _ _ _ _ _ _ _ _ _ _ _ _ _ _ _)
      | (with_reducible exact ext_Right.mono _ _)
      | (with_reducible exact LeO.refl _)
      | (with_reducible exact LeO.none _)
      | (with_reducible refine LeO.ite ?_ ?_)
      | (with_reducible refine LeO.bind ?_ (fun _ => ?_))
      | exact ih0 _ _ _ _ _ _ _ _ _ _ _ _ _ _ _ _ _ _ _ _ _ _ _ _ _ _
      | exact ih1 _ _ _ _ _ _ _ _ _ _ _ _ _ _ _ _ _ _ _ _ _ _ _ _ _ _ _ _
      | exact ext_Right.mono _ _
      | exact LeO.none _
      | refine LeO.ite ?_ ?_
      | refine LeO.bind ?_ (fun _ => ?_)
    · intro y0 y1 y2 y3 y4 y5 y6 y7 y8 y9 y10 y11 y12 y13 y14 y15 y16 y17 y18 y19 y20 y21 y22 y23 y24 y25 y26 y27
      unfold rreq_Right.l0
      repeat' first
      | (with_reducible exact ih0 _ _ _ _ _ _ _ _ _ _ _ _ _ _ _ _ _ _ _ _ _ _ _ _ _ _)
      | (with_reducible exact ih1 _ _ _ _ _ _ _ _ _ _ _ _ _ _ _ _ _ _ _ _ _ _ _ _ _ _ _ _)
      | (with_reducible exact ext_Right.mono _ _)
      | (with_reducible exact LeO.refl _)
      | (with_reducible exact LeO.none _)
      | (with_reducible refine LeO.ite ?_ ?_)
      | (with_reducible refine LeO.bind ?_ (fun _ => ?_))
      | exact ih0 _ _ _ _ _ _ _ _ _ _ _ _ _ _ _ _ _ _ _ _ _ _ _ _ _ _
      | exact ih1 _ _ _ _ _ _ _ _ _ _ _ _ _ _ _ _ _ _ _ _ _ _ _ _ _ _ _ _
      | exact ext_Right.mono _ _
      | exact LeO.none _
      | refine LeO.ite ?_ ?_
      | refine LeO.bind ?_ (fun _ => ?_)
theorem rreq_Right.mono : ∀ a0 a1 a2 a3 a4 a5 a6 a7 a8 a9 a10 a11 a12 a13 a14 a15 a16 a17 a18 a19 a20 a21 a22 a23 a24 k, LeO (rreq_Right.f k a0 a1 a2 a3 a4 a5 a6 a7 a8 a9 a10 a11 a12 a13 a14 a15 a16 a17 a18 a19 a20 a21 a22 a23 a24) (rreq_Right.f (k + 1) a0 a1 a2 a3 a4 a5 a6 a7 a8 a9 a10 a11 a12 a13 a14 a15 a16 a17 a18 a19 a20 a21 a22 a23 a24) := by
  intro a0 a1 a2 a3 a4 a5 a6 a7 a8 a9 a10 a11 a12 a13 a14 a15 a16 a17 a18 a19 a20 a21 a22 a23 a24 k
  obtain ⟨ih0, ih1⟩ := rreq_Right.mono_l k
  unfold rreq_Right.f
  repeat' first
      | (with_reducible exact ih0 _ _ _ _ _ _ _ _ _ _ _ _ _ _ _ _ _ _ _ _ _ _ _ _ _ _)
      | (with_reducible exact ih1 _ _ _ _ _ _ _ _ _ _ _ _ _ _ _ _ _ _ _ _ _ _ _ _ _ _ _ _)
      | (with_reducible exact ext_Right.mono _ _)
      | (with_reducible exact LeO.refl _)
      | (with_reducible exact LeO.none _)
      | (with_reducible refine LeO.ite ?_ ?_)
      | (with_reducible refine LeO.bind ?_ (fun _ => ?_))
      | exact ih0 _ _ _ _ _ _ _ _ _ _ _ _ _ _ _ _ _ _ _ _ _ _ _ _ _ _
      | exact ih1 _ _ _ _ _ _ _ _ _ _ _ _ _ _ _ _ _ _ _ _ _ _ _ _ _ _ _ _
      | exact ext_Right.mono _ _
      | exact LeO.none _
      | refine LeO.ite ?_ ?_
      | refine LeO.bind ?_ (fun _ => ?_)

set_option maxHeartbeats 8000000 in
set_option maxRecDepth 100000 in
theorem rreq_Right.calls (k : Nat) (a0_0 : Int) (a0_1 : Int) (a0_2 : Int) (a0_3 : ByteArray) (a0_4 : Int) (a0_5 : Int) (a0_6 : ByteArray) (a0_7 : Int) (a0_8 : Int) (a0_9 : ByteArray) (a0_10 : Int) (a0_11 : ByteArray) (a0_12 : Int) (a0_13 : Int) (a0_14 : Int) (a0_15 : Int) (a0_16 : Int) (a0_17 : Int) (a0_18 : Int) (a0_19 : ByteArray) (a0_20 : ByteArray) (A0_21 : Option Addr) (c0_21 : Nat) (l0_21 : List (S46)) (a0_22 : Int) (a0_23 : ByteArray) (A0_24 : Option Addr) (c0_24 : Nat) (l0_24 : List (S48)) (r : Bool) (w : World) (hr0_21 : Kd.C k46 w A0_21 l0_21.length l0_21) (hc0_21 : l0_21.length ≤ c0_21) (hr0_24 : Kd.C k48 w A0_24 l0_24.length l0_24) (hc0_24 : l0_24.length ≤ c0_24) (h : rreq_Right.f k a0_0 a0_1 a0_2 a0_3 a0_4 a0_5 a0_6 a0_7 a0_8 a0_9 a0_10 a0_11 a0_12 a0_13 a0_14 a0_15 a0_16 a0_17 a0_18 a0_19 a0_20 l0_21 a0_22 a0_23 l0_24 = some r) :
    Calls Try.prog 20 #[.agg #[.int .i64 a0_0, .int .i64 a0_1, .int .i64 a0_2, .string a0_3, .int .i64 a0_4, .int .i64 a0_5, .string a0_6, .int .i64 a0_7, .int .i64 a0_8, .string a0_9, .int .i64 a0_10, .string a0_11, .int .i64 a0_12, .int .i64 a0_13, .int .i64 a0_14, .int .i64 a0_15, .int .i64 a0_16, .int .i64 a0_17, .int .i64 a0_18, .string a0_19, .string a0_20, .slice A0_21 l0_21.length c0_21, .int .i64 a0_22, .string a0_23, .slice A0_24 l0_24.length c0_24]] w fun e w' => e = .returned (.bool r) ∧ Below w.heap.size w w' := by
  have hu25 := Try.underlying25
  have HR0_21 := Aside0.mk hr0_21
  have HC0_21 := Aside0.mk hc0_21
  clear hr0_21 hc0_21
  have HR0_24 := Aside0.mk hr0_24
  have HC0_24 := Aside0.mk hc0_24
  clear hr0_24 hc0_24
  have HB := Aside0.mk (Below.refl w.heap.size w)
  have H : (if a0_0 = 3 then ((msg_Bare.f a0_0 a0_1 a0_2 a0_3 a0_4 a0_5 a0_6 a0_7 a0_8 a0_9 a0_10 a0_11 a0_12 a0_13 a0_14 a0_15 a0_16 a0_17 a0_18 a0_19 a0_20 l0_21 a0_22 a0_23 l0_24).bind fun t102 => (if t102 = true then (if a0_15 < 0 then (rreq_Right.j0 k true a0_0 a0_1 a0_2 a0_3 a0_4 a0_5 a0_6 a0_7 a0_8 a0_9 a0_10 a0_11 a0_12 a0_13 a0_14 a0_15 a0_16 a0_17 a0_18 a0_19 a0_20 l0_21 a0_22 a0_23 l0_24) else (if a0_15 > 31 then (rreq_Right.j0 k true a0_0 a0_1 a0_2 a0_3 a0_4 a0_5 a0_6 a0_7 a0_8 a0_9 a0_10 a0_11 a0_12 a0_13 a0_14 a0_15 a0_16 a0_17 a0_18 a0_19 a0_20 l0_21 a0_22 a0_23 l0_24) else (if (a0_19.size : Int) = 4 then (rreq_Right.j0 k ((a0_20.size : Int) != 4) a0_0 a0_1 a0_2 a0_3 a0_4 a0_5 a0_6 a0_7 a0_8 a0_9 a0_10 a0_11 a0_12 a0_13 a0_14 a0_15 a0_16 a0_17 a0_18 a0_19 a0_20 l0_21 a0_22 a0_23 l0_24) else (rreq_Right.j0 k true a0_0 a0_1 a0_2 a0_3 a0_4 a0_5 a0_6 a0_7 a0_8 a0_9 a0_10 a0_11 a0_12 a0_13 a0_14 a0_15 a0_16 a0_17 a0_18 a0_19 a0_20 l0_21 a0_22 a0_23 l0_24)))) else (rreq_Right.j0 k true a0_0 a0_1 a0_2 a0_3 a0_4 a0_5 a0_6 a0_7 a0_8 a0_9 a0_10 a0_11 a0_12 a0_13 a0_14 a0_15 a0_16 a0_17 a0_18 a0_19 a0_20 l0_21 a0_22 a0_23 l0_24))) else (rreq_Right.j0 k true a0_0 a0_1 a0_2 a0_3 a0_4 a0_5 a0_6 a0_7 a0_8 a0_9 a0_10 a0_11 a0_12 a0_13 a0_14 a0_15 a0_16 a0_17 a0_18 a0_19 a0_20 l0_21 a0_22 a0_23 l0_24)) = some r := h
  clear h
  have HC2 := Aside0.mk H
  clear H
  go_enter Try.func20, Try.ntmps20
  go_upto_region 1 with (first | ((with_reducible refine Go.Proofs.Ytccjakjjaemmkaa.Pre.gate_load 25 rfl ?_); (try (refine gate_guard (by rfl) ?_; dsimp only)); refine Go.Proofs.Ytccjakjjaemmkaa.Pre.load_event rfl rfl rfl (by rfl) (by first | ((with_reducible repeat (first | refine blk_drewN ?_ _ | refine blk_drew ?_ | refine blk_alloc ?_ _)); (with_reducible first | exact BK101.out)) | (apply Go.Proofs.Ytccjakjjaemmkaa.Pre.heap_norm; ((with_reducible repeat (first | refine blk_drewN ?_ _ | refine blk_drew ?_ | refine blk_alloc ?_ _ | apply Go.Proofs.Ytccjakjjaemmkaa.Pre.blk_set_)); (with_reducible first | exact BK101.out)); (first | (simp only [List.setIfInBounds_toArray, List.set_cons_zero, List.set_cons_succ]; done) | (simp only [List.setIfInBounds_toArray, List.set_cons_zero, List.set_cons_succ]; rfl) | rfl))) Try.underlying25 rfl (by kernel_rfl) ?_) | ((with_reducible refine gate_dst (N := 1) rfl ?_); (try (refine gate_guard (by rfl) ?_; dsimp only)); refine box_event ?hg (N := 1) ?hd (cs := #[.int .i64 a0_0, .int .i64 a0_1, .int .i64 a0_2, .string a0_3, .int .i64 a0_4, .int .i64 a0_5, .string a0_6, .int .i64 a0_7, .int .i64 a0_8, .string a0_9, .int .i64 a0_10, .string a0_11, .int .i64 a0_12, .int .i64 a0_13, .int .i64 a0_14, .int .i64 a0_15, .int .i64 a0_16, .int .i64 a0_17, .int .i64 a0_18, .string a0_19, .string a0_20, .slice A0_21 l0_21.length c0_21, .int .i64 a0_22, .string a0_23, .slice A0_24 l0_24.length c0_24]) (t := 25) ?hr ?_; (case hd => rfl); (case hg => rfl); (case hr => first | (go_simp; done) | (go_simp; rfl)); intro gb101 hg w3 hbox hb; have n0_ := Aside0.mk (below_step (by repeat (first | (with_reducible first | exact HB.out | apply below_alloc | apply pw_below_drewN | apply below_drew1) | exact HB.out)) hb); have n1_ := Aside0.mk (hbox); have n2_ := Aside0.mk ((by rw [hg]; exact (below_size (by repeat (first | (with_reducible first | exact HB.out | apply below_alloc | apply pw_below_drewN | apply below_drew1) | exact HB.out))) : w.heap.size ≤ gb101)); have n3_ := Aside0.mk ((by rw [hg]; exact (below_size (by repeat (first | (with_reducible first | exact HB.out | apply below_alloc | apply pw_below_drewN | apply below_drew1) | exact HB.out))) : w.heap.size ≤ gb101)); clear HB; have HB := n0_; have BK101 := n1_; have GW101 := n2_; have GE101 := n3_; clear n0_ n1_ n2_ n3_; clear hb hbox hg))
  (try simp only [Act.put, List.setIfInBounds_toArray, List.set_cons_zero, List.set_cons_succ])
  go_cut [34] (fun v34 wc => ∃ (kq : Nat) (x34_1 : Bool), v34 = .bool x34_1 ∧ Aside0 (rreq_Right.j0 kq x34_1 a0_0 a0_1 a0_2 a0_3 a0_4 a0_5 a0_6 a0_7 a0_8 a0_9 a0_10 a0_11 a0_12 a0_13 a0_14 a0_15 a0_16 a0_17 a0_18 a0_19 a0_20 l0_21 a0_22 a0_23 l0_24 = some r) ∧ Aside0 (kq ≤ k) ∧ Aside0 (wc.heap[gb101]? = some (.cells #[.int .i64 a0_0, .int .i64 a0_1, .int .i64 a0_2, .string a0_3, .int .i64 a0_4, .int .i64 a0_5, .string a0_6, .int .i64 a0_7, .int .i64 a0_8, .string a0_9, .int .i64 a0_10, .string a0_11, .int .i64 a0_12, .int .i64 a0_13, .int .i64 a0_14, .int .i64 a0_15, .int .i64 a0_16, .int .i64 a0_17, .int .i64 a0_18, .string a0_19, .string a0_20, (.slice A0_21 l0_21.length c0_21), .int .i64 a0_22, .string a0_23, (.slice A0_24 l0_24.length c0_24)] 25 (0, 0))) ∧ Aside0 (Below w.heap.size w wc))
  case first =>
    have H := HC2.out
    clear HC2
    by_cases c4 : a0_0 = 3
    · rw [if_pos c4] at H
      have c4b0 : (a0_0 == 3) = true := beq_iff_eq.mpr c4
      have c4b1 : (a0_0 != 3) = false := bne_eq_false_iff_eq.mpr c4
      clear c4
      (first | rw [c4b0] | (simp only [i64_w, i32_w]; rw [c4b0]) | skip)
      replace H := Option.bind_eq_some_iff.mp H
      obtain ⟨t102, A50, H⟩ := H
      replace H : (if t102 = true then (if a0_15 < 0 then (rreq_Right.j0 k true a0_0 a0_1 a0_2 a0_3 a0_4 a0_5 a0_6 a0_7 a0_8 a0_9 a0_10 a0_11 a0_12 a0_13 a0_14 a0_15 a0_16 a0_17 a0_18 a0_19 a0_20 l0_21 a0_22 a0_23 l0_24) else (if a0_15 > 31 then (rreq_Right.j0 k true a0_0 a0_1 a0_2 a0_3 a0_4 a0_5 a0_6 a0_7 a0_8 a0_9 a0_10 a0_11 a0_12 a0_13 a0_14 a0_15 a0_16 a0_17 a0_18 a0_19 a0_20 l0_21 a0_22 a0_23 l0_24) else (if (a0_19.size : Int) = 4 then (rreq_Right.j0 k ((a0_20.size : Int) != 4) a0_0 a0_1 a0_2 a0_3 a0_4 a0_5 a0_6 a0_7 a0_8 a0_9 a0_10 a0_11 a0_12 a0_13 a0_14 a0_15 a0_16 a0_17 a0_18 a0_19 a0_20 l0_21 a0_22 a0_23 l0_24) else (rreq_Right.j0 k true a0_0 a0_1 a0_2 a0_3 a0_4 a0_5 a0_6 a0_7 a0_8 a0_9 a0_10 a0_11 a0_12 a0_13 a0_14 a0_15 a0_16 a0_17 a0_18 a0_19 a0_20 l0_21 a0_22 a0_23 l0_24)))) else (rreq_Right.j0 k true a0_0 a0_1 a0_2 a0_3 a0_4 a0_5 a0_6 a0_7 a0_8 a0_9 a0_10 a0_11 a0_12 a0_13 a0_14 a0_15 a0_16 a0_17 a0_18 a0_19 a0_20 l0_21 a0_22 a0_23 l0_24)) = some r := H
      have A5 := Aside0.mk A50
      clear A50
      by_cases c6 : t102 = true
      · subst c6
        have H1 : (if a0_15 < 0 then (rreq_Right.j0 k true a0_0 a0_1 a0_2 a0_3 a0_4 a0_5 a0_6 a0_7 a0_8 a0_9 a0_10 a0_11 a0_12 a0_13 a0_14 a0_15 a0_16 a0_17 a0_18 a0_19 a0_20 l0_21 a0_22 a0_23 l0_24) else (if a0_15 > 31 then (rreq_Right.j0 k true a0_0 a0_1 a0_2 a0_3 a0_4 a0_5 a0_6 a0_7 a0_8 a0_9 a0_10 a0_11 a0_12 a0_13 a0_14 a0_15 a0_16 a0_17 a0_18 a0_19 a0_20 l0_21 a0_22 a0_23 l0_24) else (if (a0_19.size : Int) = 4 then (rreq_Right.j0 k ((a0_20.size : Int) != 4) a0_0 a0_1 a0_2 a0_3 a0_4 a0_5 a0_6 a0_7 a0_8 a0_9 a0_10 a0_11 a0_12 a0_13 a0_14 a0_15 a0_16 a0_17 a0_18 a0_19 a0_20 l0_21 a0_22 a0_23 l0_24) else (rreq_Right.j0 k true a0_0 a0_1 a0_2 a0_3 a0_4 a0_5 a0_6 a0_7 a0_8 a0_9 a0_10 a0_11 a0_12 a0_13 a0_14 a0_15 a0_16 a0_17 a0_18 a0_19 a0_20 l0_21 a0_22 a0_23 l0_24)))) = some r := by rw [if_pos rfl] at H; exact H
        clear H
        have H := H1
        clear H1
        by_cases c7 : a0_15 < 0
        · rw [if_pos c7] at H
          have c7b0 : decide (a0_15 < 0) = true := decide_eq_true c7
          clear c7
          have H' := Aside0.mk H
          clear H
          obtain ⟨hcz8_0, hcz8_1, hcz8_2, hcz8_3, hcz8_4, hcz8_5, hcz8_6, hcz8_7, hcz8_8, hcz8_9, hcz8_10, hcz8_11, hcz8_12, hcz8_13, hcz8_14, hcz8_15, hcz8_16, hcz8_17, hcz8_18, hcz8_19, hcz8_20, hcz8_21, hcz8_22, hcz8_23, hcz8_24, hfz8_0, hfz8_1, hfz8_2, hfz8_3, hfz8_4, hfz8_5, hfz8_6, hfz8_7, hfz8_8, hfz8_9, hfz8_10, hfz8_11, hfz8_12, hfz8_13, hfz8_14, hfz8_15, hfz8_16, hfz8_17, hfz8_18, hfz8_19, hfz8_20, hfz8_21, hfz8_22, hfz8_23, hfz8_24⟩ := cells_25 BK101.out
          go_wp2_with (first | ((with_reducible refine Go.Proofs.Ytccjakjjaemmkaa.Pre.gate_load 25 rfl ?_); (try (refine gate_guard (by rfl) ?_; dsimp only)); refine Go.Proofs.Ytccjakjjaemmkaa.Pre.load_event rfl rfl rfl (by rfl) (by first | ((with_reducible repeat (first | refine blk_drewN ?_ _ | refine blk_drew ?_ | refine blk_alloc ?_ _)); (with_reducible first | exact BK101.out)) | (apply Go.Proofs.Ytccjakjjaemmkaa.Pre.heap_norm; ((with_reducible repeat (first | refine blk_drewN ?_ _ | refine blk_drew ?_ | refine blk_alloc ?_ _ | apply Go.Proofs.Ytccjakjjaemmkaa.Pre.blk_set_)); (with_reducible first | exact BK101.out)); (first | (simp only [List.setIfInBounds_toArray, List.set_cons_zero, List.set_cons_succ]; done) | (simp only [List.setIfInBounds_toArray, List.set_cons_zero, List.set_cons_succ]; rfl) | rfl))) Try.underlying25 rfl (by kernel_rfl) ?_) | (go_at_call 53; (with_reducible refine (msg_Bare.calls a0_0 a0_1 a0_2 a0_3 a0_4 a0_5 a0_6 a0_7 a0_8 a0_9 a0_10 a0_11 a0_12 a0_13 a0_14 a0_15 a0_16 a0_17 a0_18 a0_19 a0_20 _ _ l0_21 a0_22 a0_23 _ _ l0_24 true _ ?side1 ?side2 ?side3 ?side4 A5.out).mono ?_); (case side1 => repeat (first | exact (Kd.C_below HR0_21.out HB.out) | (with_reducible refine Kd.C_alloc ?_ _) | (with_reducible refine Kd.C_drewN ?_ _) | (with_reducible refine Kd.C_drew ?_))); (case side2 => exact HC0_21.out); (case side3 => repeat (first | exact (Kd.C_below HR0_24.out HB.out) | (with_reducible refine Kd.C_alloc ?_ _) | (with_reducible refine Kd.C_drewN ?_ _) | (with_reducible refine Kd.C_drew ?_))); (case side4 => exact HC0_24.out); rintro e w9 ⟨rfl, hb⟩; have n0_ := Aside0.mk (blk_below (g := gb101) (by (with_reducible repeat (first | refine blk_drewN ?_ _ | refine blk_drew ?_ | refine blk_alloc ?_ _)); exact BK101.out) hb); have n1_ := Aside0.mk (below_step (by repeat (first | (with_reducible first | exact HB.out | apply below_alloc | apply pw_below_drewN | apply below_drew1 | refine below_set ?_ GE101.out) | exact HB.out)) hb); clear BK101; clear HB; have BK101 := n0_; have HB := n1_; clear n0_ n1_; (try clear hb); (try clear hb2); (try clear hk); (try clear hi); obtain ⟨hcz10_0, hcz10_1, hcz10_2, hcz10_3, hcz10_4, hcz10_5, hcz10_6, hcz10_7, hcz10_8, hcz10_9, hcz10_10, hcz10_11, hcz10_12, hcz10_13, hcz10_14, hcz10_15, hcz10_16, hcz10_17, hcz10_18, hcz10_19, hcz10_20, hcz10_21, hcz10_22, hcz10_23, hcz10_24, hfz10_0, hfz10_1, hfz10_2, hfz10_3, hfz10_4, hfz10_5, hfz10_6, hfz10_7, hfz10_8, hfz10_9, hfz10_10, hfz10_11, hfz10_12, hfz10_13, hfz10_14, hfz10_15, hfz10_16, hfz10_17, hfz10_18, hfz10_19, hfz10_20, hfz10_21, hfz10_22, hfz10_23, hfz10_24⟩ := cells_25 BK101.out))
          go_meet
          case rel => exact ⟨_, (true), (by first | rfl | (simp; done) | (simp [*]; done)), H', ⟨by first | omega | exact Nat.le_refl _⟩, ⟨by (with_reducible repeat (first | refine blk_drewN ?_ _ | refine blk_drew ?_ | refine blk_alloc ?_ _)); exact BK101.out⟩, ⟨by repeat (first | (with_reducible first | exact HB.out | apply below_alloc | apply pw_below_drewN | apply below_drew1 | refine below_set ?_ GE101.out) | exact HB.out)⟩⟩
        · rw [if_neg c7] at H
          have c7b0 : decide (a0_15 < 0) = false := decide_eq_false c7
          clear c7
          by_cases c11 : a0_15 > 31
          · rw [if_pos c11] at H
            have c11b0 : decide (31 < a0_15) = true := decide_eq_true c11
            clear c11
            have H' := Aside0.mk H
            clear H
            obtain ⟨hcz12_0, hcz12_1, hcz12_2, hcz12_3, hcz12_4, hcz12_5, hcz12_6, hcz12_7, hcz12_8, hcz12_9, hcz12_10, hcz12_11, hcz12_12, hcz12_13, hcz12_14, hcz12_15, hcz12_16, hcz12_17, hcz12_18, hcz12_19, hcz12_20, hcz12_21, hcz12_22, hcz12_23, hcz12_24, hfz12_0, hfz12_1, hfz12_2, hfz12_3, hfz12_4, hfz12_5, hfz12_6, hfz12_7, hfz12_8, hfz12_9, hfz12_10, hfz12_11, hfz12_12, hfz12_13, hfz12_14, hfz12_15, hfz12_16, hfz12_17, hfz12_18, hfz12_19, hfz12_20, hfz12_21, hfz12_22, hfz12_23, hfz12_24⟩ := cells_25 BK101.out
            go_wp2_with (first | ((with_reducible refine Go.Proofs.Ytccjakjjaemmkaa.Pre.gate_load 25 rfl ?_); (try (refine gate_guard (by rfl) ?_; dsimp only)); refine Go.Proofs.Ytccjakjjaemmkaa.Pre.load_event rfl rfl rfl (by rfl) (by first | ((with_reducible repeat (first | refine blk_drewN ?_ _ | refine blk_drew ?_ | refine blk_alloc ?_ _)); (with_reducible first | exact BK101.out)) | (apply Go.Proofs.Ytccjakjjaemmkaa.Pre.heap_norm; ((with_reducible repeat (first | refine blk_drewN ?_ _ | refine blk_drew ?_ | refine blk_alloc ?_ _ | apply Go.Proofs.Ytccjakjjaemmkaa.Pre.blk_set_)); (with_reducible first | exact BK101.out)); (first | (simp only [List.setIfInBounds_toArray, List.set_cons_zero, List.set_cons_succ]; done) | (simp only [List.setIfInBounds_toArray, List.set_cons_zero, List.set_cons_succ]; rfl) | rfl))) Try.underlying25 rfl (by kernel_rfl) ?_) | (go_at_call 53; (with_reducible refine (msg_Bare.calls a0_0 a0_1 a0_2 a0_3 a0_4 a0_5 a0_6 a0_7 a0_8 a0_9 a0_10 a0_11 a0_12 a0_13 a0_14 a0_15 a0_16 a0_17 a0_18 a0_19 a0_20 _ _ l0_21 a0_22 a0_23 _ _ l0_24 true _ ?side1 ?side2 ?side3 ?side4 A5.out).mono ?_); (case side1 => repeat (first | exact (Kd.C_below HR0_21.out HB.out) | (with_reducible refine Kd.C_alloc ?_ _) | (with_reducible refine Kd.C_drewN ?_ _) | (with_reducible refine Kd.C_drew ?_))); (case side2 => exact HC0_21.out); (case side3 => repeat (first | exact (Kd.C_below HR0_24.out HB.out) | (with_reducible refine Kd.C_alloc ?_ _) | (with_reducible refine Kd.C_drewN ?_ _) | (with_reducible refine Kd.C_drew ?_))); (case side4 => exact HC0_24.out); rintro e w13 ⟨rfl, hb⟩; have n0_ := Aside0.mk (blk_below (g := gb101) (by (with_reducible repeat (first | refine blk_drewN ?_ _ | refine blk_drew ?_ | refine blk_alloc ?_ _)); exact BK101.out) hb); have n1_ := Aside0.mk (below_step (by repeat (first | (with_reducible first | exact HB.out | apply below_alloc | apply pw_below_drewN | apply below_drew1 | refine below_set ?_ GE101.out) | exact HB.out)) hb); clear BK101; clear HB; have BK101 := n0_; have HB := n1_; clear n0_ n1_; (try clear hb); (try clear hb2); (try clear hk); (try clear hi); obtain ⟨hcz14_0, hcz14_1, hcz14_2, hcz14_3, hcz14_4, hcz14_5, hcz14_6, hcz14_7, hcz14_8, hcz14_9, hcz14_10, hcz14_11, hcz14_12, hcz14_13, hcz14_14, hcz14_15, hcz14_16, hcz14_17, hcz14_18, hcz14_19, hcz14_20, hcz14_21, hcz14_22, hcz14_23, hcz14_24, hfz14_0, hfz14_1, hfz14_2, hfz14_3, hfz14_4, hfz14_5, hfz14_6, hfz14_7, hfz14_8, hfz14_9, hfz14_10, hfz14_11, hfz14_12, hfz14_13, hfz14_14, hfz14_15, hfz14_16, hfz14_17, hfz14_18, hfz14_19, hfz14_20, hfz14_21, hfz14_22, hfz14_23, hfz14_24⟩ := cells_25 BK101.out))
            go_meet
            case rel => exact ⟨_, (true), (by first | rfl | (simp; done) | (simp [*]; done)), H', ⟨by first | omega | exact Nat.le_refl _⟩, ⟨by (with_reducible repeat (first | refine blk_drewN ?_ _ | refine blk_drew ?_ | refine blk_alloc ?_ _)); exact BK101.out⟩, ⟨by repeat (first | (with_reducible first | exact HB.out | apply below_alloc | apply pw_below_drewN | apply below_drew1 | refine below_set ?_ GE101.out) | exact HB.out)⟩⟩
          · rw [if_neg c11] at H
            have c11b0 : decide (31 < a0_15) = false := decide_eq_false c11
            clear c11
            by_cases c15 : (a0_19.size : Int) = 4
            · rw [if_pos c15] at H
              have c15b0 : ((a0_19.size : Int) == 4) = true := beq_iff_eq.mpr c15
              have c15b1 : ((a0_19.size : Int) != 4) = false := bne_eq_false_iff_eq.mpr c15
              clear c15
              have H' := Aside0.mk H
              clear H
              obtain ⟨hcz16_0, hcz16_1, hcz16_2, hcz16_3, hcz16_4, hcz16_5, hcz16_6, hcz16_7, hcz16_8, hcz16_9, hcz16_10, hcz16_11, hcz16_12, hcz16_13, hcz16_14, hcz16_15, hcz16_16, hcz16_17, hcz16_18, hcz16_19, hcz16_20, hcz16_21, hcz16_22, hcz16_23, hcz16_24, hfz16_0, hfz16_1, hfz16_2, hfz16_3, hfz16_4, hfz16_5, hfz16_6, hfz16_7, hfz16_8, hfz16_9, hfz16_10, hfz16_11, hfz16_12, hfz16_13, hfz16_14, hfz16_15, hfz16_16, hfz16_17, hfz16_18, hfz16_19, hfz16_20, hfz16_21, hfz16_22, hfz16_23, hfz16_24⟩ := cells_25 BK101.out
              go_wp2_with (first | ((with_reducible refine Go.Proofs.Ytccjakjjaemmkaa.Pre.gate_load 25 rfl ?_); (try (refine gate_guard (by rfl) ?_; dsimp only)); refine Go.Proofs.Ytccjakjjaemmkaa.Pre.load_event rfl rfl rfl (by rfl) (by first | ((with_reducible repeat (first | refine blk_drewN ?_ _ | refine blk_drew ?_ | refine blk_alloc ?_ _)); (with_reducible first | exact BK101.out)) | (apply Go.Proofs.Ytccjakjjaemmkaa.Pre.heap_norm; ((with_reducible repeat (first | refine blk_drewN ?_ _ | refine blk_drew ?_ | refine blk_alloc ?_ _ | apply Go.Proofs.Ytccjakjjaemmkaa.Pre.blk_set_)); (with_reducible first | exact BK101.out)); (first | (simp only [List.setIfInBounds_toArray, List.set_cons_zero, List.set_cons_succ]; done) | (simp only [List.setIfInBounds_toArray, List.set_cons_zero, List.set_cons_succ]; rfl) | rfl))) Try.underlying25 rfl (by kernel_rfl) ?_) | (go_at_call 53; (with_reducible refine (msg_Bare.calls a0_0 a0_1 a0_2 a0_3 a0_4 a0_5 a0_6 a0_7 a0_8 a0_9 a0_10 a0_11 a0_12 a0_13 a0_14 a0_15 a0_16 a0_17 a0_18 a0_19 a0_20 _ _ l0_21 a0_22 a0_23 _ _ l0_24 true _ ?side1 ?side2 ?side3 ?side4 A5.out).mono ?_); (case side1 => repeat (first | exact (Kd.C_below HR0_21.out HB.out) | (with_reducible refine Kd.C_alloc ?_ _) | (with_reducible refine Kd.C_drewN ?_ _) | (with_reducible refine Kd.C_drew ?_))); (case side2 => exact HC0_21.out); (case side3 => repeat (first | exact (Kd.C_below HR0_24.out HB.out) | (with_reducible refine Kd.C_alloc ?_ _) | (with_reducible refine Kd.C_drewN ?_ _) | (with_reducible refine Kd.C_drew ?_))); (case side4 => exact HC0_24.out); rintro e w17 ⟨rfl, hb⟩; have n0_ := Aside0.mk (blk_below (g := gb101) (by (with_reducible repeat (first | refine blk_drewN ?_ _ | refine blk_drew ?_ | refine blk_alloc ?_ _)); exact BK101.out) hb); have n1_ := Aside0.mk (below_step (by repeat (first | (with_reducible first | exact HB.out | apply below_alloc | apply pw_below_drewN | apply below_drew1 | refine below_set ?_ GE101.out) | exact HB.out)) hb); clear BK101; clear HB; have BK101 := n0_; have HB := n1_; clear n0_ n1_; (try clear hb); (try clear hb2); (try clear hk); (try clear hi); obtain ⟨hcz18_0, hcz18_1, hcz18_2, hcz18_3, hcz18_4, hcz18_5, hcz18_6, hcz18_7, hcz18_8, hcz18_9, hcz18_10, hcz18_11, hcz18_12, hcz18_13, hcz18_14, hcz18_15, hcz18_16, hcz18_17, hcz18_18, hcz18_19, hcz18_20, hcz18_21, hcz18_22, hcz18_23, hcz18_24, hfz18_0, hfz18_1, hfz18_2, hfz18_3, hfz18_4, hfz18_5, hfz18_6, hfz18_7, hfz18_8, hfz18_9, hfz18_10, hfz18_11, hfz18_12, hfz18_13, hfz18_14, hfz18_15, hfz18_16, hfz18_17, hfz18_18, hfz18_19, hfz18_20, hfz18_21, hfz18_22, hfz18_23, hfz18_24⟩ := cells_25 BK101.out))
              go_meet
              case rel => exact ⟨_, (((a0_20.size : Int) != 4)), (by first | rfl | (simp; done) | (simp [*]; done)), H', ⟨by first | omega | exact Nat.le_refl _⟩, ⟨by (with_reducible repeat (first | refine blk_drewN ?_ _ | refine blk_drew ?_ | refine blk_alloc ?_ _)); exact BK101.out⟩, ⟨by repeat (first | (with_reducible first | exact HB.out | apply below_alloc | apply pw_below_drewN | apply below_drew1 | refine below_set ?_ GE101.out) | exact HB.out)⟩⟩
            · rw [if_neg c15] at H
              have c15b0 : ((a0_19.size : Int) == 4) = false := beq_eq_false_iff_ne.mpr c15
              have c15b1 : ((a0_19.size : Int) != 4) = true := bne_iff_ne.mpr c15
              have H' := Aside0.mk H
              clear H
              obtain ⟨hcz19_0, hcz19_1, hcz19_2, hcz19_3, hcz19_4, hcz19_5, hcz19_6, hcz19_7, hcz19_8, hcz19_9, hcz19_10, hcz19_11, hcz19_12, hcz19_13, hcz19_14, hcz19_15, hcz19_16, hcz19_17, hcz19_18, hcz19_19, hcz19_20, hcz19_21, hcz19_22, hcz19_23, hcz19_24, hfz19_0, hfz19_1, hfz19_2, hfz19_3, hfz19_4, hfz19_5, hfz19_6, hfz19_7, hfz19_8, hfz19_9, hfz19_10, hfz19_11, hfz19_12, hfz19_13, hfz19_14, hfz19_15, hfz19_16, hfz19_17, hfz19_18, hfz19_19, hfz19_20, hfz19_21, hfz19_22, hfz19_23, hfz19_24⟩ := cells_25 BK101.out
              go_wp2_with (first | ((with_reducible refine Go.Proofs.Ytccjakjjaemmkaa.Pre.gate_load 25 rfl ?_); (try (refine gate_guard (by rfl) ?_; dsimp only)); refine Go.Proofs.Ytccjakjjaemmkaa.Pre.load_event rfl rfl rfl (by rfl) (by first | ((with_reducible repeat (first | refine blk_drewN ?_ _ | refine blk_drew ?_ | refine blk_alloc ?_ _)); (with_reducible first | exact BK101.out)) | (apply Go.Proofs.Ytccjakjjaemmkaa.Pre.heap_norm; ((with_reducible repeat (first | refine blk_drewN ?_ _ | refine blk_drew ?_ | refine blk_alloc ?_ _ | apply Go.Proofs.Ytccjakjjaemmkaa.Pre.blk_set_)); (with_reducible first | exact BK101.out)); (first | (simp only [List.setIfInBounds_toArray, List.set_cons_zero, List.set_cons_succ]; done) | (simp only [List.setIfInBounds_toArray, List.set_cons_zero, List.set_cons_succ]; rfl) | rfl))) Try.underlying25 rfl (by kernel_rfl) ?_) | (go_at_call 53; (with_reducible refine (msg_Bare.calls a0_0 a0_1 a0_2 a0_3 a0_4 a0_5 a0_6 a0_7 a0_8 a0_9 a0_10 a0_11 a0_12 a0_13 a0_14 a0_15 a0_16 a0_17 a0_18 a0_19 a0_20 _ _ l0_21 a0_22 a0_23 _ _ l0_24 true _ ?side1 ?side2 ?side3 ?side4 A5.out).mono ?_); (case side1 => repeat (first | exact (Kd.C_below HR0_21.out HB.out) | (with_reducible refine Kd.C_alloc ?_ _) | (with_reducible refine Kd.C_drewN ?_ _) | (with_reducible refine Kd.C_drew ?_))); (case side2 => exact HC0_21.out); (case side3 => repeat (first | exact (Kd.C_below HR0_24.out HB.out) | (with_reducible refine Kd.C_alloc ?_ _) | (with_reducible refine Kd.C_drewN ?_ _) | (with_reducible refine Kd.C_drew ?_))); (case side4 => exact HC0_24.out); rintro e w20 ⟨rfl, hb⟩; have n0_ := Aside0.mk (blk_below (g := gb101) (by (with_reducible repeat (first | refine blk_drewN ?_ _ | refine blk_drew ?_ | refine blk_alloc ?_ _)); exact BK101.out) hb); have n1_ := Aside0.mk (below_step (by repeat (first | (with_reducible first | exact HB.out | apply below_alloc | apply pw_below_drewN | apply below_drew1 | refine below_set ?_ GE101.out) | exact HB.out)) hb); clear BK101; clear HB; have BK101 := n0_; have HB := n1_; clear n0_ n1_; (try clear hb); (try clear hb2); (try clear hk); (try clear hi); obtain ⟨hcz21_0, hcz21_1, hcz21_2, hcz21_3, hcz21_4, hcz21_5, hcz21_6, hcz21_7, hcz21_8, hcz21_9, hcz21_10, hcz21_11, hcz21_12, hcz21_13, hcz21_14, hcz21_15, hcz21_16, hcz21_17, hcz21_18, hcz21_19, hcz21_20, hcz21_21, hcz21_22, hcz21_23, hcz21_24, hfz21_0, hfz21_1, hfz21_2, hfz21_3, hfz21_4, hfz21_5, hfz21_6, hfz21_7, hfz21_8, hfz21_9, hfz21_10, hfz21_11, hfz21_12, hfz21_13, hfz21_14, hfz21_15, hfz21_16, hfz21_17, hfz21_18, hfz21_19, hfz21_20, hfz21_21, hfz21_22, hfz21_23, hfz21_24⟩ := cells_25 BK101.out))
              go_meet
              case rel => exact ⟨_, (true), (by first | rfl | (simp; done) | (simp [*]; done)), H', ⟨by first | omega | exact Nat.le_refl _⟩, ⟨by (with_reducible repeat (first | refine blk_drewN ?_ _ | refine blk_drew ?_ | refine blk_alloc ?_ _)); exact BK101.out⟩, ⟨by repeat (first | (with_reducible first | exact HB.out | apply below_alloc | apply pw_below_drewN | apply below_drew1 | refine below_set ?_ GE101.out) | exact HB.out)⟩⟩
      · replace c6 := Bool.eq_false_iff.mpr c6
        subst c6
        have H1 : (rreq_Right.j0 k true a0_0 a0_1 a0_2 a0_3 a0_4 a0_5 a0_6 a0_7 a0_8 a0_9 a0_10 a0_11 a0_12 a0_13 a0_14 a0_15 a0_16 a0_17 a0_18 a0_19 a0_20 l0_21 a0_22 a0_23 l0_24) = some r := by rw [if_neg (show ¬ (false = true) by decide)] at H; exact H
        clear H
        have H := H1
        clear H1
        have H' := Aside0.mk H
        clear H
        obtain ⟨hcz22_0, hcz22_1, hcz22_2, hcz22_3, hcz22_4, hcz22_5, hcz22_6, hcz22_7, hcz22_8, hcz22_9, hcz22_10, hcz22_11, hcz22_12, hcz22_13, hcz22_14, hcz22_15, hcz22_16, hcz22_17, hcz22_18, hcz22_19, hcz22_20, hcz22_21, hcz22_22, hcz22_23, hcz22_24, hfz22_0, hfz22_1, hfz22_2, hfz22_3, hfz22_4, hfz22_5, hfz22_6, hfz22_7, hfz22_8, hfz22_9, hfz22_10, hfz22_11, hfz22_12, hfz22_13, hfz22_14, hfz22_15, hfz22_16, hfz22_17, hfz22_18, hfz22_19, hfz22_20, hfz22_21, hfz22_22, hfz22_23, hfz22_24⟩ := cells_25 BK101.out
        go_wp2_with (first | ((with_reducible refine Go.Proofs.Ytccjakjjaemmkaa.Pre.gate_load 25 rfl ?_); (try (refine gate_guard (by rfl) ?_; dsimp only)); refine Go.Proofs.Ytccjakjjaemmkaa.Pre.load_event rfl rfl rfl (by rfl) (by first | ((with_reducible repeat (first | refine blk_drewN ?_ _ | refine blk_drew ?_ | refine blk_alloc ?_ _)); (with_reducible first | exact BK101.out)) | (apply Go.Proofs.Ytccjakjjaemmkaa.Pre.heap_norm; ((with_reducible repeat (first | refine blk_drewN ?_ _ | refine blk_drew ?_ | refine blk_alloc ?_ _ | apply Go.Proofs.Ytccjakjjaemmkaa.Pre.blk_set_)); (with_reducible first | exact BK101.out)); (first | (simp only [List.setIfInBounds_toArray, List.set_cons_zero, List.set_cons_succ]; done) | (simp only [List.setIfInBounds_toArray, List.set_cons_zero, List.set_cons_succ]; rfl) | rfl))) Try.underlying25 rfl (by kernel_rfl) ?_) | (go_at_call 53; (with_reducible refine (msg_Bare.calls a0_0 a0_1 a0_2 a0_3 a0_4 a0_5 a0_6 a0_7 a0_8 a0_9 a0_10 a0_11 a0_12 a0_13 a0_14 a0_15 a0_16 a0_17 a0_18 a0_19 a0_20 _ _ l0_21 a0_22 a0_23 _ _ l0_24 false _ ?side1 ?side2 ?side3 ?side4 A5.out).mono ?_); (case side1 => repeat (first | exact (Kd.C_below HR0_21.out HB.out) | (with_reducible refine Kd.C_alloc ?_ _) | (with_reducible refine Kd.C_drewN ?_ _) | (with_reducible refine Kd.C_drew ?_))); (case side2 => exact HC0_21.out); (case side3 => repeat (first | exact (Kd.C_below HR0_24.out HB.out) | (with_reducible refine Kd.C_alloc ?_ _) | (with_reducible refine Kd.C_drewN ?_ _) | (with_reducible refine Kd.C_drew ?_))); (case side4 => exact HC0_24.out); rintro e w23 ⟨rfl, hb⟩; have n0_ := Aside0.mk (blk_below (g := gb101) (by (with_reducible repeat (first | refine blk_drewN ?_ _ | refine blk_drew ?_ | refine blk_alloc ?_ _)); exact BK101.out) hb); have n1_ := Aside0.mk (below_step (by repeat (first | (with_reducible first | exact HB.out | apply below_alloc | apply pw_below_drewN | apply below_drew1 | refine below_set ?_ GE101.out) | exact HB.out)) hb); clear BK101; clear HB; have BK101 := n0_; have HB := n1_; clear n0_ n1_; (try clear hb); (try clear hb2); (try clear hk); (try clear hi)))
        go_meet
        case rel => exact ⟨_, (true), (by first | rfl | (simp; done) | (simp [*]; done)), H', ⟨by first | omega | exact Nat.le_refl _⟩, ⟨by (with_reducible repeat (first | refine blk_drewN ?_ _ | refine blk_drew ?_ | refine blk_alloc ?_ _)); exact BK101.out⟩, ⟨by repeat (first | (with_reducible first | exact HB.out | apply below_alloc | apply pw_below_drewN | apply below_drew1 | refine below_set ?_ GE101.out) | exact HB.out)⟩⟩
    · rw [if_neg c4] at H
      have c4b0 : (a0_0 == 3) = false := beq_eq_false_iff_ne.mpr c4
      have c4b1 : (a0_0 != 3) = true := bne_iff_ne.mpr c4
      (first | rw [c4b0] | (simp only [i64_w, i32_w]; rw [c4b0]) | skip)
      have H' := Aside0.mk H
      clear H
      obtain ⟨hcz24_0, hcz24_1, hcz24_2, hcz24_3, hcz24_4, hcz24_5, hcz24_6, hcz24_7, hcz24_8, hcz24_9, hcz24_10, hcz24_11, hcz24_12, hcz24_13, hcz24_14, hcz24_15, hcz24_16, hcz24_17, hcz24_18, hcz24_19, hcz24_20, hcz24_21, hcz24_22, hcz24_23, hcz24_24, hfz24_0, hfz24_1, hfz24_2, hfz24_3, hfz24_4, hfz24_5, hfz24_6, hfz24_7, hfz24_8, hfz24_9, hfz24_10, hfz24_11, hfz24_12, hfz24_13, hfz24_14, hfz24_15, hfz24_16, hfz24_17, hfz24_18, hfz24_19, hfz24_20, hfz24_21, hfz24_22, hfz24_23, hfz24_24⟩ := cells_25 BK101.out
      go_wp2_with (first | ((with_reducible refine Go.Proofs.Ytccjakjjaemmkaa.Pre.gate_load 25 rfl ?_); (try (refine gate_guard (by rfl) ?_; dsimp only)); refine Go.Proofs.Ytccjakjjaemmkaa.Pre.load_event rfl rfl rfl (by rfl) (by first | ((with_reducible repeat (first | refine blk_drewN ?_ _ | refine blk_drew ?_ | refine blk_alloc ?_ _)); (with_reducible first | exact BK101.out)) | (apply Go.Proofs.Ytccjakjjaemmkaa.Pre.heap_norm; ((with_reducible repeat (first | refine blk_drewN ?_ _ | refine blk_drew ?_ | refine blk_alloc ?_ _ | apply Go.Proofs.Ytccjakjjaemmkaa.Pre.blk_set_)); (with_reducible first | exact BK101.out)); (first | (simp only [List.setIfInBounds_toArray, List.set_cons_zero, List.set_cons_succ]; done) | (simp only [List.setIfInBounds_toArray, List.set_cons_zero, List.set_cons_succ]; rfl) | rfl))) Try.underlying25 rfl (by kernel_rfl) ?_))
      go_meet
      case rel => exact ⟨_, (true), (by first | rfl | (simp; done) | (simp [*]; done)), H', ⟨by first | omega | exact Nat.le_refl _⟩, ⟨by (with_reducible repeat (first | refine blk_drewN ?_ _ | refine blk_drew ?_ | refine blk_alloc ?_ _)); exact BK101.out⟩, ⟨by repeat (first | (with_reducible first | exact HB.out | apply below_alloc | apply pw_below_drewN | apply below_drew1 | refine below_set ?_ GE101.out) | exact HB.out)⟩⟩
  case rest =>
    clear HC2
    try clear c2
    try clear c20
    obtain ⟨kq, x34_1, rfl, HA, HJ1, BK101, HB⟩ := hcut
    cases kq with
    | zero => exact absurd HA.out (by simp [rreq_Right.j0])
    | succ kj1 =>
      have H := HA.out
      clear HA
      simp only [rreq_Right.j0] at H
      by_cases c25 : x34_1 = true
      · subst c25
        have H1 : (some false) = some r := by rw [if_pos rfl] at H; exact H
        clear H
        have H := H1
        clear H1
        obtain rfl := Option.some.inj H
        go_wp2_with (first | ((with_reducible refine Go.Proofs.Ytccjakjjaemmkaa.Pre.gate_load 25 rfl ?_); (try (refine gate_guard (by rfl) ?_; dsimp only)); refine Go.Proofs.Ytccjakjjaemmkaa.Pre.load_event rfl rfl rfl (by rfl) (by first | ((with_reducible repeat (first | refine blk_drewN ?_ _ | refine blk_drew ?_ | refine blk_alloc ?_ _)); (with_reducible first | exact BK101.out)) | (apply Go.Proofs.Ytccjakjjaemmkaa.Pre.heap_norm; ((with_reducible repeat (first | refine blk_drewN ?_ _ | refine blk_drew ?_ | refine blk_alloc ?_ _ | apply Go.Proofs.Ytccjakjjaemmkaa.Pre.blk_set_)); (with_reducible first | exact BK101.out)); (first | (simp only [List.setIfInBounds_toArray, List.set_cons_zero, List.set_cons_succ]; done) | (simp only [List.setIfInBounds_toArray, List.set_cons_zero, List.set_cons_succ]; rfl) | rfl))) Try.underlying25 rfl (by kernel_rfl) ?_))
        go_ret
        exact ⟨by first | rfl | (simp [errW_none, errW_some] <;> rfl) | (simp [*, errW_none, errW_some] <;> rfl), by repeat (first | (with_reducible first | exact HB.out | apply below_alloc | apply pw_below_drewN | apply below_drew1 | refine below_set ?_ GE101.out) | exact HB.out)⟩
      · replace c25 := Bool.eq_false_iff.mpr c25
        subst c25
        have H1 : ((some (([a0_17, a0_12, a0_13] : List Int) : List Int)).bind fun y103 => (rreq_Right.l0 kj1 y103 (y103.length : Int) 0 a0_0 a0_1 a0_2 a0_3 a0_4 a0_5 a0_6 a0_7 a0_8 a0_9 a0_10 a0_11 a0_12 a0_13 a0_14 a0_15 a0_16 a0_17 a0_18 a0_19 a0_20 l0_21 a0_22 a0_23 l0_24)) = some r := by rw [if_neg (show ¬ (false = true) by decide)] at H; exact H
        clear H
        have H := H1
        clear H1
        obtain ⟨y103, hy103⟩ : ∃ y_ : List Int, y_ = (([a0_17, a0_12, a0_13] : List Int)) := ⟨_, rfl⟩
        replace H : (rreq_Right.l0 kj1 y103 (y103.length : Int) 0 a0_0 a0_1 a0_2 a0_3 a0_4 a0_5 a0_6 a0_7 a0_8 a0_9 a0_10 a0_11 a0_12 a0_13 a0_14 a0_15 a0_16 a0_17 a0_18 a0_19 a0_20 l0_21 a0_22 a0_23 l0_24) = some r := by first | (rw [hy103]; with_reducible exact H) | (have H2_ := (Option.bind_some _ _).symm.trans H; rw [hy103]; with_reducible exact H2_) | (have H2_ := (Option.bind_some _ _).symm.trans H; with_reducible exact H2_) | with_reducible exact H | (rw [hy103]; exact H) | exact H
        have Ny103 := Aside0.mk hy103
        clear hy103
        have H' := Aside0.mk H
        clear H
        obtain ⟨hcz26_0, hcz26_1, hcz26_2, hcz26_3, hcz26_4, hcz26_5, hcz26_6, hcz26_7, hcz26_8, hcz26_9, hcz26_10, hcz26_11, hcz26_12, hcz26_13, hcz26_14, hcz26_15, hcz26_16, hcz26_17, hcz26_18, hcz26_19, hcz26_20, hcz26_21, hcz26_22, hcz26_23, hcz26_24, hfz26_0, hfz26_1, hfz26_2, hfz26_3, hfz26_4, hfz26_5, hfz26_6, hfz26_7, hfz26_8, hfz26_9, hfz26_10, hfz26_11, hfz26_12, hfz26_13, hfz26_14, hfz26_15, hfz26_16, hfz26_17, hfz26_18, hfz26_19, hfz26_20, hfz26_21, hfz26_22, hfz26_23, hfz26_24⟩ := cells_25 BK101.out
        go_wp2_with (first | ((with_reducible refine Go.Proofs.Ytccjakjjaemmkaa.Pre.gate_load 25 rfl ?_); (try (refine gate_guard (by rfl) ?_; dsimp only)); refine Go.Proofs.Ytccjakjjaemmkaa.Pre.load_event rfl rfl rfl (by rfl) (by first | ((with_reducible repeat (first | refine blk_drewN ?_ _ | refine blk_drew ?_ | refine blk_alloc ?_ _)); (with_reducible first | exact BK101.out)) | (apply Go.Proofs.Ytccjakjjaemmkaa.Pre.heap_norm; ((with_reducible repeat (first | refine blk_drewN ?_ _ | refine blk_drew ?_ | refine blk_alloc ?_ _ | apply Go.Proofs.Ytccjakjjaemmkaa.Pre.blk_set_)); (with_reducible first | exact BK101.out)); (first | (simp only [List.setIfInBounds_toArray, List.set_cons_zero, List.set_cons_succ]; done) | (simp only [List.setIfInBounds_toArray, List.set_cons_zero, List.set_cons_succ]; rfl) | rfl))) Try.underlying25 rfl (by kernel_rfl) ?_) | ((with_reducible refine gate_dst (N := 41) rfl ?_); (try (refine gate_guard (by rfl) ?_; dsimp only)); refine Kd.R_lit (Kd.int .i64) _ 3 ?hg (N := 41) ?hd (xs := ([a0_17, a0_12, a0_13] : List Int)) (inner := [.int .i64 a0_17, .int .i64 a0_12, .int .i64 a0_13]) (ok := fun _ => True) (okp := fun _ => True) ?hr ?hp (fun _ hk => hk) trivial (Below.refl _ _) (Nat.le_refl _) (by simp) ?_; (case hd => rfl); (case hg => rfl); (case hr => first | (go_simp; done) | (go_simp; rfl)); (case hp => exact (Reps.one (show Kd.M (Kd.int .i64) _ _ _ a0_17 [.int .i64 a0_17] from rfl) (Reps.one (show Kd.M (Kd.int .i64) _ _ _ a0_12 [.int .i64 a0_12] from rfl) (Reps.one (show Kd.M (Kd.int .i64) _ _ _ a0_13 [.int .i64 a0_13] from rfl) (Reps.none _ _))))); intro v104 w27 ho28 hb hg_ hnew_; clear hg_ hnew_; (first | rw [← Ny103.out] at ho28 | (simp only [Int.reduceToNat] at ho28; rw [← Ny103.out] at ho28)); have n0_ := Aside0.mk (Kd.R_lower ho28 (below_size (by repeat (first | (with_reducible first | exact HB.out | apply below_alloc | apply pw_below_drewN | apply below_drew1 | refine below_set ?_ GE101.out) | exact HB.out)))); have n1_ := Aside0.mk (blk_below (g := gb101) (by (with_reducible repeat (first | refine blk_drewN ?_ _ | refine blk_drew ?_ | refine blk_alloc ?_ _)); exact BK101.out) hb); have n2_ := Aside0.mk (below_step (by repeat (first | (with_reducible first | exact HB.out | apply below_alloc | apply pw_below_drewN | apply below_drew1 | refine below_set ?_ GE101.out) | exact HB.out)) hb); clear BK101; clear HB; have HO105 := n0_; have BK101 := n1_; have HB := n2_; clear n0_ n1_ n2_; clear hb ho28; obtain ⟨Ao29, co29, eo29⟩ := Kd.R_slice HO105.out; subst eo29))
        go_loopg [43] kj1 (fun kq v43 w' => ∃ (x43_2 : Int), v43 = .int .i64 x43_2 ∧ Aside0 (rreq_Right.l0 kq y103 (y103.length : Int) x43_2 a0_0 a0_1 a0_2 a0_3 a0_4 a0_5 a0_6 a0_7 a0_8 a0_9 a0_10 a0_11 a0_12 a0_13 a0_14 a0_15 a0_16 a0_17 a0_18 a0_19 a0_20 l0_21 a0_22 a0_23 l0_24 = some r) ∧ Aside0 (kq ≤ kj1) ∧ Aside0 (Kd.R (Kd.int .i64) 3 w' w.heap.size (fun _ => True) (.slice Ao29 y103.length co29) y103) ∧ Aside0 (w'.heap[gb101]? = some (.cells #[.int .i64 a0_0, .int .i64 a0_1, .int .i64 a0_2, .string a0_3, .int .i64 a0_4, .int .i64 a0_5, .string a0_6, .int .i64 a0_7, .int .i64 a0_8, .string a0_9, .int .i64 a0_10, .string a0_11, .int .i64 a0_12, .int .i64 a0_13, .int .i64 a0_14, .int .i64 a0_15, .int .i64 a0_16, .int .i64 a0_17, .int .i64 a0_18, .string a0_19, .string a0_20, (.slice A0_21 l0_21.length c0_21), .int .i64 a0_22, .string a0_23, (.slice A0_24 l0_24.length c0_24)] 25 (0, 0))) ∧ Aside0 (Below w.heap.size w w'))
        case atStart => exact ⟨(0), (by first | rfl | (simp; done) | (simp [*]; done)), H', ⟨Nat.le_refl _⟩, ⟨by (with_reducible repeat (first | apply Kd.R_alloc | apply Kd.R_drewN | apply Kd.R_drew)); exact HO105.out⟩, ⟨by (with_reducible repeat (first | refine blk_drewN ?_ _ | refine blk_drew ?_ | refine blk_alloc ?_ _)); exact BK101.out⟩, ⟨by repeat (first | (with_reducible first | exact HB.out | apply below_alloc | apply pw_below_drewN | apply below_drew1 | refine below_set ?_ GE101.out) | exact HB.out)⟩⟩
        case round =>
          clear H'
          try clear c2
          try clear p2
          try clear c4
          try clear c4b0
          try clear c4b1
          try clear c6
          try clear c7
          try clear c20
          try clear c25
          try clear hcz22_0
          try clear hcz22_1
          try clear hcz22_10
          try clear hcz22_11
          try clear hcz22_12
          try clear hcz22_13
          try clear hcz22_14
          try clear hcz22_15
          try clear hcz22_16
          try clear hcz22_17
          try clear hcz22_18
          try clear hcz22_19
          try clear hcz22_2
          try clear hcz22_20
          try clear hcz22_21
          try clear hcz22_22
          try clear hcz22_23
          try clear hcz22_24
          try clear hcz22_3
          try clear hcz22_4
          try clear hcz22_5
          try clear hcz22_6
          try clear hcz22_7
          try clear hcz22_8
          try clear hcz22_9
          try clear hcz24_0
          try clear hcz24_1
          try clear hcz24_10
          try clear hcz24_11
          try clear hcz24_12
          try clear hcz24_13
          try clear hcz24_14
          try clear hcz24_15
          try clear hcz24_16
          try clear hcz24_17
          try clear hcz24_18
          try clear hcz24_19
          try clear hcz24_2
          try clear hcz24_20
          try clear hcz24_21
          try clear hcz24_22
          try clear hcz24_23
          try clear hcz24_24
          try clear hcz24_3
          try clear hcz24_4
          try clear hcz24_5
          try clear hcz24_6
          try clear hcz24_7
          try clear hcz24_8
          try clear hcz24_9
          try clear hcz26_0
          try clear hcz26_1
          try clear hcz26_10
          try clear hcz26_11
          try clear hcz26_12
          try clear hcz26_13
          try clear hcz26_14
          try clear hcz26_15
          try clear hcz26_16
          try clear hcz26_17
          try clear hcz26_18
          try clear hcz26_19
          try clear hcz26_2
          try clear hcz26_20
          try clear hcz26_21
          try clear hcz26_22
          try clear hcz26_23
          try clear hcz26_24
          try clear hcz26_3
          try clear hcz26_4
          try clear hcz26_5
          try clear hcz26_6
          try clear hcz26_7
          try clear hcz26_8
          try clear hcz26_9
          try clear hfz22_0
          try clear hfz22_1
          try clear hfz22_10
          try clear hfz22_11
          try clear hfz22_12
          try clear hfz22_13
          try clear hfz22_14
          try clear hfz22_15
          try clear hfz22_16
          try clear hfz22_17
          try clear hfz22_18
          try clear hfz22_19
          try clear hfz22_2
          try clear hfz22_20
          try clear hfz22_21
          try clear hfz22_22
          try clear hfz22_23
          try clear hfz22_24
          try clear hfz22_3
          try clear hfz22_4
          try clear hfz22_5
          try clear hfz22_6
          try clear hfz22_7
          try clear hfz22_8
          try clear hfz22_9
          try clear hfz24_0
          try clear hfz24_1
          try clear hfz24_10
          try clear hfz24_11
          try clear hfz24_12
          try clear hfz24_13
          try clear hfz24_14
          try clear hfz24_15
          try clear hfz24_16
          try clear hfz24_17
          try clear hfz24_18
          try clear hfz24_19
          try clear hfz24_2
          try clear hfz24_20
          try clear hfz24_21
          try clear hfz24_22
          try clear hfz24_23
          try clear hfz24_24
          try clear hfz24_3
          try clear hfz24_4
          try clear hfz24_5
          try clear hfz24_6
          try clear hfz24_7
          try clear hfz24_8
          try clear hfz24_9
          try clear hfz26_0
          try clear hfz26_1
          try clear hfz26_10
          try clear hfz26_11
          try clear hfz26_12
          try clear hfz26_13
          try clear hfz26_14
          try clear hfz26_15
          try clear hfz26_16
          try clear hfz26_17
          try clear hfz26_18
          try clear hfz26_19
          try clear hfz26_2
          try clear hfz26_20
          try clear hfz26_21
          try clear hfz26_22
          try clear hfz26_23
          try clear hfz26_24
          try clear hfz26_3
          try clear hfz26_4
          try clear hfz26_5
          try clear hfz26_6
          try clear hfz26_7
          try clear hfz26_8
          try clear hfz26_9
          obtain ⟨x43_2, rfl, HA, HK2, HO_41, BK101, HB⟩ := hrel
          cases gk with
          | zero => exact absurd HA.out (by simp [rreq_Right.l0])
          | succ k2 =>
            have H := HA.out
            clear HA
            simp only [rreq_Right.l0] at H
            by_cases c30 : x43_2 < (y103.length : Int)
            · rw [if_pos c30] at H
              have c30b0 : decide (x43_2 < (y103.length : Int)) = true := decide_eq_true c30
              clear c30
              by_cases c31 : 0 ≤ x43_2
              · rw [if_pos c31] at H
                have c31b0 : decide (0 ≤ x43_2) = true := decide_eq_true c31
                clear c31
                by_cases c32 : x43_2 < (y103.length : Int)
                · rw [if_pos c32] at H
                  have c32b0 : decide (x43_2 < (y103.length : Int)) = true := decide_eq_true c32
                  clear c32
                  replace H := Option.bind_eq_some_iff.mp H
                  obtain ⟨t107, A330, H⟩ := H
                  replace H : (if t107 = true then (rreq_Right.l0 k2 y103 (y103.length : Int) (wrap64 (x43_2 + 1)) a0_0 a0_1 a0_2 a0_3 a0_4 a0_5 a0_6 a0_7 a0_8 a0_9 a0_10 a0_11 a0_12 a0_13 a0_14 a0_15 a0_16 a0_17 a0_18 a0_19 a0_20 l0_21 a0_22 a0_23 l0_24) else (some false)) = some r := H
                  have A33 := Aside0.mk A330
                  clear A330
                  by_cases c34 : t107 = true
                  · subst c34
                    have H1 : (rreq_Right.l0 k2 y103 (y103.length : Int) (wrap64 (x43_2 + 1)) a0_0 a0_1 a0_2 a0_3 a0_4 a0_5 a0_6 a0_7 a0_8 a0_9 a0_10 a0_11 a0_12 a0_13 a0_14 a0_15 a0_16 a0_17 a0_18 a0_19 a0_20 l0_21 a0_22 a0_23 l0_24) = some r := by rw [if_pos rfl] at H; exact H
                    clear H
                    have H := H1
                    clear H1
                    have H' := Aside0.mk H
                    clear H
                    have p106 : 0 ≤ (x43_2 : Int) := of_decide_eq_true (by first | (with_reducible assumption) | assumption)
                    have q106 : x43_2 < (y103.length : Int) := of_decide_eq_true (by first | (with_reducible assumption) | assumption)
                    obtain ⟨ad106, e106, hx106_0⟩ := Kd.at_int (Kd.R_reads' HO_41.out).2.2 x43_2 p106 q106
                    cases e106
                    replace p106 := eq_true p106
                    replace q106 := eq_true q106
                    go_wp2_with (first | ((with_reducible refine Go.Proofs.Ytccjakjjaemmkaa.Pre.gate_load 25 rfl ?_); (try (refine gate_guard (by rfl) ?_; dsimp only)); refine Go.Proofs.Ytccjakjjaemmkaa.Pre.load_event rfl rfl rfl (by rfl) (by first | ((with_reducible repeat (first | refine blk_drewN ?_ _ | refine blk_drew ?_ | refine blk_alloc ?_ _)); (with_reducible first | exact BK101.out)) | (apply Go.Proofs.Ytccjakjjaemmkaa.Pre.heap_norm; ((with_reducible repeat (first | refine blk_drewN ?_ _ | refine blk_drew ?_ | refine blk_alloc ?_ _ | apply Go.Proofs.Ytccjakjjaemmkaa.Pre.blk_set_)); (with_reducible first | exact BK101.out)); (first | (simp only [List.setIfInBounds_toArray, List.set_cons_zero, List.set_cons_succ]; done) | (simp only [List.setIfInBounds_toArray, List.set_cons_zero, List.set_cons_succ]; rfl) | rfl))) Try.underlying25 rfl (by kernel_rfl) ?_) | ((with_reducible refine gate_callee (f := 54) rfl ?_); refine goesL_ (some 48) rfl rfl Try.func54 (by kernel_rfl) rfl #[.int .i64 (rd y103 x43_2), .int .i64 4] rfl (by (try simp only [List.map_toArray, List.map_cons, List.map_nil]); first | done | rfl | (simp only [List.length_drop, List.length_take]; rfl)) ?_; (with_reducible refine (octet_Fits.calls (rd y103 x43_2) 4 true _ A33.out).mono ?_); rintro e w' ⟨rfl, ⟨nd, rfl⟩⟩; refine ⟨_, rfl, ?_⟩))
                    go_roundg k2
                    case measure => have := HJ1.out; have := HK2.out; omega
                    case rel => exact ⟨(wrap64 (x43_2 + 1)), (by first | rfl | (simp; done) | (simp [*]; done)), H', ⟨by have := HJ1.out; have := HK2.out; omega⟩, ⟨by (with_reducible repeat (first | apply Kd.R_alloc | apply Kd.R_drewN | apply Kd.R_drew)); exact HO_41.out⟩, ⟨by (with_reducible repeat (first | refine blk_drewN ?_ _ | refine blk_drew ?_ | refine blk_alloc ?_ _)); exact BK101.out⟩, ⟨by repeat (first | (with_reducible first | exact HB.out | apply below_alloc | apply pw_below_drewN | apply below_drew1 | refine below_set ?_ GE101.out) | exact HB.out)⟩⟩
                  · replace c34 := Bool.eq_false_iff.mpr c34
                    subst c34
                    have H1 : (some false) = some r := by rw [if_neg (show ¬ (false = true) by decide)] at H; exact H
                    clear H
                    have H := H1
                    clear H1
                    obtain rfl := Option.some.inj H
                    have p106 : 0 ≤ (x43_2 : Int) := of_decide_eq_true (by first | (with_reducible assumption) | assumption)
                    have q106 : x43_2 < (y103.length : Int) := of_decide_eq_true (by first | (with_reducible assumption) | assumption)
                    obtain ⟨ad106, e106, hx106_0⟩ := Kd.at_int (Kd.R_reads' HO_41.out).2.2 x43_2 p106 q106
                    cases e106
                    replace p106 := eq_true p106
                    replace q106 := eq_true q106
                    go_wp2_with (first | ((with_reducible refine Go.Proofs.Ytccjakjjaemmkaa.Pre.gate_load 25 rfl ?_); (try (refine gate_guard (by rfl) ?_; dsimp only)); refine Go.Proofs.Ytccjakjjaemmkaa.Pre.load_event rfl rfl rfl (by rfl) (by first | ((with_reducible repeat (first | refine blk_drewN ?_ _ | refine blk_drew ?_ | refine blk_alloc ?_ _)); (with_reducible first | exact BK101.out)) | (apply Go.Proofs.Ytccjakjjaemmkaa.Pre.heap_norm; ((with_reducible repeat (first | refine blk_drewN ?_ _ | refine blk_drew ?_ | refine blk_alloc ?_ _ | apply Go.Proofs.Ytccjakjjaemmkaa.Pre.blk_set_)); (with_reducible first | exact BK101.out)); (first | (simp only [List.setIfInBounds_toArray, List.set_cons_zero, List.set_cons_succ]; done) | (simp only [List.setIfInBounds_toArray, List.set_cons_zero, List.set_cons_succ]; rfl) | rfl))) Try.underlying25 rfl (by kernel_rfl) ?_) | ((with_reducible refine gate_callee (f := 54) rfl ?_); refine goesL_ (some 48) rfl rfl Try.func54 (by kernel_rfl) rfl #[.int .i64 (rd y103 x43_2), .int .i64 4] rfl (by (try simp only [List.map_toArray, List.map_cons, List.map_nil]); first | done | rfl | (simp only [List.length_drop, List.length_take]; rfl)) ?_; (with_reducible refine (octet_Fits.calls (rd y103 x43_2) 4 false _ A33.out).mono ?_); rintro e w' ⟨rfl, ⟨nd, rfl⟩⟩; refine ⟨_, rfl, ?_⟩))
                    go_ret
                    exact ⟨by first | rfl | (simp [errW_none, errW_some] <;> rfl) | (simp [*, errW_none, errW_some] <;> rfl), by repeat (first | (with_reducible first | exact HB.out | apply below_alloc | apply pw_below_drewN | apply below_drew1 | refine below_set ?_ GE101.out) | exact HB.out)⟩
                · rw [if_neg c32] at H
                  exact absurd H (by simp)
              · rw [if_neg c31] at H
                exact absurd H (by simp)
            · rw [if_neg c30] at H
              have c30b0 : decide (x43_2 < (y103.length : Int)) = false := decide_eq_false c30
              clear c30
              replace H := Option.bind_eq_some_iff.mp H
              obtain ⟨t108, A350, H⟩ := H
              replace H : (if t108 = true then ((ext_Right.f k2 l0_24).bind fun t109 => (some t109)) else (some false)) = some r := H
              have A35 := Aside0.mk A350
              clear A350
              by_cases c36 : t108 = true
              · subst c36
                have H1 : ((ext_Right.f k2 l0_24).bind fun t109 => (some t109)) = some r := by rw [if_pos rfl] at H; exact H
                clear H
                have H := H1
                clear H1
                replace H := Option.bind_eq_some_iff.mp H
                obtain ⟨t109, A370, H⟩ := H
                replace H : (some t109) = some r := H
                have A37 := Aside0.mk A370
                clear A370
                obtain rfl := Option.some.inj H
                obtain ⟨hcz38_0, hcz38_1, hcz38_2, hcz38_3, hcz38_4, hcz38_5, hcz38_6, hcz38_7, hcz38_8, hcz38_9, hcz38_10, hcz38_11, hcz38_12, hcz38_13, hcz38_14, hcz38_15, hcz38_16, hcz38_17, hcz38_18, hcz38_19, hcz38_20, hcz38_21, hcz38_22, hcz38_23, hcz38_24, hfz38_0, hfz38_1, hfz38_2, hfz38_3, hfz38_4, hfz38_5, hfz38_6, hfz38_7, hfz38_8, hfz38_9, hfz38_10, hfz38_11, hfz38_12, hfz38_13, hfz38_14, hfz38_15, hfz38_16, hfz38_17, hfz38_18, hfz38_19, hfz38_20, hfz38_21, hfz38_22, hfz38_23, hfz38_24⟩ := cells_25 BK101.out
                go_wp2_with (first | ((with_reducible refine Go.Proofs.Ytccjakjjaemmkaa.Pre.gate_load 25 rfl ?_); (try (refine gate_guard (by rfl) ?_; dsimp only)); refine Go.Proofs.Ytccjakjjaemmkaa.Pre.load_event rfl rfl rfl (by rfl) (by first | ((with_reducible repeat (first | refine blk_drewN ?_ _ | refine blk_drew ?_ | refine blk_alloc ?_ _)); (with_reducible first | exact BK101.out)) | (apply Go.Proofs.Ytccjakjjaemmkaa.Pre.heap_norm; ((with_reducible repeat (first | refine blk_drewN ?_ _ | refine blk_drew ?_ | refine blk_alloc ?_ _ | apply Go.Proofs.Ytccjakjjaemmkaa.Pre.blk_set_)); (with_reducible first | exact BK101.out)); (first | (simp only [List.setIfInBounds_toArray, List.set_cons_zero, List.set_cons_succ]; done) | (simp only [List.setIfInBounds_toArray, List.set_cons_zero, List.set_cons_succ]; rfl) | rfl))) Try.underlying25 rfl (by kernel_rfl) ?_) | ((with_reducible refine gate_callee (f := 54) rfl ?_); refine goesL_ (some 53) rfl rfl Try.func54 (by kernel_rfl) rfl #[.int .i64 a0_16, .int .i64 1] rfl (by (try simp only [List.map_toArray, List.map_cons, List.map_nil]); first | done | rfl | (simp only [List.length_drop, List.length_take]; rfl)) ?_; (with_reducible refine (octet_Fits.calls a0_16 1 true _ A35.out).mono ?_); rintro e w' ⟨rfl, ⟨nd, rfl⟩⟩; refine ⟨_, rfl, ?_⟩) | (go_at_call 55; (with_reducible refine (ext_Right.calls k2 _ _ l0_24 t109 _ ?side1 ?side2 A37.out).mono ?_); (case side1 => repeat (first | exact (Kd.C_below HR0_24.out (by repeat (first | (with_reducible first | exact HB.out | apply below_alloc | apply pw_below_drewN | apply below_drew1 | refine below_set ?_ GE101.out) | exact HB.out))) | (with_reducible refine Kd.C_alloc ?_ _) | (with_reducible refine Kd.C_drewN ?_ _) | (with_reducible refine Kd.C_drew ?_))); (case side2 => exact HC0_24.out); rintro e w39 ⟨rfl, hb⟩; have n0_ := Aside0.mk (Kd.R_below (by (with_reducible repeat (first | apply Kd.R_alloc | apply Kd.R_drewN | apply Kd.R_drew)); exact HO_41.out) hb); have n1_ := Aside0.mk (blk_below (g := gb101) (by (with_reducible repeat (first | refine blk_drewN ?_ _ | refine blk_drew ?_ | refine blk_alloc ?_ _)); exact BK101.out) hb); have n2_ := Aside0.mk (below_step (by repeat (first | (with_reducible first | exact HB.out | apply below_alloc | apply pw_below_drewN | apply below_drew1 | refine below_set ?_ GE101.out) | exact HB.out)) hb); clear HO_41; clear BK101; clear HB; have HO_41 := n0_; have BK101 := n1_; have HB := n2_; clear n0_ n1_ n2_; (try clear hb); (try clear hb2); (try clear hk); (try clear hi)))
                go_ret
                exact ⟨by first | rfl | (simp [errW_none, errW_some] <;> rfl) | (simp [*, errW_none, errW_some] <;> rfl), by repeat (first | (with_reducible first | exact HB.out | apply below_alloc | apply pw_below_drewN | apply below_drew1 | refine below_set ?_ GE101.out) | exact HB.out)⟩
              · replace c36 := Bool.eq_false_iff.mpr c36
                subst c36
                have H1 : (some false) = some r := by rw [if_neg (show ¬ (false = true) by decide)] at H; exact H
                clear H
                have H := H1
                clear H1
                obtain rfl := Option.some.inj H
                obtain ⟨hcz40_0, hcz40_1, hcz40_2, hcz40_3, hcz40_4, hcz40_5, hcz40_6, hcz40_7, hcz40_8, hcz40_9, hcz40_10, hcz40_11, hcz40_12, hcz40_13, hcz40_14, hcz40_15, hcz40_16, hcz40_17, hcz40_18, hcz40_19, hcz40_20, hcz40_21, hcz40_22, hcz40_23, hcz40_24, hfz40_0, hfz40_1, hfz40_2, hfz40_3, hfz40_4, hfz40_5, hfz40_6, hfz40_7, hfz40_8, hfz40_9, hfz40_10, hfz40_11, hfz40_12, hfz40_13, hfz40_14, hfz40_15, hfz40_16, hfz40_17, hfz40_18, hfz40_19, hfz40_20, hfz40_21, hfz40_22, hfz40_23, hfz40_24⟩ := cells_25 BK101.out
                go_wp2_with (first | ((with_reducible refine Go.Proofs.Ytccjakjjaemmkaa.Pre.gate_load 25 rfl ?_); (try (refine gate_guard (by rfl) ?_; dsimp only)); refine Go.Proofs.Ytccjakjjaemmkaa.Pre.load_event rfl rfl rfl (by rfl) (by first | ((with_reducible repeat (first | refine blk_drewN ?_ _ | refine blk_drew ?_ | refine blk_alloc ?_ _)); (with_reducible first | exact BK101.out)) | (apply Go.Proofs.Ytccjakjjaemmkaa.Pre.heap_norm; ((with_reducible repeat (first | refine blk_drewN ?_ _ | refine blk_drew ?_ | refine blk_alloc ?_ _ | apply Go.Proofs.Ytccjakjjaemmkaa.Pre.blk_set_)); (with_reducible first | exact BK101.out)); (first | (simp only [List.setIfInBounds_toArray, List.set_cons_zero, List.set_cons_succ]; done) | (simp only [List.setIfInBounds_toArray, List.set_cons_zero, List.set_cons_succ]; rfl) | rfl))) Try.underlying25 rfl (by kernel_rfl) ?_) | ((with_reducible refine gate_callee (f := 54) rfl ?_); refine goesL_ (some 53) rfl rfl Try.func54 (by kernel_rfl) rfl #[.int .i64 a0_16, .int .i64 1] rfl (by (try simp only [List.map_toArray, List.map_cons, List.map_nil]); first | done | rfl | (simp only [List.length_drop, List.length_take]; rfl)) ?_; (with_reducible refine (octet_Fits.calls a0_16 1 false _ A35.out).mono ?_); rintro e w' ⟨rfl, ⟨nd, rfl⟩⟩; refine ⟨_, rfl, ?_⟩))
                go_ret
                exact ⟨by first | rfl | (simp [errW_none, errW_some] <;> rfl) | (simp [*, errW_none, errW_some] <;> rfl), by repeat (first | (with_reducible first | exact HB.out | apply below_alloc | apply pw_below_drewN | apply below_drew1 | refine below_set ?_ GE101.out) | exact HB.out)⟩

end Go.Proofs.Ytccjakjjaemmkaa.PR
