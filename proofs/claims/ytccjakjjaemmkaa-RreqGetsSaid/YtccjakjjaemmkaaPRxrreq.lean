-- Written by mp.py, a program of this work (wip/tools), out of the translation; Lean checks it.
import Derived.Test.YtccjakjjaemmkaaPRx0
import Derived.Test.YtccjakjjaemmkaaPRxext
import Derived.Test.YtccjakjjaemmkaaPRxoctet
import Derived.Test.YtccjakjjaemmkaaPRxrreqRight
namespace Go.Proofs.Ytccjakjjaemmkaa.PR
open Go.RowKit Go.Proofs.YtccjakjjaemmkaaW.PrintWords Go.Proofs.YtccjakjjaemmkaaW.PrintLast Go.Proofs.YtccjakjjaemmkaaW.PrintMore
attribute [local go_sem] max2_int min2_int max_two min_two max_three min_three max_four min_four   -- for this text's walks alone
set_option linter.unusedVariables false
set_option linter.unusedSimpArgs false

/-! ### rreq_word: function 50 -/
def rreq_word.f (k : Nat) (a0 : Int) : Option (ByteArray) := (octet_Put.f k a0 4).bind fun bt101 => (some bt101.1)
theorem rreq_word.mono : ∀ a0 k, LeO (rreq_word.f k a0) (rreq_word.f (k + 1) a0) := by
  intro a0 k
  unfold rreq_word.f
  repeat' first
      | (with_reducible exact octet_Put.mono _ _ _)
      | (with_reducible exact LeO.refl _)
      | (with_reducible exact LeO.none _)
      | (with_reducible refine LeO.ite ?_ ?_)
      | (with_reducible refine LeO.bind ?_ (fun _ => ?_))
      | exact octet_Put.mono _ _ _
      | exact LeO.none _
      | refine LeO.ite ?_ ?_
      | refine LeO.bind ?_ (fun _ => ?_)
set_option maxHeartbeats 8000000 in
set_option maxRecDepth 100000 in
theorem rreq_word.calls (k : Nat) (a0 : Int) (r : ByteArray) (w : World) (h : rreq_word.f k a0 = some r) :
    Calls Try.prog 50 #[.int .i64 a0] w fun e w' => e = .returned (.string r) ∧ Below w.heap.size w w' := by
  have HB := Aside0.mk (Below.refl w.heap.size w)
  have H : ((octet_Put.f k a0 4).bind fun bt101 => (some bt101.1)) = some r := h
  clear h
  replace H := Option.bind_eq_some_iff.mp H
  obtain ⟨⟨t101, t102⟩, A20, H⟩ := H
  replace H : (some t101) = some r := H
  have A2 := Aside0.mk A20
  clear A20
  obtain rfl := Option.some.inj H
  go_enter Try.func50, Try.ntmps50
  go_wp2_with (first | ((with_reducible refine gate_callee (f := 67) rfl ?_); refine goesL_ (some 7) rfl rfl Try.func67 (by kernel_rfl) rfl #[.int .i64 a0, .int .i64 4] rfl (by (try simp only [List.map_toArray, List.map_cons, List.map_nil]); first | done | rfl | (simp only [List.length_drop, List.length_take]; rfl)) ?_; (with_reducible refine (octet_Put.calls k a0 4 t101 t102 _ A2.out).mono ?_); rintro e w3 ⟨rfl, hb⟩; refine ⟨_, rfl, ?_⟩; have n0_ := Aside0.mk (below_step (by repeat (first | (with_reducible first | exact HB.out | apply below_alloc | apply pw_below_drewN | apply below_drew1) | exact HB.out)) hb); clear HB; have HB := n0_; clear n0_; (try clear hb); (try clear hb2); (try clear hk); (try clear hi)))
  go_ret
  exact ⟨by first | rfl | (simp [errW_none, errW_some] <;> rfl) | (simp [*, errW_none, errW_some] <;> rfl), by repeat (first | (with_reducible first | exact HB.out | apply below_alloc | apply pw_below_drewN | apply below_drew1) | exact HB.out)⟩

/-! ### rreq_Put: function 18 -/
def rreq_Put.f (k : Nat) (a0_0 : Int) (a0_1 : Int) (a0_2 : Int) (a0_3 : ByteArray) (a0_4 : Int) (a0_5 : Int) (a0_6 : ByteArray) (a0_7 : Int) (a0_8 : Int) (a0_9 : ByteArray) (a0_10 : Int) (a0_11 : ByteArray) (a0_12 : Int) (a0_13 : Int) (a0_14 : Int) (a0_15 : Int) (a0_16 : Int) (a0_17 : Int) (a0_18 : Int) (a0_19 : ByteArray) (a0_20 : ByteArray) (l0_21 : List (S46)) (a0_22 : Int) (a0_23 : ByteArray) (l0_24 : List (S48)) : Option (ByteArray × Bool) := (rreq_Right.f k a0_0 a0_1 a0_2 a0_3 a0_4 a0_5 a0_6 a0_7 a0_8 a0_9 a0_10 a0_11 a0_12 a0_13 a0_14 a0_15 a0_16 a0_17 a0_18 a0_19 a0_20 l0_21 a0_22 a0_23 l0_24).bind fun t102 => (if t102 = true then ((ext_Put.f k l0_24).bind fun bt103 => ((some (([1, (wrap64 (a0_15 * 8)) % 256, 0, (a0_16) % 256] : List Int) : List Int)).bind fun y105 => ((rreq_word.f k a0_17).bind fun t108 => (if (strOfNums y105).size + t108.size ≤ 9223372036854775807 then (if ((strOfNums y105) ++ t108).size + a0_19.size ≤ 9223372036854775807 then ((rreq_word.f k a0_12).bind fun t109 => (if (((strOfNums y105) ++ t108) ++ a0_19).size + t109.size ≤ 9223372036854775807 then (if ((((strOfNums y105) ++ t108) ++ a0_19) ++ t109).size + a0_20.size ≤ 9223372036854775807 then ((rreq_word.f k a0_13).bind fun t110 => (if (((((strOfNums y105) ++ t108) ++ a0_19) ++ t109) ++ a0_20).size + t110.size ≤ 9223372036854775807 then (if ((((((strOfNums y105) ++ t108) ++ a0_19) ++ t109) ++ a0_20) ++ t110).size + bt103.1.size ≤ 9223372036854775807 then (some (((((((strOfNums y105) ++ t108) ++ a0_19) ++ t109) ++ a0_20) ++ t110) ++ bt103.1, true)) else (none)) else (none))) else (none)) else (none))) else (none)) else (none))))) else (some ((⟨#[]⟩ : ByteArray), false)))
theorem rreq_Put.mono : ∀ a0 a1 a2 a3 a4 a5 a6 a7 a8 a9 a10 a11 a12 a13 a14 a15 a16 a17 a18 a19 a20 a21 a22 a23 a24 k, LeO (rreq_Put.f k a0 a1 a2 a3 a4 a5 a6 a7 a8 a9 a10 a11 a12 a13 a14 a15 a16 a17 a18 a19 a20 a21 a22 a23 a24) (rreq_Put.f (k + 1) a0 a1 a2 a3 a4 a5 a6 a7 a8 a9 a10 a11 a12 a13 a14 a15 a16 a17 a18 a19 a20 a21 a22 a23 a24) := by
  intro a0 a1 a2 a3 a4 a5 a6 a7 a8 a9 a10 a11 a12 a13 a14 a15 a16 a17 a18 a19 a20 a21 a22 a23 a24 k
  unfold rreq_Put.f
  repeat' first
      | (with_reducible exact ext_Put.mono _ _)
      | (with_reducible exact rreq_Right.mono _ _ _ _ _ _ _ _ _ _ _ _ _ _ _ _ _ _ _ _ _ _ _ _ _ _)
      | (with_reducible exact rreq_word.mono _ _)
      | (with_reducible exact LeO.refl _)
      | (with_reducible exact LeO.none _)
      | (with_reducible refine LeO.ite ?_ ?_)
      | (with_reducible refine LeO.bind ?_ (fun _ => ?_))
      | exact ext_Put.mono _ _
      | exact rreq_Right.mono _ _ _ _ _ _ _ _ _ _ _ _ _ _ _ _ _ _ _ _ _ _ _ _ _ _
      | exact rreq_word.mono _ _
      | exact LeO.none _
      | refine LeO.ite ?_ ?_
      | refine LeO.bind ?_ (fun _ => ?_)
def rreq_Put.T5 : Bool × List (List Nat × List Nat) := (true, [([], []), ([], []), ([1], [1]), ([2], [2]), ([0, 3], [0, 3]), ([], []), ([5], [5]), ([4, 6], [4, 6]), ([], []), ([8], [8]), ([9, 3], [9]), ([7, 10], [7, 10]), ([], []), ([12], [12]), ([11, 13], [11, 13]), ([], []), ([15], [15]), ([16, 10], [16]), ([14, 17], [14, 17]), ([], []), ([18, 19], [18, 19]), ([20, 17, 0, 1, 2, 3, 4, 5, 6, 7, 8, 9, 10, 11, 12, 13, 14, 15, 16, 17, 18, 19, 20], [20]), ([21, 0, 1, 2, 3, 4, 5, 6, 7, 8, 9, 10, 11, 12, 13, 14, 15, 16, 17, 18, 19, 20, 21], [])])
def rreq_Put.B5 : List Nat := [0, 0, 2, 6, 15, 0, 32, 127, 0, 256, 782, 2047, 0, 4096, 16383, 0, 32768, 100110, 262143, 0, 1048575, 2097151, 4194303]
theorem rreq_Put.tab5 : rtab .any (opsOf Try.f18 5) = rreq_Put.T5 := by kernel_rfl
theorem rreq_Put.bits5 : waitsOk rreq_Put.T5.2 rreq_Put.B5 = true := by kernel_rfl

set_option maxHeartbeats 8000000 in
set_option maxRecDepth 100000 in
theorem rreq_Put.calls (k : Nat) (a0_0 : Int) (a0_1 : Int) (a0_2 : Int) (a0_3 : ByteArray) (a0_4 : Int) (a0_5 : Int) (a0_6 : ByteArray) (a0_7 : Int) (a0_8 : Int) (a0_9 : ByteArray) (a0_10 : Int) (a0_11 : ByteArray) (a0_12 : Int) (a0_13 : Int) (a0_14 : Int) (a0_15 : Int) (a0_16 : Int) (a0_17 : Int) (a0_18 : Int) (a0_19 : ByteArray) (a0_20 : ByteArray) (A0_21 : Option Addr) (c0_21 : Nat) (l0_21 : List (S46)) (a0_22 : Int) (a0_23 : ByteArray) (A0_24 : Option Addr) (c0_24 : Nat) (l0_24 : List (S48)) (r1 : ByteArray) (r2 : Bool) (w : World) (hr0_21 : Kd.C k46 w A0_21 l0_21.length l0_21) (hc0_21 : l0_21.length ≤ c0_21) (hr0_24 : Kd.C k48 w A0_24 l0_24.length l0_24) (hc0_24 : l0_24.length ≤ c0_24) (h : rreq_Put.f k a0_0 a0_1 a0_2 a0_3 a0_4 a0_5 a0_6 a0_7 a0_8 a0_9 a0_10 a0_11 a0_12 a0_13 a0_14 a0_15 a0_16 a0_17 a0_18 a0_19 a0_20 l0_21 a0_22 a0_23 l0_24 = some (r1, r2)) :
    Calls Try.prog 18 #[.agg #[.int .i64 a0_0, .int .i64 a0_1, .int .i64 a0_2, .string a0_3, .int .i64 a0_4, .int .i64 a0_5, .string a0_6, .int .i64 a0_7, .int .i64 a0_8, .string a0_9, .int .i64 a0_10, .string a0_11, .int .i64 a0_12, .int .i64 a0_13, .int .i64 a0_14, .int .i64 a0_15, .int .i64 a0_16, .int .i64 a0_17, .int .i64 a0_18, .string a0_19, .string a0_20, .slice A0_21 l0_21.length c0_21, .int .i64 a0_22, .string a0_23, .slice A0_24 l0_24.length c0_24]] w fun e w' => e = .returned (.tuple #[.string r1, .bool r2]) ∧ Below w.heap.size w w' := by
  have hu25 := Try.underlying25
  have HR0_21 := Aside0.mk hr0_21
  have HC0_21 := Aside0.mk hc0_21
  clear hr0_21 hc0_21
  have HR0_24 := Aside0.mk hr0_24
  have HC0_24 := Aside0.mk hc0_24
  clear hr0_24 hc0_24
  have HB := Aside0.mk (Below.refl w.heap.size w)
  have H : ((rreq_Right.f k a0_0 a0_1 a0_2 a0_3 a0_4 a0_5 a0_6 a0_7 a0_8 a0_9 a0_10 a0_11 a0_12 a0_13 a0_14 a0_15 a0_16 a0_17 a0_18 a0_19 a0_20 l0_21 a0_22 a0_23 l0_24).bind fun t102 => (if t102 = true then ((ext_Put.f k l0_24).bind fun bt103 => ((some (([1, (wrap64 (a0_15 * 8)) % 256, 0, (a0_16) % 256] : List Int) : List Int)).bind fun y105 => ((rreq_word.f k a0_17).bind fun t108 => (if (strOfNums y105).size + t108.size ≤ 9223372036854775807 then (if ((strOfNums y105) ++ t108).size + a0_19.size ≤ 9223372036854775807 then ((rreq_word.f k a0_12).bind fun t109 => (if (((strOfNums y105) ++ t108) ++ a0_19).size + t109.size ≤ 9223372036854775807 then (if ((((strOfNums y105) ++ t108) ++ a0_19) ++ t109).size + a0_20.size ≤ 9223372036854775807 then ((rreq_word.f k a0_13).bind fun t110 => (if (((((strOfNums y105) ++ t108) ++ a0_19) ++ t109) ++ a0_20).size + t110.size ≤ 9223372036854775807 then (if ((((((strOfNums y105) ++ t108) ++ a0_19) ++ t109) ++ a0_20) ++ t110).size + bt103.1.size ≤ 9223372036854775807 then (some (((((((strOfNums y105) ++ t108) ++ a0_19) ++ t109) ++ a0_20) ++ t110) ++ bt103.1, true)) else (none)) else (none))) else (none)) else (none))) else (none)) else (none))))) else (some ((⟨#[]⟩ : ByteArray), false)))) = some (r1, r2) := h
  clear h
  replace H := Option.bind_eq_some_iff.mp H
  obtain ⟨t102, A20, H⟩ := H
  replace H : (if t102 = true then ((ext_Put.f k l0_24).bind fun bt103 => ((some (([1, (wrap64 (a0_15 * 8)) % 256, 0, (a0_16) % 256] : List Int) : List Int)).bind fun y105 => ((rreq_word.f k a0_17).bind fun t108 => (if (strOfNums y105).size + t108.size ≤ 9223372036854775807 then (if ((strOfNums y105) ++ t108).size + a0_19.size ≤ 9223372036854775807 then ((rreq_word.f k a0_12).bind fun t109 => (if (((strOfNums y105) ++ t108) ++ a0_19).size + t109.size ≤ 9223372036854775807 then (if ((((strOfNums y105) ++ t108) ++ a0_19) ++ t109).size + a0_20.size ≤ 9223372036854775807 then ((rreq_word.f k a0_13).bind fun t110 => (if (((((strOfNums y105) ++ t108) ++ a0_19) ++ t109) ++ a0_20).size + t110.size ≤ 9223372036854775807 then (if ((((((strOfNums y105) ++ t108) ++ a0_19) ++ t109) ++ a0_20) ++ t110).size + bt103.1.size ≤ 9223372036854775807 then (some (((((((strOfNums y105) ++ t108) ++ a0_19) ++ t109) ++ a0_20) ++ t110) ++ bt103.1, true)) else (none)) else (none))) else (none)) else (none))) else (none)) else (none))))) else (some ((⟨#[]⟩ : ByteArray), false))) = some (r1, r2) := H
  have A2 := Aside0.mk A20
  clear A20
  by_cases c3 : t102 = true
  · subst c3
    have H1 : ((ext_Put.f k l0_24).bind fun bt103 => ((some (([1, (wrap64 (a0_15 * 8)) % 256, 0, (a0_16) % 256] : List Int) : List Int)).bind fun y105 => ((rreq_word.f k a0_17).bind fun t108 => (if (strOfNums y105).size + t108.size ≤ 9223372036854775807 then (if ((strOfNums y105) ++ t108).size + a0_19.size ≤ 9223372036854775807 then ((rreq_word.f k a0_12).bind fun t109 => (if (((strOfNums y105) ++ t108) ++ a0_19).size + t109.size ≤ 9223372036854775807 then (if ((((strOfNums y105) ++ t108) ++ a0_19) ++ t109).size + a0_20.size ≤ 9223372036854775807 then ((rreq_word.f k a0_13).bind fun t110 => (if (((((strOfNums y105) ++ t108) ++ a0_19) ++ t109) ++ a0_20).size + t110.size ≤ 9223372036854775807 then (if ((((((strOfNums y105) ++ t108) ++ a0_19) ++ t109) ++ a0_20) ++ t110).size + bt103.1.size ≤ 9223372036854775807 then (some (((((((strOfNums y105) ++ t108) ++ a0_19) ++ t109) ++ a0_20) ++ t110) ++ bt103.1, true)) else (none)) else (none))) else (none)) else (none))) else (none)) else (none))))) = some (r1, r2) := by rw [if_pos rfl] at H; exact H
    clear H
    have H := H1
    clear H1
    replace H := Option.bind_eq_some_iff.mp H
    obtain ⟨⟨t103, t104⟩, A40, H⟩ := H
    replace H : ((some (([1, (wrap64 (a0_15 * 8)) % 256, 0, (a0_16) % 256] : List Int) : List Int)).bind fun y105 => ((rreq_word.f k a0_17).bind fun t108 => (if (strOfNums y105).size + t108.size ≤ 9223372036854775807 then (if ((strOfNums y105) ++ t108).size + a0_19.size ≤ 9223372036854775807 then ((rreq_word.f k a0_12).bind fun t109 => (if (((strOfNums y105) ++ t108) ++ a0_19).size + t109.size ≤ 9223372036854775807 then (if ((((strOfNums y105) ++ t108) ++ a0_19) ++ t109).size + a0_20.size ≤ 9223372036854775807 then ((rreq_word.f k a0_13).bind fun t110 => (if (((((strOfNums y105) ++ t108) ++ a0_19) ++ t109) ++ a0_20).size + t110.size ≤ 9223372036854775807 then (if ((((((strOfNums y105) ++ t108) ++ a0_19) ++ t109) ++ a0_20) ++ t110).size + t103.size ≤ 9223372036854775807 then (some (((((((strOfNums y105) ++ t108) ++ a0_19) ++ t109) ++ a0_20) ++ t110) ++ t103, true)) else (none)) else (none))) else (none)) else (none))) else (none)) else (none)))) = some (r1, r2) := H
    have A4 := Aside0.mk A40
    clear A40
    obtain ⟨y105, hy105⟩ : ∃ y_ : List Int, y_ = (([1, (wrap64 (a0_15 * 8)) % 256, 0, (a0_16) % 256] : List Int)) := ⟨_, rfl⟩
    replace H : ((rreq_word.f k a0_17).bind fun t108 => (if (strOfNums y105).size + t108.size ≤ 9223372036854775807 then (if ((strOfNums y105) ++ t108).size + a0_19.size ≤ 9223372036854775807 then ((rreq_word.f k a0_12).bind fun t109 => (if (((strOfNums y105) ++ t108) ++ a0_19).size + t109.size ≤ 9223372036854775807 then (if ((((strOfNums y105) ++ t108) ++ a0_19) ++ t109).size + a0_20.size ≤ 9223372036854775807 then ((rreq_word.f k a0_13).bind fun t110 => (if (((((strOfNums y105) ++ t108) ++ a0_19) ++ t109) ++ a0_20).size + t110.size ≤ 9223372036854775807 then (if ((((((strOfNums y105) ++ t108) ++ a0_19) ++ t109) ++ a0_20) ++ t110).size + t103.size ≤ 9223372036854775807 then (some (((((((strOfNums y105) ++ t108) ++ a0_19) ++ t109) ++ a0_20) ++ t110) ++ t103, true)) else (none)) else (none))) else (none)) else (none))) else (none)) else (none))) = some (r1, r2) := by first | (rw [hy105]; with_reducible exact H) | (have H2_ := (Option.bind_some _ _).symm.trans H; rw [hy105]; with_reducible exact H2_) | (have H2_ := (Option.bind_some _ _).symm.trans H; with_reducible exact H2_) | with_reducible exact H | (rw [hy105]; exact H) | exact H
    have Ny105 := Aside0.mk hy105
    clear hy105
    replace H := Option.bind_eq_some_iff.mp H
    obtain ⟨t108, A50, H⟩ := H
    replace H : (if (strOfNums y105).size + t108.size ≤ 9223372036854775807 then (if ((strOfNums y105) ++ t108).size + a0_19.size ≤ 9223372036854775807 then ((rreq_word.f k a0_12).bind fun t109 => (if (((strOfNums y105) ++ t108) ++ a0_19).size + t109.size ≤ 9223372036854775807 then (if ((((strOfNums y105) ++ t108) ++ a0_19) ++ t109).size + a0_20.size ≤ 9223372036854775807 then ((rreq_word.f k a0_13).bind fun t110 => (if (((((strOfNums y105) ++ t108) ++ a0_19) ++ t109) ++ a0_20).size + t110.size ≤ 9223372036854775807 then (if ((((((strOfNums y105) ++ t108) ++ a0_19) ++ t109) ++ a0_20) ++ t110).size + t103.size ≤ 9223372036854775807 then (some (((((((strOfNums y105) ++ t108) ++ a0_19) ++ t109) ++ a0_20) ++ t110) ++ t103, true)) else (none)) else (none))) else (none)) else (none))) else (none)) else (none)) = some (r1, r2) := H
    have A5 := Aside0.mk A50
    clear A50
    by_cases c6 : (strOfNums y105).size + t108.size ≤ 9223372036854775807
    · rw [if_pos c6] at H
      have c6b0 := eq_true c6
      have c6b1 : decide ((strOfNums y105).size + t108.size ≤ 9223372036854775807) = true := decide_eq_true c6
      try have c6b2 : (9223372036854775807 < (strOfNums y105).size + t108.size) = False := eq_false (Nat.not_lt.2 c6)
      try (have c6b3 := c6b2; simp only [ByteArray.size_append] at c6b3)
      by_cases c7 : ((strOfNums y105) ++ t108).size + a0_19.size ≤ 9223372036854775807
      · rw [if_pos c7] at H
        have c7b0 := eq_true c7
        have c7b1 : decide (((strOfNums y105) ++ t108).size + a0_19.size ≤ 9223372036854775807) = true := decide_eq_true c7
        try have c7b2 : (9223372036854775807 < ((strOfNums y105) ++ t108).size + a0_19.size) = False := eq_false (Nat.not_lt.2 c7)
        try (have c7b3 := c7b2; simp only [ByteArray.size_append] at c7b3)
        replace H := Option.bind_eq_some_iff.mp H
        obtain ⟨t109, A80, H⟩ := H
        replace H : (if (((strOfNums y105) ++ t108) ++ a0_19).size + t109.size ≤ 9223372036854775807 then (if ((((strOfNums y105) ++ t108) ++ a0_19) ++ t109).size + a0_20.size ≤ 9223372036854775807 then ((rreq_word.f k a0_13).bind fun t110 => (if (((((strOfNums y105) ++ t108) ++ a0_19) ++ t109) ++ a0_20).size + t110.size ≤ 9223372036854775807 then (if ((((((strOfNums y105) ++ t108) ++ a0_19) ++ t109) ++ a0_20) ++ t110).size + t103.size ≤ 9223372036854775807 then (some (((((((strOfNums y105) ++ t108) ++ a0_19) ++ t109) ++ a0_20) ++ t110) ++ t103, true)) else (none)) else (none))) else (none)) else (none)) = some (r1, r2) := H
        have A8 := Aside0.mk A80
        clear A80
        by_cases c9 : (((strOfNums y105) ++ t108) ++ a0_19).size + t109.size ≤ 9223372036854775807
        · rw [if_pos c9] at H
          have c9b0 := eq_true c9
          have c9b1 : decide ((((strOfNums y105) ++ t108) ++ a0_19).size + t109.size ≤ 9223372036854775807) = true := decide_eq_true c9
          try have c9b2 : (9223372036854775807 < (((strOfNums y105) ++ t108) ++ a0_19).size + t109.size) = False := eq_false (Nat.not_lt.2 c9)
          try (have c9b3 := c9b2; simp only [ByteArray.size_append] at c9b3)
          by_cases c10 : ((((strOfNums y105) ++ t108) ++ a0_19) ++ t109).size + a0_20.size ≤ 9223372036854775807
          · rw [if_pos c10] at H
            have c10b0 := eq_true c10
            have c10b1 : decide (((((strOfNums y105) ++ t108) ++ a0_19) ++ t109).size + a0_20.size ≤ 9223372036854775807) = true := decide_eq_true c10
            try have c10b2 : (9223372036854775807 < ((((strOfNums y105) ++ t108) ++ a0_19) ++ t109).size + a0_20.size) = False := eq_false (Nat.not_lt.2 c10)
            try (have c10b3 := c10b2; simp only [ByteArray.size_append] at c10b3)
            replace H := Option.bind_eq_some_iff.mp H
            obtain ⟨t110, A110, H⟩ := H
            replace H : (if (((((strOfNums y105) ++ t108) ++ a0_19) ++ t109) ++ a0_20).size + t110.size ≤ 9223372036854775807 then (if ((((((strOfNums y105) ++ t108) ++ a0_19) ++ t109) ++ a0_20) ++ t110).size + t103.size ≤ 9223372036854775807 then (some (((((((strOfNums y105) ++ t108) ++ a0_19) ++ t109) ++ a0_20) ++ t110) ++ t103, true)) else (none)) else (none)) = some (r1, r2) := H
            have A11 := Aside0.mk A110
            clear A110
            by_cases c12 : (((((strOfNums y105) ++ t108) ++ a0_19) ++ t109) ++ a0_20).size + t110.size ≤ 9223372036854775807
            · rw [if_pos c12] at H
              have c12b0 := eq_true c12
              have c12b1 : decide ((((((strOfNums y105) ++ t108) ++ a0_19) ++ t109) ++ a0_20).size + t110.size ≤ 9223372036854775807) = true := decide_eq_true c12
              try have c12b2 : (9223372036854775807 < (((((strOfNums y105) ++ t108) ++ a0_19) ++ t109) ++ a0_20).size + t110.size) = False := eq_false (Nat.not_lt.2 c12)
              try (have c12b3 := c12b2; simp only [ByteArray.size_append] at c12b3)
              by_cases c13 : ((((((strOfNums y105) ++ t108) ++ a0_19) ++ t109) ++ a0_20) ++ t110).size + t103.size ≤ 9223372036854775807
              · rw [if_pos c13] at H
                have c13b0 := eq_true c13
                have c13b1 : decide (((((((strOfNums y105) ++ t108) ++ a0_19) ++ t109) ++ a0_20) ++ t110).size + t103.size ≤ 9223372036854775807) = true := decide_eq_true c13
                try have c13b2 : (9223372036854775807 < ((((((strOfNums y105) ++ t108) ++ a0_19) ++ t109) ++ a0_20) ++ t110).size + t103.size) = False := eq_false (Nat.not_lt.2 c13)
                try (have c13b3 := c13b2; simp only [ByteArray.size_append] at c13b3)
                simp only [Option.some.injEq, Prod.mk.injEq] at H
                obtain ⟨rfl, rfl⟩ := H
                go_enter Try.func18, Try.ntmps18
                try go_wp2_with (first | ((with_reducible refine Go.Proofs.Ytccjakjjaemmkaa.Pre.gate_load 25 rfl ?_); (try (refine gate_guard (by rfl) ?_; dsimp only)); refine Go.Proofs.Ytccjakjjaemmkaa.Pre.load_event rfl rfl rfl (by rfl) (by first | ((with_reducible repeat (first | refine blk_drewN ?_ _ | refine blk_drew ?_ | refine blk_alloc ?_ _)); (with_reducible first | exact BK101.out)) | (apply Go.Proofs.Ytccjakjjaemmkaa.Pre.heap_norm; ((with_reducible repeat (first | refine blk_drewN ?_ _ | refine blk_drew ?_ | refine blk_alloc ?_ _ | apply Go.Proofs.Ytccjakjjaemmkaa.Pre.blk_set_)); (with_reducible first | exact BK101.out)); (first | (simp only [List.setIfInBounds_toArray, List.set_cons_zero, List.set_cons_succ]; done) | (simp only [List.setIfInBounds_toArray, List.set_cons_zero, List.set_cons_succ]; rfl) | rfl))) Try.underlying25 rfl (by kernel_rfl) ?_) | ((with_reducible refine gate_dst (N := 1) rfl ?_); refine box_event ?hg (N := 1) ?hd (cs := #[.int .i64 a0_0, .int .i64 a0_1, .int .i64 a0_2, .string a0_3, .int .i64 a0_4, .int .i64 a0_5, .string a0_6, .int .i64 a0_7, .int .i64 a0_8, .string a0_9, .int .i64 a0_10, .string a0_11, .int .i64 a0_12, .int .i64 a0_13, .int .i64 a0_14, .int .i64 a0_15, .int .i64 a0_16, .int .i64 a0_17, .int .i64 a0_18, .string a0_19, .string a0_20, .slice A0_21 l0_21.length c0_21, .int .i64 a0_22, .string a0_23, .slice A0_24 l0_24.length c0_24]) (t := 25) ?hr ?_; (case hd => rfl); (case hg => rfl); (case hr => first | (go_simp; done) | (go_simp; rfl)); intro gb101 hg w14 hbox hb; have n0_ := Aside0.mk (below_step (by repeat (first | (with_reducible first | exact HB.out | apply below_alloc | apply pw_below_drewN | apply below_drew1) | exact HB.out)) hb); have n1_ := Aside0.mk (hbox); have n2_ := Aside0.mk ((by rw [hg]; exact (below_size (by repeat (first | (with_reducible first | exact HB.out | apply below_alloc | apply pw_below_drewN | apply below_drew1) | exact HB.out))) : w.heap.size ≤ gb101)); have n3_ := Aside0.mk ((by rw [hg]; exact (below_size (by repeat (first | (with_reducible first | exact HB.out | apply below_alloc | apply pw_below_drewN | apply below_drew1) | exact HB.out))) : w.heap.size ≤ gb101)); clear HB; have HB := n0_; have BK101 := n1_; have GW101 := n2_; have GE101 := n3_; clear n0_ n1_ n2_ n3_; clear hb hbox hg; obtain ⟨hcz15_0, hcz15_1, hcz15_2, hcz15_3, hcz15_4, hcz15_5, hcz15_6, hcz15_7, hcz15_8, hcz15_9, hcz15_10, hcz15_11, hcz15_12, hcz15_13, hcz15_14, hcz15_15, hcz15_16, hcz15_17, hcz15_18, hcz15_19, hcz15_20, hcz15_21, hcz15_22, hcz15_23, hcz15_24, hfz15_0, hfz15_1, hfz15_2, hfz15_3, hfz15_4, hfz15_5, hfz15_6, hfz15_7, hfz15_8, hfz15_9, hfz15_10, hfz15_11, hfz15_12, hfz15_13, hfz15_14, hfz15_15, hfz15_16, hfz15_17, hfz15_18, hfz15_19, hfz15_20, hfz15_21, hfz15_22, hfz15_23, hfz15_24⟩ := cells_25 BK101.out) | ((with_reducible refine gate_callee (f := 20) rfl ?_); refine goesL_ (some 8) rfl rfl Try.func20 (by kernel_rfl) rfl #[.agg #[.int .i64 a0_0, .int .i64 a0_1, .int .i64 a0_2, .string a0_3, .int .i64 a0_4, .int .i64 a0_5, .string a0_6, .int .i64 a0_7, .int .i64 a0_8, .string a0_9, .int .i64 a0_10, .string a0_11, .int .i64 a0_12, .int .i64 a0_13, .int .i64 a0_14, .int .i64 a0_15, .int .i64 a0_16, .int .i64 a0_17, .int .i64 a0_18, .string a0_19, .string a0_20, .slice A0_21 l0_21.length c0_21, .int .i64 a0_22, .string a0_23, .slice A0_24 l0_24.length c0_24]] rfl (by (try simp only [List.map_toArray, List.map_cons, List.map_nil]); first | done | rfl | (simp only [List.length_drop, List.length_take]; rfl)) ?_; (with_reducible refine (rreq_Right.calls k a0_0 a0_1 a0_2 a0_3 a0_4 a0_5 a0_6 a0_7 a0_8 a0_9 a0_10 a0_11 a0_12 a0_13 a0_14 a0_15 a0_16 a0_17 a0_18 a0_19 a0_20 _ _ l0_21 a0_22 a0_23 _ _ l0_24 true _ ?side1 ?side2 ?side3 ?side4 A2.out).mono ?_); (case side1 => repeat (first | exact (Kd.C_below HR0_21.out HB.out) | (with_reducible refine Kd.C_alloc ?_ _) | (with_reducible refine Kd.C_drewN ?_ _) | (with_reducible refine Kd.C_drew ?_))); (case side2 => exact HC0_21.out); (case side3 => repeat (first | exact (Kd.C_below HR0_24.out HB.out) | (with_reducible refine Kd.C_alloc ?_ _) | (with_reducible refine Kd.C_drewN ?_ _) | (with_reducible refine Kd.C_drew ?_))); (case side4 => exact HC0_24.out); rintro e w16 ⟨rfl, hb⟩; refine ⟨_, rfl, ?_⟩; have n0_ := Aside0.mk (blk_below (g := gb101) (by (with_reducible repeat (first | refine blk_drewN ?_ _ | refine blk_drew ?_ | refine blk_alloc ?_ _)); exact BK101.out) hb); have n1_ := Aside0.mk (below_step (by repeat (first | (with_reducible first | exact HB.out | apply below_alloc | apply pw_below_drewN | apply below_drew1 | refine below_set ?_ GE101.out) | exact HB.out)) hb); clear BK101; clear HB; have BK101 := n0_; have HB := n1_; clear n0_ n1_; (try clear hb); (try clear hb2); (try clear hk); (try clear hi); obtain ⟨hcz17_0, hcz17_1, hcz17_2, hcz17_3, hcz17_4, hcz17_5, hcz17_6, hcz17_7, hcz17_8, hcz17_9, hcz17_10, hcz17_11, hcz17_12, hcz17_13, hcz17_14, hcz17_15, hcz17_16, hcz17_17, hcz17_18, hcz17_19, hcz17_20, hcz17_21, hcz17_22, hcz17_23, hcz17_24, hfz17_0, hfz17_1, hfz17_2, hfz17_3, hfz17_4, hfz17_5, hfz17_6, hfz17_7, hfz17_8, hfz17_9, hfz17_10, hfz17_11, hfz17_12, hfz17_13, hfz17_14, hfz17_15, hfz17_16, hfz17_17, hfz17_18, hfz17_19, hfz17_20, hfz17_21, hfz17_22, hfz17_23, hfz17_24⟩ := cells_25 BK101.out) | ((with_reducible refine gate_callee (f := 49) rfl ?_); refine goesL_ (some 13) rfl rfl Try.func49 (by kernel_rfl) rfl #[.slice A0_24 l0_24.length c0_24] rfl (by (try simp only [List.map_toArray, List.map_cons, List.map_nil]); first | done | rfl | (simp only [List.length_drop, List.length_take]; rfl)) ?_; (with_reducible refine (ext_Put.calls k _ _ l0_24 t103 t104 _ ?side1 ?side2 A4.out).mono ?_); (case side1 => repeat (first | exact (Kd.C_below HR0_24.out HB.out) | (with_reducible refine Kd.C_alloc ?_ _) | (with_reducible refine Kd.C_drewN ?_ _) | (with_reducible refine Kd.C_drew ?_))); (case side2 => exact HC0_24.out); rintro e w18 ⟨rfl, hb⟩; refine ⟨_, rfl, ?_⟩; have n0_ := Aside0.mk (blk_below (g := gb101) (by (with_reducible repeat (first | refine blk_drewN ?_ _ | refine blk_drew ?_ | refine blk_alloc ?_ _)); exact BK101.out) hb); have n1_ := Aside0.mk (below_step (by repeat (first | (with_reducible first | exact HB.out | apply below_alloc | apply pw_below_drewN | apply below_drew1 | refine below_set ?_ GE101.out) | exact HB.out)) hb); clear BK101; clear HB; have BK101 := n0_; have HB := n1_; clear n0_ n1_; (try clear hb); (try clear hb2); (try clear hk); (try clear hi); obtain ⟨hcz19_0, hcz19_1, hcz19_2, hcz19_3, hcz19_4, hcz19_5, hcz19_6, hcz19_7, hcz19_8, hcz19_9, hcz19_10, hcz19_11, hcz19_12, hcz19_13, hcz19_14, hcz19_15, hcz19_16, hcz19_17, hcz19_18, hcz19_19, hcz19_20, hcz19_21, hcz19_22, hcz19_23, hcz19_24, hfz19_0, hfz19_1, hfz19_2, hfz19_3, hfz19_4, hfz19_5, hfz19_6, hfz19_7, hfz19_8, hfz19_9, hfz19_10, hfz19_11, hfz19_12, hfz19_13, hfz19_14, hfz19_15, hfz19_16, hfz19_17, hfz19_18, hfz19_19, hfz19_20, hfz19_21, hfz19_22, hfz19_23, hfz19_24⟩ := cells_25 BK101.out) | ((with_reducible refine gate_dst (N := 23) rfl ?_); refine Kd.R_lit (Kd.int .u8) _ 5 ?hg (N := 23) ?hd (xs := ([1, (wrap64 (a0_15 * 8)) % 256, 0, (a0_16) % 256] : List Int)) (inner := [.int .u8 1, .int .u8 ((wrap64 (a0_15 * 8)) % 256), .int .u8 0, .int .u8 ((a0_16) % 256)]) (ok := fun _ => True) (okp := fun _ => True) ?hr ?hp (fun _ hk => hk) trivial (Below.refl _ _) (Nat.le_refl _) (by simp) ?_; (case hd => rfl); (case hg => rfl); (case hr => first | (go_simp; done) | (go_simp; rfl)); (case hp => exact (Reps.one (show Kd.M (Kd.int .u8) _ _ _ 1 [.int .u8 1] from rfl) (Reps.one (show Kd.M (Kd.int .u8) _ _ _ ((wrap64 (a0_15 * 8)) % 256) [.int .u8 ((wrap64 (a0_15 * 8)) % 256)] from rfl) (Reps.one (show Kd.M (Kd.int .u8) _ _ _ 0 [.int .u8 0] from rfl) (Reps.one (show Kd.M (Kd.int .u8) _ _ _ ((a0_16) % 256) [.int .u8 ((a0_16) % 256)] from rfl) (Reps.none _ _)))))); intro v106 w20 ho21 hb hg_ hnew_; clear hg_ hnew_; (first | rw [← Ny105.out] at ho21 | (simp only [Int.reduceToNat] at ho21; rw [← Ny105.out] at ho21)); have n0_ := Aside0.mk (Kd.R_lower ho21 (below_size (by repeat (first | (with_reducible first | exact HB.out | apply below_alloc | apply pw_below_drewN | apply below_drew1 | refine below_set ?_ GE101.out) | exact HB.out)))); have n1_ := Aside0.mk (blk_below (g := gb101) (by (with_reducible repeat (first | refine blk_drewN ?_ _ | refine blk_drew ?_ | refine blk_alloc ?_ _)); exact BK101.out) hb); have n2_ := Aside0.mk (below_step (by repeat (first | (with_reducible first | exact HB.out | apply below_alloc | apply pw_below_drewN | apply below_drew1 | refine below_set ?_ GE101.out) | exact HB.out)) hb); clear BK101; clear HB; have HO107 := n0_; have BK101 := n1_; have HB := n2_; clear n0_ n1_ n2_; clear hb ho21; have hcv22 := own_string (P := Try.prog) Try.underlying51 Try.underlying5 Try.underlying9 (Kd.own_of_R HO107.out)))
                have n0_ := Aside0.mk (Kd.R_drew HO107.out)
                have n1_ := Aside0.mk (blk_drew BK101.out)
                have n2_ := Aside0.mk (below_drew1 HB.out)
                clear HO107
                clear BK101
                clear HB
                have HO107 := n0_
                have BK101 := n1_
                have HB := n2_
                clear n0_ n1_ n2_
                refine start_ (n := 23) (S := fun w' => w'.cell? ⟨gb101, 0, none⟩ = some (.int .i64 a0_0) ∧ w'.cell? ⟨gb101, 1, none⟩ = some (.int .i64 a0_1) ∧ w'.cell? ⟨gb101, 2, none⟩ = some (.int .i64 a0_2) ∧ w'.cell? ⟨gb101, 3, none⟩ = some (.string a0_3) ∧ w'.cell? ⟨gb101, 4, none⟩ = some (.int .i64 a0_4) ∧ w'.cell? ⟨gb101, 5, none⟩ = some (.int .i64 a0_5) ∧ w'.cell? ⟨gb101, 6, none⟩ = some (.string a0_6) ∧ w'.cell? ⟨gb101, 7, none⟩ = some (.int .i64 a0_7) ∧ w'.cell? ⟨gb101, 8, none⟩ = some (.int .i64 a0_8) ∧ w'.cell? ⟨gb101, 9, none⟩ = some (.string a0_9) ∧ w'.cell? ⟨gb101, 10, none⟩ = some (.int .i64 a0_10) ∧ w'.cell? ⟨gb101, 11, none⟩ = some (.string a0_11) ∧ w'.cell? ⟨gb101, 12, none⟩ = some (.int .i64 a0_12) ∧ w'.cell? ⟨gb101, 13, none⟩ = some (.int .i64 a0_13) ∧ w'.cell? ⟨gb101, 14, none⟩ = some (.int .i64 a0_14) ∧ w'.cell? ⟨gb101, 15, none⟩ = some (.int .i64 a0_15) ∧ w'.cell? ⟨gb101, 16, none⟩ = some (.int .i64 a0_16) ∧ w'.cell? ⟨gb101, 17, none⟩ = some (.int .i64 a0_17) ∧ w'.cell? ⟨gb101, 18, none⟩ = some (.int .i64 a0_18) ∧ w'.cell? ⟨gb101, 19, none⟩ = some (.string a0_19) ∧ w'.cell? ⟨gb101, 20, none⟩ = some (.string a0_20) ∧ w'.cell? ⟨gb101, 21, none⟩ = some (.slice A0_21 l0_21.length c0_21) ∧ w'.cell? ⟨gb101, 22, none⟩ = some (.int .i64 a0_22) ∧ w'.cell? ⟨gb101, 23, none⟩ = some (.string a0_23) ∧ w'.cell? ⟨gb101, 24, none⟩ = some (.slice A0_24 l0_24.length c0_24)) (ds := []) #[false, false, false, false, false, false, false, false, false, false, false, false, false, false, false, false, false, false, false, false, false, false, false] (by kernel_rfl) rfl rfl ⟨(blk_cell BK101.out 0).trans rfl, (blk_cell BK101.out 1).trans rfl, (blk_cell BK101.out 2).trans rfl, (blk_cell BK101.out 3).trans rfl, (blk_cell BK101.out 4).trans rfl, (blk_cell BK101.out 5).trans rfl, (blk_cell BK101.out 6).trans rfl, (blk_cell BK101.out 7).trans rfl, (blk_cell BK101.out 8).trans rfl, (blk_cell BK101.out 9).trans rfl, (blk_cell BK101.out 10).trans rfl, (blk_cell BK101.out 11).trans rfl, (blk_cell BK101.out 12).trans rfl, (blk_cell BK101.out 13).trans rfl, (blk_cell BK101.out 14).trans rfl, (blk_cell BK101.out 15).trans rfl, (blk_cell BK101.out 16).trans rfl, (blk_cell BK101.out 17).trans rfl, (blk_cell BK101.out 18).trans rfl, (blk_cell BK101.out 19).trans rfl, (blk_cell BK101.out 20).trans rfl, (blk_cell BK101.out 21).trans rfl, (blk_cell BK101.out 22).trans rfl, (blk_cell BK101.out 23).trans rfl, (blk_cell BK101.out 24).trans rfl⟩ (fun hHeld => ?_); refine with_tabW rreq_Put.tab5 rreq_Put.bits5 (fun HT_ HW_ => ?_)
                generalize w20.drew = w23 at HO107 BK101 HB hHeld ⊢
                refine pure_ (i := 0) (N := some 25) (v := ?_) (a' := ?_) #[true, false, false, false, false, false, false, false, false, false, false, false, false, false, false, false, false, false, false, false, false, false, false] rfl rfl (any_of HT_.out (by kernel_rfl)) (fun _ _ _ h => h) (Or.inl ⟨by rfl, ?_⟩) ?_ ?_
                rotate_left
                · intro w'
                  go_simp
                  with_reducible rfl
                rotate_left
                · simp only [Act.put, List.setIfInBounds_toArray, List.set_cons_zero, List.set_cons_succ, i64_w, i32_w]
                  rfl
                refine pure_ (i := 1) (N := some 26) (v := ?_) (a' := ?_) #[true, true, false, false, false, false, false, false, false, false, false, false, false, false, false, false, false, false, false, false, false, false, false] rfl rfl (any_of HT_.out (by kernel_rfl)) (fun _ _ _ h => h) (Or.inl ⟨by rfl, ?_⟩) ?_ ?_
                rotate_left
                · intro w'
                  go_simp
                  with_reducible rfl
                rotate_left
                · simp only [Act.put, List.setIfInBounds_toArray, List.set_cons_zero, List.set_cons_succ, i64_w, i32_w]
                  rfl
                refine pure_ (i := 5) (N := some 30) (v := ?_) (a' := ?_) #[true, true, false, false, false, true, false, false, false, false, false, false, false, false, false, false, false, false, false, false, false, false, false] rfl rfl (any_of HT_.out (by kernel_rfl)) (fun _ _ _ h => h) (Or.inl ⟨by rfl, ?_⟩) ?_ ?_
                rotate_left
                · intro w'
                  go_simp
                  with_reducible rfl
                rotate_left
                · simp only [Act.put, List.setIfInBounds_toArray, List.set_cons_zero, List.set_cons_succ, i64_w, i32_w]
                  rfl
                refine pure_ (i := 8) (N := some 33) (v := ?_) (a' := ?_) #[true, true, false, false, false, true, false, false, true, false, false, false, false, false, false, false, false, false, false, false, false, false, false] rfl rfl (any_of HT_.out (by kernel_rfl)) (fun _ _ _ h => h) (Or.inl ⟨by rfl, ?_⟩) ?_ ?_
                rotate_left
                · intro w'
                  go_simp
                  with_reducible rfl
                rotate_left
                · simp only [Act.put, List.setIfInBounds_toArray, List.set_cons_zero, List.set_cons_succ, i64_w, i32_w]
                  rfl
                refine pure_ (i := 12) (N := some 37) (v := ?_) (a' := ?_) #[true, true, false, false, false, true, false, false, true, false, false, false, true, false, false, false, false, false, false, false, false, false, false] rfl rfl (any_of HT_.out (by kernel_rfl)) (fun _ _ _ h => h) (Or.inl ⟨by rfl, ?_⟩) ?_ ?_
                rotate_left
                · intro w'
                  go_simp
                  with_reducible rfl
                rotate_left
                · simp only [Act.put, List.setIfInBounds_toArray, List.set_cons_zero, List.set_cons_succ, i64_w, i32_w]
                  rfl
                refine pure_ (i := 15) (N := some 40) (v := ?_) (a' := ?_) #[true, true, false, false, false, true, false, false, true, false, false, false, true, false, false, true, false, false, false, false, false, false, false] rfl rfl (any_of HT_.out (by kernel_rfl)) (fun _ _ _ h => h) (Or.inl ⟨by rfl, ?_⟩) ?_ ?_
                rotate_left
                · intro w'
                  go_simp
                  with_reducible rfl
                rotate_left
                · simp only [Act.put, List.setIfInBounds_toArray, List.set_cons_zero, List.set_cons_succ, i64_w, i32_w]
                  rfl
                refine pure_ (i := 19) (N := some 44) (v := ?_) (a' := ?_) #[true, true, false, false, false, true, false, false, true, false, false, false, true, false, false, true, false, false, false, true, false, false, false] rfl rfl (any_of HT_.out (by kernel_rfl)) (fun _ _ _ h => h) (Or.inl ⟨by rfl, ?_⟩) ?_ ?_
                rotate_left
                · intro w'
                  go_simp
                  with_reducible rfl
                rotate_left
                · simp only [Act.put, List.setIfInBounds_toArray, List.set_cons_zero, List.set_cons_succ, i64_w, i32_w]
                  rfl
                refine take_ (i := 2) (N := some 27) (v := ?_) (a' := ?_) #[true, true, true, false, false, true, false, false, true, false, false, false, true, false, false, true, false, false, false, true, false, false, false] rfl rfl (take_ofW HT_.out HW_.out (by kernel_rfl)) (fun _ _ _ h => h) (Or.inl ⟨by rfl, ?_⟩) hHeld ?_ ?_
                rotate_left
                · rintro w' ⟨s0, s1, s2, s3, s4, s5, s6, s7, s8, s9, s10, s11, s12, s13, s14, s15, s16, s17, s18, s19, s20, s21, s22, s23, s24⟩
                  go_simp
                  with_reducible rfl
                rotate_left
                · simp only [Act.put, List.setIfInBounds_toArray, List.set_cons_zero, List.set_cons_succ, i64_w, i32_w]
                  rfl
                refine take_ (i := 6) (N := some 31) (v := ?_) (a' := ?_) #[true, true, true, false, false, true, true, false, true, false, false, false, true, false, false, true, false, false, false, true, false, false, false] rfl rfl (take_ofW HT_.out HW_.out (by kernel_rfl)) (fun _ _ _ h => h) (Or.inl ⟨by rfl, ?_⟩) hHeld ?_ ?_
                rotate_left
                · rintro w' ⟨s0, s1, s2, s3, s4, s5, s6, s7, s8, s9, s10, s11, s12, s13, s14, s15, s16, s17, s18, s19, s20, s21, s22, s23, s24⟩
                  go_simp
                  with_reducible rfl
                rotate_left
                · simp only [Act.put, List.setIfInBounds_toArray, List.set_cons_zero, List.set_cons_succ, i64_w, i32_w]
                  rfl
                refine take_ (i := 9) (N := some 34) (v := ?_) (a' := ?_) #[true, true, true, false, false, true, true, false, true, true, false, false, true, false, false, true, false, false, false, true, false, false, false] rfl rfl (take_ofW HT_.out HW_.out (by kernel_rfl)) (fun _ _ _ h => h) (Or.inl ⟨by rfl, ?_⟩) hHeld ?_ ?_
                rotate_left
                · rintro w' ⟨s0, s1, s2, s3, s4, s5, s6, s7, s8, s9, s10, s11, s12, s13, s14, s15, s16, s17, s18, s19, s20, s21, s22, s23, s24⟩
                  go_simp
                  with_reducible rfl
                rotate_left
                · simp only [Act.put, List.setIfInBounds_toArray, List.set_cons_zero, List.set_cons_succ, i64_w, i32_w]
                  rfl
                refine take_ (i := 13) (N := some 38) (v := ?_) (a' := ?_) #[true, true, true, false, false, true, true, false, true, true, false, false, true, true, false, true, false, false, false, true, false, false, false] rfl rfl (take_ofW HT_.out HW_.out (by kernel_rfl)) (fun _ _ _ h => h) (Or.inl ⟨by rfl, ?_⟩) hHeld ?_ ?_
                rotate_left
                · rintro w' ⟨s0, s1, s2, s3, s4, s5, s6, s7, s8, s9, s10, s11, s12, s13, s14, s15, s16, s17, s18, s19, s20, s21, s22, s23, s24⟩
                  go_simp
                  with_reducible rfl
                rotate_left
                · simp only [Act.put, List.setIfInBounds_toArray, List.set_cons_zero, List.set_cons_succ, i64_w, i32_w]
                  rfl
                refine take_ (i := 16) (N := some 41) (v := ?_) (a' := ?_) #[true, true, true, false, false, true, true, false, true, true, false, false, true, true, false, true, true, false, false, true, false, false, false] rfl rfl (take_ofW HT_.out HW_.out (by kernel_rfl)) (fun _ _ _ h => h) (Or.inl ⟨by rfl, ?_⟩) hHeld ?_ ?_
                rotate_left
                · rintro w' ⟨s0, s1, s2, s3, s4, s5, s6, s7, s8, s9, s10, s11, s12, s13, s14, s15, s16, s17, s18, s19, s20, s21, s22, s23, s24⟩
                  go_simp
                  with_reducible rfl
                rotate_left
                · simp only [Act.put, List.setIfInBounds_toArray, List.set_cons_zero, List.set_cons_succ, i64_w, i32_w]
                  rfl
                refine one_ (i := 3) (N := some 28) #[true, true, true, true, false, true, true, false, true, true, false, false, true, true, false, true, true, false, false, true, false, false, false] rfl rfl (one_of HT_.out (by kernel_rfl)) (by decide) (fun K hK => ?_)
                refine goes_ Try.func50 (by kernel_rfl) rfl #[.int .i64 a0_17] (by rfl) rfl rfl (by (try simp only [List.map_toArray, List.map_cons, List.map_nil]); first | done | rfl | (simp only [List.length_drop, List.length_take]; rfl)) ?_
                with_reducible refine (rreq_word.calls k a0_17 t108 _ A5.out).mono ?_
                rintro e w24 ⟨rfl, hb⟩
                refine ⟨_, rfl, ?_⟩
                have n0_ := Aside0.mk (Kd.R_below (by (with_reducible repeat (first | apply Kd.R_alloc | apply Kd.R_drewN | apply Kd.R_drew)); exact HO107.out) hb)
                have n1_ := Aside0.mk (blk_below (g := gb101) (by (with_reducible repeat (first | refine blk_drewN ?_ _ | refine blk_drew ?_ | refine blk_alloc ?_ _)); exact BK101.out) hb)
                have n2_ := Aside0.mk (below_step (by repeat (first | (with_reducible first | exact HB.out | apply below_alloc | apply pw_below_drewN | apply below_drew1 | refine below_set ?_ GE101.out) | exact HB.out)) hb)
                clear HO107
                clear BK101
                clear HB
                have HO107 := n0_
                have BK101 := n1_
                have HB := n2_
                clear n0_ n1_ n2_
                (try clear hb)
                (try clear hb2)
                (try clear hk)
                (try clear hi)
                refine hK.out _ _ ⟨(blk_cell BK101.out 0).trans rfl, (blk_cell BK101.out 1).trans rfl, (blk_cell BK101.out 2).trans rfl, (blk_cell BK101.out 3).trans rfl, (blk_cell BK101.out 4).trans rfl, (blk_cell BK101.out 5).trans rfl, (blk_cell BK101.out 6).trans rfl, (blk_cell BK101.out 7).trans rfl, (blk_cell BK101.out 8).trans rfl, (blk_cell BK101.out 9).trans rfl, (blk_cell BK101.out 10).trans rfl, (blk_cell BK101.out 11).trans rfl, (blk_cell BK101.out 12).trans rfl, (blk_cell BK101.out 13).trans rfl, (blk_cell BK101.out 14).trans rfl, (blk_cell BK101.out 15).trans rfl, (blk_cell BK101.out 16).trans rfl, (blk_cell BK101.out 17).trans rfl, (blk_cell BK101.out 18).trans rfl, (blk_cell BK101.out 19).trans rfl, (blk_cell BK101.out 20).trans rfl, (blk_cell BK101.out 21).trans rfl, (blk_cell BK101.out 22).trans rfl, (blk_cell BK101.out 23).trans rfl, (blk_cell BK101.out 24).trans rfl⟩ (fun hHeld => ?_)
                clear hK K
                refine norm_ (a' := ?_) ?_ ?_
                rotate_left
                · show Act.put _ (some 28) _ = _
                  simp only [Act.put, List.setIfInBounds_toArray, List.set_cons_zero, List.set_cons_succ, i64_w, i32_w]
                  rfl
                refine pure_ (i := 4) (N := some 29) (v := ?_) (a' := ?_) #[true, true, true, true, true, true, true, false, true, true, false, false, true, true, false, true, true, false, false, true, false, false, false] rfl rfl (any_of HT_.out (by kernel_rfl)) (fun _ _ _ h => h) (Or.inl ⟨by rfl, ?_⟩) ?_ ?_
                rotate_left
                · intro w'
                  go_simp
                  with_reducible rfl
                rotate_left
                · simp only [Act.put, List.setIfInBounds_toArray, List.set_cons_zero, List.set_cons_succ, i64_w, i32_w]
                  rfl
                refine pure_ (i := 7) (N := some 32) (v := ?_) (a' := ?_) #[true, true, true, true, true, true, true, true, true, true, false, false, true, true, false, true, true, false, false, true, false, false, false] rfl rfl (any_of HT_.out (by kernel_rfl)) (fun _ _ _ h => h) (Or.inl ⟨by rfl, ?_⟩) ?_ ?_
                rotate_left
                · intro w'
                  go_simp
                  with_reducible rfl
                rotate_left
                · simp only [Act.put, List.setIfInBounds_toArray, List.set_cons_zero, List.set_cons_succ, i64_w, i32_w]
                  rfl
                refine one_ (i := 10) (N := some 35) #[true, true, true, true, true, true, true, true, true, true, true, false, true, true, false, true, true, false, false, true, false, false, false] rfl rfl (one_of HT_.out (by kernel_rfl)) (by decide) (fun K hK => ?_)
                refine goes_ Try.func50 (by kernel_rfl) rfl #[.int .i64 a0_12] (by rfl) rfl rfl (by (try simp only [List.map_toArray, List.map_cons, List.map_nil]); first | done | rfl | (simp only [List.length_drop, List.length_take]; rfl)) ?_
                with_reducible refine (rreq_word.calls k a0_12 t109 _ A8.out).mono ?_
                rintro e w25 ⟨rfl, hb⟩
                refine ⟨_, rfl, ?_⟩
                have n0_ := Aside0.mk (Kd.R_below (by (with_reducible repeat (first | apply Kd.R_alloc | apply Kd.R_drewN | apply Kd.R_drew)); exact HO107.out) hb)
                have n1_ := Aside0.mk (blk_below (g := gb101) (by (with_reducible repeat (first | refine blk_drewN ?_ _ | refine blk_drew ?_ | refine blk_alloc ?_ _)); exact BK101.out) hb)
                have n2_ := Aside0.mk (below_step (by repeat (first | (with_reducible first | exact HB.out | apply below_alloc | apply pw_below_drewN | apply below_drew1 | refine below_set ?_ GE101.out) | exact HB.out)) hb)
                clear HO107
                clear BK101
                clear HB
                have HO107 := n0_
                have BK101 := n1_
                have HB := n2_
                clear n0_ n1_ n2_
                (try clear hb)
                (try clear hb2)
                (try clear hk)
                (try clear hi)
                refine hK.out _ _ ⟨(blk_cell BK101.out 0).trans rfl, (blk_cell BK101.out 1).trans rfl, (blk_cell BK101.out 2).trans rfl, (blk_cell BK101.out 3).trans rfl, (blk_cell BK101.out 4).trans rfl, (blk_cell BK101.out 5).trans rfl, (blk_cell BK101.out 6).trans rfl, (blk_cell BK101.out 7).trans rfl, (blk_cell BK101.out 8).trans rfl, (blk_cell BK101.out 9).trans rfl, (blk_cell BK101.out 10).trans rfl, (blk_cell BK101.out 11).trans rfl, (blk_cell BK101.out 12).trans rfl, (blk_cell BK101.out 13).trans rfl, (blk_cell BK101.out 14).trans rfl, (blk_cell BK101.out 15).trans rfl, (blk_cell BK101.out 16).trans rfl, (blk_cell BK101.out 17).trans rfl, (blk_cell BK101.out 18).trans rfl, (blk_cell BK101.out 19).trans rfl, (blk_cell BK101.out 20).trans rfl, (blk_cell BK101.out 21).trans rfl, (blk_cell BK101.out 22).trans rfl, (blk_cell BK101.out 23).trans rfl, (blk_cell BK101.out 24).trans rfl⟩ (fun hHeld => ?_)
                clear hK K
                refine norm_ (a' := ?_) ?_ ?_
                rotate_left
                · show Act.put _ (some 35) _ = _
                  simp only [Act.put, List.setIfInBounds_toArray, List.set_cons_zero, List.set_cons_succ, i64_w, i32_w]
                  rfl
                refine pure_ (i := 11) (N := some 36) (v := ?_) (a' := ?_) #[true, true, true, true, true, true, true, true, true, true, true, true, true, true, false, true, true, false, false, true, false, false, false] rfl rfl (any_of HT_.out (by kernel_rfl)) (fun _ _ _ h => h) (Or.inl ⟨by rfl, ?_⟩) ?_ ?_
                rotate_left
                · intro w'
                  go_simp
                  with_reducible rfl
                rotate_left
                · simp only [Act.put, List.setIfInBounds_toArray, List.set_cons_zero, List.set_cons_succ, i64_w, i32_w]
                  rfl
                refine pure_ (i := 14) (N := some 39) (v := ?_) (a' := ?_) #[true, true, true, true, true, true, true, true, true, true, true, true, true, true, true, true, true, false, false, true, false, false, false] rfl rfl (any_of HT_.out (by kernel_rfl)) (fun _ _ _ h => h) (Or.inl ⟨by rfl, ?_⟩) ?_ ?_
                rotate_left
                · intro w'
                  go_simp
                  with_reducible rfl
                rotate_left
                · simp only [Act.put, List.setIfInBounds_toArray, List.set_cons_zero, List.set_cons_succ, i64_w, i32_w]
                  rfl
                refine one_ (i := 17) (N := some 42) #[true, true, true, true, true, true, true, true, true, true, true, true, true, true, true, true, true, true, false, true, false, false, false] rfl rfl (one_of HT_.out (by kernel_rfl)) (by decide) (fun K hK => ?_)
                refine goes_ Try.func50 (by kernel_rfl) rfl #[.int .i64 a0_13] (by rfl) rfl rfl (by (try simp only [List.map_toArray, List.map_cons, List.map_nil]); first | done | rfl | (simp only [List.length_drop, List.length_take]; rfl)) ?_
                with_reducible refine (rreq_word.calls k a0_13 t110 _ A11.out).mono ?_
                rintro e w26 ⟨rfl, hb⟩
                refine ⟨_, rfl, ?_⟩
                have n0_ := Aside0.mk (Kd.R_below (by (with_reducible repeat (first | apply Kd.R_alloc | apply Kd.R_drewN | apply Kd.R_drew)); exact HO107.out) hb)
                have n1_ := Aside0.mk (blk_below (g := gb101) (by (with_reducible repeat (first | refine blk_drewN ?_ _ | refine blk_drew ?_ | refine blk_alloc ?_ _)); exact BK101.out) hb)
                have n2_ := Aside0.mk (below_step (by repeat (first | (with_reducible first | exact HB.out | apply below_alloc | apply pw_below_drewN | apply below_drew1 | refine below_set ?_ GE101.out) | exact HB.out)) hb)
                clear HO107
                clear BK101
                clear HB
                have HO107 := n0_
                have BK101 := n1_
                have HB := n2_
                clear n0_ n1_ n2_
                (try clear hb)
                (try clear hb2)
                (try clear hk)
                (try clear hi)
                refine hK.out _ _ ⟨(blk_cell BK101.out 0).trans rfl, (blk_cell BK101.out 1).trans rfl, (blk_cell BK101.out 2).trans rfl, (blk_cell BK101.out 3).trans rfl, (blk_cell BK101.out 4).trans rfl, (blk_cell BK101.out 5).trans rfl, (blk_cell BK101.out 6).trans rfl, (blk_cell BK101.out 7).trans rfl, (blk_cell BK101.out 8).trans rfl, (blk_cell BK101.out 9).trans rfl, (blk_cell BK101.out 10).trans rfl, (blk_cell BK101.out 11).trans rfl, (blk_cell BK101.out 12).trans rfl, (blk_cell BK101.out 13).trans rfl, (blk_cell BK101.out 14).trans rfl, (blk_cell BK101.out 15).trans rfl, (blk_cell BK101.out 16).trans rfl, (blk_cell BK101.out 17).trans rfl, (blk_cell BK101.out 18).trans rfl, (blk_cell BK101.out 19).trans rfl, (blk_cell BK101.out 20).trans rfl, (blk_cell BK101.out 21).trans rfl, (blk_cell BK101.out 22).trans rfl, (blk_cell BK101.out 23).trans rfl, (blk_cell BK101.out 24).trans rfl⟩ (fun hHeld => ?_)
                clear hK K
                refine norm_ (a' := ?_) ?_ ?_
                rotate_left
                · show Act.put _ (some 42) _ = _
                  simp only [Act.put, List.setIfInBounds_toArray, List.set_cons_zero, List.set_cons_succ, i64_w, i32_w]
                  rfl
                refine pure_ (i := 18) (N := some 43) (v := ?_) (a' := ?_) #[true, true, true, true, true, true, true, true, true, true, true, true, true, true, true, true, true, true, true, true, false, false, false] rfl rfl (any_of HT_.out (by kernel_rfl)) (fun _ _ _ h => h) (Or.inl ⟨by rfl, ?_⟩) ?_ ?_
                rotate_left
                · intro w'
                  go_simp
                  with_reducible rfl
                rotate_left
                · simp only [Act.put, List.setIfInBounds_toArray, List.set_cons_zero, List.set_cons_succ, i64_w, i32_w]
                  rfl
                refine pure_ (i := 20) (N := some 45) (v := ?_) (a' := ?_) #[true, true, true, true, true, true, true, true, true, true, true, true, true, true, true, true, true, true, true, true, true, false, false] rfl rfl (any_of HT_.out (by kernel_rfl)) (fun _ _ _ h => h) (Or.inl ⟨by rfl, ?_⟩) ?_ ?_
                rotate_left
                · intro w'
                  go_simp
                  with_reducible rfl
                rotate_left
                · simp only [Act.put, List.setIfInBounds_toArray, List.set_cons_zero, List.set_cons_succ, i64_w, i32_w]
                  rfl
                refine pure_ (i := 21) (N := some 2) (v := ?_) (a' := ?_) #[true, true, true, true, true, true, true, true, true, true, true, true, true, true, true, true, true, true, true, true, true, true, false] rfl rfl (any_of HT_.out (by kernel_rfl)) (fun _ _ _ h => h) (Or.inl ⟨by rfl, ?_⟩) ?_ ?_
                rotate_left
                · intro w'
                  go_simp
                  with_reducible rfl
                rotate_left
                · simp only [Act.put, List.setIfInBounds_toArray, List.set_cons_zero, List.set_cons_succ, i64_w, i32_w]
                  rfl
                refine pure_ (i := 22) (N := some 3) (v := ?_) (a' := ?_) #[true, true, true, true, true, true, true, true, true, true, true, true, true, true, true, true, true, true, true, true, true, true, true] rfl rfl (any_of HT_.out (by kernel_rfl)) (fun _ _ _ h => h) (Or.inl ⟨by rfl, ?_⟩) ?_ ?_
                rotate_left
                · intro w'
                  go_simp
                  with_reducible rfl
                rotate_left
                · simp only [Act.put, List.setIfInBounds_toArray, List.set_cons_zero, List.set_cons_succ, i64_w, i32_w]
                  rfl
                refine done_ (done_of HT_.out (by kernel_rfl)) ?_
                try go_wp2_with (first | ((with_reducible refine Go.Proofs.Ytccjakjjaemmkaa.Pre.gate_load 25 rfl ?_); (try (refine gate_guard (by rfl) ?_; dsimp only)); refine Go.Proofs.Ytccjakjjaemmkaa.Pre.load_event rfl rfl rfl (by rfl) (by first | ((with_reducible repeat (first | refine blk_drewN ?_ _ | refine blk_drew ?_ | refine blk_alloc ?_ _)); (with_reducible first | exact BK101.out)) | (apply Go.Proofs.Ytccjakjjaemmkaa.Pre.heap_norm; ((with_reducible repeat (first | refine blk_drewN ?_ _ | refine blk_drew ?_ | refine blk_alloc ?_ _ | apply Go.Proofs.Ytccjakjjaemmkaa.Pre.blk_set_)); (with_reducible first | exact BK101.out)); (first | (simp only [List.setIfInBounds_toArray, List.set_cons_zero, List.set_cons_succ]; done) | (simp only [List.setIfInBounds_toArray, List.set_cons_zero, List.set_cons_succ]; rfl) | rfl))) Try.underlying25 rfl (by kernel_rfl) ?_))
                go_ret2
                exact ⟨by first | rfl | (simp [errW_none, errW_some] <;> rfl) | (simp [*, errW_none, errW_some] <;> rfl), by repeat (first | (with_reducible first | exact HB.out | apply below_alloc | apply pw_below_drewN | apply below_drew1 | refine below_set ?_ GE101.out) | exact HB.out)⟩
              · rw [if_neg c13] at H
                exact absurd H (by simp)
            · rw [if_neg c12] at H
              exact absurd H (by simp)
          · rw [if_neg c10] at H
            exact absurd H (by simp)
        · rw [if_neg c9] at H
          exact absurd H (by simp)
      · rw [if_neg c7] at H
        exact absurd H (by simp)
    · rw [if_neg c6] at H
      exact absurd H (by simp)
  · replace c3 := Bool.eq_false_iff.mpr c3
    subst c3
    have H1 : (some ((⟨#[]⟩ : ByteArray), false)) = some (r1, r2) := by rw [if_neg (show ¬ (false = true) by decide)] at H; exact H
    clear H
    have H := H1
    clear H1
    simp only [Option.some.injEq, Prod.mk.injEq] at H
    obtain ⟨rfl, rfl⟩ := H
    go_enter Try.func18, Try.ntmps18
    go_wp2_with (first | ((with_reducible refine Go.Proofs.Ytccjakjjaemmkaa.Pre.gate_load 25 rfl ?_); (try (refine gate_guard (by rfl) ?_; dsimp only)); refine Go.Proofs.Ytccjakjjaemmkaa.Pre.load_event rfl rfl rfl (by rfl) (by first | ((with_reducible repeat (first | refine blk_drewN ?_ _ | refine blk_drew ?_ | refine blk_alloc ?_ _)); (with_reducible first | exact BK101.out)) | (apply Go.Proofs.Ytccjakjjaemmkaa.Pre.heap_norm; ((with_reducible repeat (first | refine blk_drewN ?_ _ | refine blk_drew ?_ | refine blk_alloc ?_ _ | apply Go.Proofs.Ytccjakjjaemmkaa.Pre.blk_set_)); (with_reducible first | exact BK101.out)); (first | (simp only [List.setIfInBounds_toArray, List.set_cons_zero, List.set_cons_succ]; done) | (simp only [List.setIfInBounds_toArray, List.set_cons_zero, List.set_cons_succ]; rfl) | rfl))) Try.underlying25 rfl (by kernel_rfl) ?_) | ((with_reducible refine gate_dst (N := 1) rfl ?_); refine box_event ?hg (N := 1) ?hd (cs := #[.int .i64 a0_0, .int .i64 a0_1, .int .i64 a0_2, .string a0_3, .int .i64 a0_4, .int .i64 a0_5, .string a0_6, .int .i64 a0_7, .int .i64 a0_8, .string a0_9, .int .i64 a0_10, .string a0_11, .int .i64 a0_12, .int .i64 a0_13, .int .i64 a0_14, .int .i64 a0_15, .int .i64 a0_16, .int .i64 a0_17, .int .i64 a0_18, .string a0_19, .string a0_20, .slice A0_21 l0_21.length c0_21, .int .i64 a0_22, .string a0_23, .slice A0_24 l0_24.length c0_24]) (t := 25) ?hr ?_; (case hd => rfl); (case hg => rfl); (case hr => first | (go_simp; done) | (go_simp; rfl)); intro gb101 hg w27 hbox hb; have n0_ := Aside0.mk (below_step (by repeat (first | (with_reducible first | exact HB.out | apply below_alloc | apply pw_below_drewN | apply below_drew1) | exact HB.out)) hb); have n1_ := Aside0.mk (hbox); have n2_ := Aside0.mk ((by rw [hg]; exact (below_size (by repeat (first | (with_reducible first | exact HB.out | apply below_alloc | apply pw_below_drewN | apply below_drew1) | exact HB.out))) : w.heap.size ≤ gb101)); have n3_ := Aside0.mk ((by rw [hg]; exact (below_size (by repeat (first | (with_reducible first | exact HB.out | apply below_alloc | apply pw_below_drewN | apply below_drew1) | exact HB.out))) : w.heap.size ≤ gb101)); clear HB; have HB := n0_; have BK101 := n1_; have GW101 := n2_; have GE101 := n3_; clear n0_ n1_ n2_ n3_; clear hb hbox hg; obtain ⟨hcz28_0, hcz28_1, hcz28_2, hcz28_3, hcz28_4, hcz28_5, hcz28_6, hcz28_7, hcz28_8, hcz28_9, hcz28_10, hcz28_11, hcz28_12, hcz28_13, hcz28_14, hcz28_15, hcz28_16, hcz28_17, hcz28_18, hcz28_19, hcz28_20, hcz28_21, hcz28_22, hcz28_23, hcz28_24, hfz28_0, hfz28_1, hfz28_2, hfz28_3, hfz28_4, hfz28_5, hfz28_6, hfz28_7, hfz28_8, hfz28_9, hfz28_10, hfz28_11, hfz28_12, hfz28_13, hfz28_14, hfz28_15, hfz28_16, hfz28_17, hfz28_18, hfz28_19, hfz28_20, hfz28_21, hfz28_22, hfz28_23, hfz28_24⟩ := cells_25 BK101.out) | ((with_reducible refine gate_callee (f := 20) rfl ?_); refine goesL_ (some 8) rfl rfl Try.func20 (by kernel_rfl) rfl #[.agg #[.int .i64 a0_0, .int .i64 a0_1, .int .i64 a0_2, .string a0_3, .int .i64 a0_4, .int .i64 a0_5, .string a0_6, .int .i64 a0_7, .int .i64 a0_8, .string a0_9, .int .i64 a0_10, .string a0_11, .int .i64 a0_12, .int .i64 a0_13, .int .i64 a0_14, .int .i64 a0_15, .int .i64 a0_16, .int .i64 a0_17, .int .i64 a0_18, .string a0_19, .string a0_20, .slice A0_21 l0_21.length c0_21, .int .i64 a0_22, .string a0_23, .slice A0_24 l0_24.length c0_24]] rfl (by (try simp only [List.map_toArray, List.map_cons, List.map_nil]); first | done | rfl | (simp only [List.length_drop, List.length_take]; rfl)) ?_; (with_reducible refine (rreq_Right.calls k a0_0 a0_1 a0_2 a0_3 a0_4 a0_5 a0_6 a0_7 a0_8 a0_9 a0_10 a0_11 a0_12 a0_13 a0_14 a0_15 a0_16 a0_17 a0_18 a0_19 a0_20 _ _ l0_21 a0_22 a0_23 _ _ l0_24 false _ ?side1 ?side2 ?side3 ?side4 A2.out).mono ?_); (case side1 => repeat (first | exact (Kd.C_below HR0_21.out HB.out) | (with_reducible refine Kd.C_alloc ?_ _) | (with_reducible refine Kd.C_drewN ?_ _) | (with_reducible refine Kd.C_drew ?_))); (case side2 => exact HC0_21.out); (case side3 => repeat (first | exact (Kd.C_below HR0_24.out HB.out) | (with_reducible refine Kd.C_alloc ?_ _) | (with_reducible refine Kd.C_drewN ?_ _) | (with_reducible refine Kd.C_drew ?_))); (case side4 => exact HC0_24.out); rintro e w29 ⟨rfl, hb⟩; refine ⟨_, rfl, ?_⟩; have n0_ := Aside0.mk (blk_below (g := gb101) (by (with_reducible repeat (first | refine blk_drewN ?_ _ | refine blk_drew ?_ | refine blk_alloc ?_ _)); exact BK101.out) hb); have n1_ := Aside0.mk (below_step (by repeat (first | (with_reducible first | exact HB.out | apply below_alloc | apply pw_below_drewN | apply below_drew1 | refine below_set ?_ GE101.out) | exact HB.out)) hb); clear BK101; clear HB; have BK101 := n0_; have HB := n1_; clear n0_ n1_; (try clear hb); (try clear hb2); (try clear hk); (try clear hi)))
    go_ret2
    exact ⟨by first | rfl | (simp [errW_none, errW_some] <;> rfl) | (simp [*, errW_none, errW_some] <;> rfl), by repeat (first | (with_reducible first | exact HB.out | apply below_alloc | apply pw_below_drewN | apply below_drew1 | refine below_set ?_ GE101.out) | exact HB.out)⟩

end Go.Proofs.Ytccjakjjaemmkaa.PR
