-- Written by mp.py, a program of this work (wip/tools), out of the translation; Lean checks it.
import Derived.Test.YtccjakjjaemmkaaPRx0
import Derived.Test.YtccjakjjaemmkaaPRxrreq
import Derived.Test.YtccjakjjaemmkaaPRxrreqGet
import Derived.Test.YtccjakjjaemmkaaPRxrreqRight
namespace Go.Proofs.Ytccjakjjaemmkaa.PR
open Go.RowKit Go.Proofs.YtccjakjjaemmkaaW.PrintWords Go.Proofs.YtccjakjjaemmkaaW.PrintLast Go.Proofs.YtccjakjjaemmkaaW.PrintMore
attribute [local go_sem] max2_int min2_int max_two min_two max_three min_three max_four min_four   -- for this text's walks alone
set_option linter.unusedVariables false
set_option linter.unusedSimpArgs false

/-! ### roadbooklaw14_awake: function 17 -/
def roadbooklaw14_awake.f (k : Nat)  : Option (Bool) := (rreq_Get.f k (⟨#[1, 128, 0, 5, 0, 0, 0, 7, 97, 98, 99, 100, 0, 0, 0, 8, 101, 102, 103, 104, 0, 0, 0, 9, 1, 0]⟩ : ByteArray)).bind fun bt101 => ((rreq_Put.f k bt101.1 bt101.2.1 bt101.2.2.1 bt101.2.2.2.1 bt101.2.2.2.2.1 bt101.2.2.2.2.2.1 bt101.2.2.2.2.2.2.1 bt101.2.2.2.2.2.2.2.1 bt101.2.2.2.2.2.2.2.2.1 bt101.2.2.2.2.2.2.2.2.2.1 bt101.2.2.2.2.2.2.2.2.2.2.1 bt101.2.2.2.2.2.2.2.2.2.2.2.1 bt101.2.2.2.2.2.2.2.2.2.2.2.2.1 bt101.2.2.2.2.2.2.2.2.2.2.2.2.2.1 bt101.2.2.2.2.2.2.2.2.2.2.2.2.2.2.1 bt101.2.2.2.2.2.2.2.2.2.2.2.2.2.2.2.1 bt101.2.2.2.2.2.2.2.2.2.2.2.2.2.2.2.2.1 bt101.2.2.2.2.2.2.2.2.2.2.2.2.2.2.2.2.2.1 bt101.2.2.2.2.2.2.2.2.2.2.2.2.2.2.2.2.2.2.1 bt101.2.2.2.2.2.2.2.2.2.2.2.2.2.2.2.2.2.2.2.1 bt101.2.2.2.2.2.2.2.2.2.2.2.2.2.2.2.2.2.2.2.2.1 bt101.2.2.2.2.2.2.2.2.2.2.2.2.2.2.2.2.2.2.2.2.2.1 bt101.2.2.2.2.2.2.2.2.2.2.2.2.2.2.2.2.2.2.2.2.2.2.1 bt101.2.2.2.2.2.2.2.2.2.2.2.2.2.2.2.2.2.2.2.2.2.2.2.1 bt101.2.2.2.2.2.2.2.2.2.2.2.2.2.2.2.2.2.2.2.2.2.2.2.2.1).bind fun bt133 => (if bt101.2.2.2.2.2.2.2.2.2.2.2.2.2.2.2.2.2.2.2.2.2.2.2.2.2.2 = 0 then (if bt101.2.2.2.2.2.2.2.2.2.2.2.2.2.2.2.2.2.2.2.2.2.2.2.2.2.1 = 0 then (if bt133.2 = true then (if bt133.1.toList = ([1, 128, 0, 5, 0, 0, 0, 7, 97, 98, 99, 100, 0, 0, 0, 8, 101, 102, 103, 104, 0, 0, 0, 9, 1, 0] : List UInt8) then ((rreq_Right.f k bt101.1 bt101.2.1 bt101.2.2.1 bt101.2.2.2.1 bt101.2.2.2.2.1 bt101.2.2.2.2.2.1 bt101.2.2.2.2.2.2.1 bt101.2.2.2.2.2.2.2.1 bt101.2.2.2.2.2.2.2.2.1 bt101.2.2.2.2.2.2.2.2.2.1 bt101.2.2.2.2.2.2.2.2.2.2.1 bt101.2.2.2.2.2.2.2.2.2.2.2.1 bt101.2.2.2.2.2.2.2.2.2.2.2.2.1 bt101.2.2.2.2.2.2.2.2.2.2.2.2.2.1 bt101.2.2.2.2.2.2.2.2.2.2.2.2.2.2.1 bt101.2.2.2.2.2.2.2.2.2.2.2.2.2.2.2.1 bt101.2.2.2.2.2.2.2.2.2.2.2.2.2.2.2.2.1 bt101.2.2.2.2.2.2.2.2.2.2.2.2.2.2.2.2.2.1 bt101.2.2.2.2.2.2.2.2.2.2.2.2.2.2.2.2.2.2.1 bt101.2.2.2.2.2.2.2.2.2.2.2.2.2.2.2.2.2.2.2.1 bt101.2.2.2.2.2.2.2.2.2.2.2.2.2.2.2.2.2.2.2.2.1 bt101.2.2.2.2.2.2.2.2.2.2.2.2.2.2.2.2.2.2.2.2.2.1 bt101.2.2.2.2.2.2.2.2.2.2.2.2.2.2.2.2.2.2.2.2.2.2.1 bt101.2.2.2.2.2.2.2.2.2.2.2.2.2.2.2.2.2.2.2.2.2.2.2.1 bt101.2.2.2.2.2.2.2.2.2.2.2.2.2.2.2.2.2.2.2.2.2.2.2.2.1).bind fun t135 => (if t135 = true then (if bt101.2.2.2.2.2.2.2.2.2.2.2.2.2.2.2.1 = 16 then (if bt101.2.2.2.2.2.2.2.2.2.2.2.2.2.2.2.2.1 = 5 then (if bt101.2.2.2.2.2.2.2.2.2.2.2.2.2.2.2.2.2.1 = 7 then (if bt101.2.2.2.2.2.2.2.2.2.2.2.2.2.2.2.2.2.2.2.1.toList = ([97, 98, 99, 100] : List UInt8) then (if bt101.2.2.2.2.2.2.2.2.2.2.2.2.2.1 = 9 then (some ((bt101.2.2.2.2.2.2.2.2.2.2.2.2.2.2.2.2.2.2.2.2.2.2.2.2.1.length : Int) == 1)) else (some false)) else (some false)) else (some false)) else (some false)) else (some false)) else (some false))) else (some false)) else (some false)) else (some false)) else (some false)))
theorem roadbooklaw14_awake.mono : ∀ k, LeO (roadbooklaw14_awake.f k ) (roadbooklaw14_awake.f (k + 1) ) := by
  intro  k
  unfold roadbooklaw14_awake.f
  repeat' first
      | (with_reducible exact rreq_Get.mono _ _)
      | (with_reducible exact rreq_Put.mono _ _ _ _ _ _ _ _ _ _ _ _ _ _ _ _ _ _ _ _ _ _ _ _ _ _)
      | (with_reducible exact rreq_Right.mono _ _ _ _ _ _ _ _ _ _ _ _ _ _ _ _ _ _ _ _ _ _ _ _ _ _)
      | (with_reducible exact LeO.refl _)
      | (with_reducible exact LeO.none _)
      | (with_reducible refine LeO.ite ?_ ?_)
      | (with_reducible refine LeO.bind ?_ (fun _ => ?_))
      | exact rreq_Get.mono _ _
      | exact rreq_Put.mono _ _ _ _ _ _ _ _ _ _ _ _ _ _ _ _ _ _ _ _ _ _ _ _ _ _
      | exact rreq_Right.mono _ _ _ _ _ _ _ _ _ _ _ _ _ _ _ _ _ _ _ _ _ _ _ _ _ _
      | exact LeO.none _
      | refine LeO.ite ?_ ?_
      | refine LeO.bind ?_ (fun _ => ?_)

set_option maxHeartbeats 8000000 in
set_option maxRecDepth 100000 in
theorem roadbooklaw14_awake.calls (k : Nat)  (r : Bool) (w : World) (hr_ : Aside0 (r = true)) (h : roadbooklaw14_awake.f k  = some r) :
    Calls Try.prog 17 #[] w fun e w' => e = .returned (.bool r) ∧ Below w.heap.size w w' := by
  have hu25 := Try.underlying25
  have HB := Aside0.mk (Below.refl w.heap.size w)
  have H : ((rreq_Get.f k (⟨#[1, 128, 0, 5, 0, 0, 0, 7, 97, 98, 99, 100, 0, 0, 0, 8, 101, 102, 103, 104, 0, 0, 0, 9, 1, 0]⟩ : ByteArray)).bind fun bt101 => ((rreq_Put.f k bt101.1 bt101.2.1 bt101.2.2.1 bt101.2.2.2.1 bt101.2.2.2.2.1 bt101.2.2.2.2.2.1 bt101.2.2.2.2.2.2.1 bt101.2.2.2.2.2.2.2.1 bt101.2.2.2.2.2.2.2.2.1 bt101.2.2.2.2.2.2.2.2.2.1 bt101.2.2.2.2.2.2.2.2.2.2.1 bt101.2.2.2.2.2.2.2.2.2.2.2.1 bt101.2.2.2.2.2.2.2.2.2.2.2.2.1 bt101.2.2.2.2.2.2.2.2.2.2.2.2.2.1 bt101.2.2.2.2.2.2.2.2.2.2.2.2.2.2.1 bt101.2.2.2.2.2.2.2.2.2.2.2.2.2.2.2.1 bt101.2.2.2.2.2.2.2.2.2.2.2.2.2.2.2.2.1 bt101.2.2.2.2.2.2.2.2.2.2.2.2.2.2.2.2.2.1 bt101.2.2.2.2.2.2.2.2.2.2.2.2.2.2.2.2.2.2.1 bt101.2.2.2.2.2.2.2.2.2.2.2.2.2.2.2.2.2.2.2.1 bt101.2.2.2.2.2.2.2.2.2.2.2.2.2.2.2.2.2.2.2.2.1 bt101.2.2.2.2.2.2.2.2.2.2.2.2.2.2.2.2.2.2.2.2.2.1 bt101.2.2.2.2.2.2.2.2.2.2.2.2.2.2.2.2.2.2.2.2.2.2.1 bt101.2.2.2.2.2.2.2.2.2.2.2.2.2.2.2.2.2.2.2.2.2.2.2.1 bt101.2.2.2.2.2.2.2.2.2.2.2.2.2.2.2.2.2.2.2.2.2.2.2.2.1).bind fun bt133 => (if bt101.2.2.2.2.2.2.2.2.2.2.2.2.2.2.2.2.2.2.2.2.2.2.2.2.2.2 = 0 then (if bt101.2.2.2.2.2.2.2.2.2.2.2.2.2.2.2.2.2.2.2.2.2.2.2.2.2.1 = 0 then (if bt133.2 = true then (if bt133.1.toList = ([1, 128, 0, 5, 0, 0, 0, 7, 97, 98, 99, 100, 0, 0, 0, 8, 101, 102, 103, 104, 0, 0, 0, 9, 1, 0] : List UInt8) then ((rreq_Right.f k bt101.1 bt101.2.1 bt101.2.2.1 bt101.2.2.2.1 bt101.2.2.2.2.1 bt101.2.2.2.2.2.1 bt101.2.2.2.2.2.2.1 bt101.2.2.2.2.2.2.2.1 bt101.2.2.2.2.2.2.2.2.1 bt101.2.2.2.2.2.2.2.2.2.1 bt101.2.2.2.2.2.2.2.2.2.2.1 bt101.2.2.2.2.2.2.2.2.2.2.2.1 bt101.2.2.2.2.2.2.2.2.2.2.2.2.1 bt101.2.2.2.2.2.2.2.2.2.2.2.2.2.1 bt101.2.2.2.2.2.2.2.2.2.2.2.2.2.2.1 bt101.2.2.2.2.2.2.2.2.2.2.2.2.2.2.2.1 bt101.2.2.2.2.2.2.2.2.2.2.2.2.2.2.2.2.1 bt101.2.2.2.2.2.2.2.2.2.2.2.2.2.2.2.2.2.1 bt101.2.2.2.2.2.2.2.2.2.2.2.2.2.2.2.2.2.2.1 bt101.2.2.2.2.2.2.2.2.2.2.2.2.2.2.2.2.2.2.2.1 bt101.2.2.2.2.2.2.2.2.2.2.2.2.2.2.2.2.2.2.2.2.1 bt101.2.2.2.2.2.2.2.2.2.2.2.2.2.2.2.2.2.2.2.2.2.1 bt101.2.2.2.2.2.2.2.2.2.2.2.2.2.2.2.2.2.2.2.2.2.2.1 bt101.2.2.2.2.2.2.2.2.2.2.2.2.2.2.2.2.2.2.2.2.2.2.2.1 bt101.2.2.2.2.2.2.2.2.2.2.2.2.2.2.2.2.2.2.2.2.2.2.2.2.1).bind fun t135 => (if t135 = true then (if bt101.2.2.2.2.2.2.2.2.2.2.2.2.2.2.2.1 = 16 then (if bt101.2.2.2.2.2.2.2.2.2.2.2.2.2.2.2.2.1 = 5 then (if bt101.2.2.2.2.2.2.2.2.2.2.2.2.2.2.2.2.2.1 = 7 then (if bt101.2.2.2.2.2.2.2.2.2.2.2.2.2.2.2.2.2.2.2.1.toList = ([97, 98, 99, 100] : List UInt8) then (if bt101.2.2.2.2.2.2.2.2.2.2.2.2.2.1 = 9 then (some ((bt101.2.2.2.2.2.2.2.2.2.2.2.2.2.2.2.2.2.2.2.2.2.2.2.2.1.length : Int) == 1)) else (some false)) else (some false)) else (some false)) else (some false)) else (some false)) else (some false))) else (some false)) else (some false)) else (some false)) else (some false)))) = some r := h
  clear h
  replace H := Option.bind_eq_some_iff.mp H
  obtain ⟨⟨t101, t102, t103, t104, t105, t106, t107, t108, t109, t110, t111, t112, t113, t114, t115, t116, t117, t118, t119, t120, t121, t122, t125, t126, t127, t130, t131⟩, A10, H⟩ := H
  replace H : ((rreq_Put.f k t101 t102 t103 t104 t105 t106 t107 t108 t109 t110 t111 t112 t113 t114 t115 t116 t117 t118 t119 t120 t121 t122 t125 t126 t127).bind fun bt133 => (if t131 = 0 then (if t130 = 0 then (if bt133.2 = true then (if bt133.1.toList = ([1, 128, 0, 5, 0, 0, 0, 7, 97, 98, 99, 100, 0, 0, 0, 8, 101, 102, 103, 104, 0, 0, 0, 9, 1, 0] : List UInt8) then ((rreq_Right.f k t101 t102 t103 t104 t105 t106 t107 t108 t109 t110 t111 t112 t113 t114 t115 t116 t117 t118 t119 t120 t121 t122 t125 t126 t127).bind fun t135 => (if t135 = true then (if t116 = 16 then (if t117 = 5 then (if t118 = 7 then (if t120.toList = ([97, 98, 99, 100] : List UInt8) then (if t114 = 9 then (some ((t127.length : Int) == 1)) else (some false)) else (some false)) else (some false)) else (some false)) else (some false)) else (some false))) else (some false)) else (some false)) else (some false)) else (some false))) = some r := H
  have A1 := Aside0.mk A10
  clear A10
  replace H := Option.bind_eq_some_iff.mp H
  obtain ⟨⟨t133, t134⟩, A20, H⟩ := H
  replace H : (if t131 = 0 then (if t130 = 0 then (if t134 = true then (if t133.toList = ([1, 128, 0, 5, 0, 0, 0, 7, 97, 98, 99, 100, 0, 0, 0, 8, 101, 102, 103, 104, 0, 0, 0, 9, 1, 0] : List UInt8) then ((rreq_Right.f k t101 t102 t103 t104 t105 t106 t107 t108 t109 t110 t111 t112 t113 t114 t115 t116 t117 t118 t119 t120 t121 t122 t125 t126 t127).bind fun t135 => (if t135 = true then (if t116 = 16 then (if t117 = 5 then (if t118 = 7 then (if t120.toList = ([97, 98, 99, 100] : List UInt8) then (if t114 = 9 then (some ((t127.length : Int) == 1)) else (some false)) else (some false)) else (some false)) else (some false)) else (some false)) else (some false))) else (some false)) else (some false)) else (some false)) else (some false)) = some r := H
  have A2 := Aside0.mk A20
  clear A20
  by_cases c3 : t131 = 0
  · rw [if_pos c3] at H
    have c3b0 : (t131 == 0) = true := beq_iff_eq.mpr c3
    have c3b1 : (t131 != 0) = false := bne_eq_false_iff_eq.mpr c3
    clear c3
    by_cases c4 : t130 = 0
    · rw [if_pos c4] at H
      have c4b0 : (t130 == 0) = true := beq_iff_eq.mpr c4
      have c4b1 : (t130 != 0) = false := bne_eq_false_iff_eq.mpr c4
      clear c4
      by_cases c5 : t134 = true
      · subst c5
        have H1 : (if t133.toList = ([1, 128, 0, 5, 0, 0, 0, 7, 97, 98, 99, 100, 0, 0, 0, 8, 101, 102, 103, 104, 0, 0, 0, 9, 1, 0] : List UInt8) then ((rreq_Right.f k t101 t102 t103 t104 t105 t106 t107 t108 t109 t110 t111 t112 t113 t114 t115 t116 t117 t118 t119 t120 t121 t122 t125 t126 t127).bind fun t135 => (if t135 = true then (if t116 = 16 then (if t117 = 5 then (if t118 = 7 then (if t120.toList = ([97, 98, 99, 100] : List UInt8) then (if t114 = 9 then (some ((t127.length : Int) == 1)) else (some false)) else (some false)) else (some false)) else (some false)) else (some false)) else (some false))) else (some false)) = some r := by rw [if_pos rfl] at H; exact H
        clear H
        have H := H1
        clear H1
        by_cases c6 : t133.toList = ([1, 128, 0, 5, 0, 0, 0, 7, 97, 98, 99, 100, 0, 0, 0, 8, 101, 102, 103, 104, 0, 0, 0, 9, 1, 0] : List UInt8)
        · rw [if_pos c6] at H
          have c6b0 : (t133.toList == ([1, 128, 0, 5, 0, 0, 0, 7, 97, 98, 99, 100, 0, 0, 0, 8, 101, 102, 103, 104, 0, 0, 0, 9, 1, 0] : List UInt8)) = true := beq_iff_eq.mpr c6
          have c6b1 : (t133.toList != ([1, 128, 0, 5, 0, 0, 0, 7, 97, 98, 99, 100, 0, 0, 0, 8, 101, 102, 103, 104, 0, 0, 0, 9, 1, 0] : List UInt8)) = false := bne_eq_false_iff_eq.mpr c6
          clear c6
          replace H := Option.bind_eq_some_iff.mp H
          obtain ⟨t135, A70, H⟩ := H
          replace H : (if t135 = true then (if t116 = 16 then (if t117 = 5 then (if t118 = 7 then (if t120.toList = ([97, 98, 99, 100] : List UInt8) then (if t114 = 9 then (some ((t127.length : Int) == 1)) else (some false)) else (some false)) else (some false)) else (some false)) else (some false)) else (some false)) = some r := H
          have A7 := Aside0.mk A70
          clear A70
          by_cases c8 : t135 = true
          · subst c8
            have H1 : (if t116 = 16 then (if t117 = 5 then (if t118 = 7 then (if t120.toList = ([97, 98, 99, 100] : List UInt8) then (if t114 = 9 then (some ((t127.length : Int) == 1)) else (some false)) else (some false)) else (some false)) else (some false)) else (some false)) = some r := by rw [if_pos rfl] at H; exact H
            clear H
            have H := H1
            clear H1
            by_cases c9 : t116 = 16
            · rw [if_pos c9] at H
              have c9b0 : (t116 == 16) = true := beq_iff_eq.mpr c9
              have c9b1 : (t116 != 16) = false := bne_eq_false_iff_eq.mpr c9
              clear c9
              by_cases c10 : t117 = 5
              · rw [if_pos c10] at H
                have c10b0 : (t117 == 5) = true := beq_iff_eq.mpr c10
                have c10b1 : (t117 != 5) = false := bne_eq_false_iff_eq.mpr c10
                clear c10
                by_cases c11 : t118 = 7
                · rw [if_pos c11] at H
                  have c11b0 : (t118 == 7) = true := beq_iff_eq.mpr c11
                  have c11b1 : (t118 != 7) = false := bne_eq_false_iff_eq.mpr c11
                  clear c11
                  by_cases c12 : t120.toList = ([97, 98, 99, 100] : List UInt8)
                  · rw [if_pos c12] at H
                    have c12b0 : (t120.toList == ([97, 98, 99, 100] : List UInt8)) = true := beq_iff_eq.mpr c12
                    have c12b1 : (t120.toList != ([97, 98, 99, 100] : List UInt8)) = false := bne_eq_false_iff_eq.mpr c12
                    clear c12
                    by_cases c13 : t114 = 9
                    · rw [if_pos c13] at H
                      have c13b0 : (t114 == 9) = true := beq_iff_eq.mpr c13
                      have c13b1 : (t114 != 9) = false := bne_eq_false_iff_eq.mpr c13
                      clear c13
                      obtain rfl := Option.some.inj H
                      go_enter Try.func17, Try.ntmps17
                      go_wp2_with (first | ((with_reducible refine Go.Proofs.Ytccjakjjaemmkaa.Pre.gate_load 25 rfl ?_); (try (refine gate_guard (by rfl) ?_; dsimp only)); refine Go.Proofs.Ytccjakjjaemmkaa.Pre.load_event rfl rfl rfl (by rfl) (by first | ((with_reducible repeat (first | refine blk_drewN ?_ _ | refine blk_drew ?_ | refine blk_alloc ?_ _)); (with_reducible first | exact BK132.out)) | (apply Go.Proofs.Ytccjakjjaemmkaa.Pre.heap_norm; ((with_reducible repeat (first | refine blk_drewN ?_ _ | refine blk_drew ?_ | refine blk_alloc ?_ _ | apply Go.Proofs.Ytccjakjjaemmkaa.Pre.blk_set_)); (with_reducible first | exact BK132.out)); (first | (simp only [List.setIfInBounds_toArray, List.set_cons_zero, List.set_cons_succ]; done) | (simp only [List.setIfInBounds_toArray, List.set_cons_zero, List.set_cons_succ]; rfl) | rfl))) Try.underlying25 rfl (by kernel_rfl) ?_) | ((with_reducible refine gate_callee (f := 22) rfl ?_); refine goesL_ (some 7) rfl rfl Try.func22 (by kernel_rfl) rfl #[.string (⟨#[1, 128, 0, 5, 0, 0, 0, 7, 97, 98, 99, 100, 0, 0, 0, 8, 101, 102, 103, 104, 0, 0, 0, 9, 1, 0]⟩ : ByteArray)] rfl (by (try simp only [List.map_toArray, List.map_cons, List.map_nil]); first | done | rfl | (simp only [List.length_drop, List.length_take]; rfl)) ?_; (with_reducible refine (rreq_Get.calls k (⟨#[1, 128, 0, 5, 0, 0, 0, 7, 97, 98, 99, 100, 0, 0, 0, 8, 101, 102, 103, 104, 0, 0, 0, 9, 1, 0]⟩ : ByteArray) t101 t102 t103 t104 t105 t106 t107 t108 t109 t110 t111 t112 t113 t114 t115 t116 t117 t118 t119 t120 t121 t122 t125 t126 t127 t130 t131 _ A1.out).mono ?_); rintro e w14 ⟨v123, v128, rfl, ho0, ho1, hb⟩; refine ⟨_, rfl, ?_⟩; have n0_ := Aside0.mk (Kd.R_lower ho0 (below_size (by repeat (first | (with_reducible first | exact HB.out | apply below_alloc | apply pw_below_drewN | apply below_drew1) | exact HB.out)))); have n1_ := Aside0.mk (Kd.R_lower ho1 (below_size (by repeat (first | (with_reducible first | exact HB.out | apply below_alloc | apply pw_below_drewN | apply below_drew1) | exact HB.out)))); have n2_ := Aside0.mk (below_step (by repeat (first | (with_reducible first | exact HB.out | apply below_alloc | apply pw_below_drewN | apply below_drew1) | exact HB.out)) hb); clear HB; have HO124 := n0_; have HO129 := n1_; have HB := n2_; clear n0_ n1_ n2_; (try clear hb); (try clear hb2); (try clear hk); (try clear hi); (try clear ho0); (try clear ho1)) | ((with_reducible refine gate_dst (N := 1) rfl ?_); (try (refine gate_guard (by rfl) ?_; dsimp only)); refine box_event ?hg (N := 1) ?hd (cs := #[.int .i64 0, .int .i64 0, .int .i64 0, .string (⟨#[]⟩ : ByteArray), .int .i64 0, .int .i64 0, .string (⟨#[]⟩ : ByteArray), .int .i64 0, .int .i64 0, .string (⟨#[]⟩ : ByteArray), .int .i64 0, .string (⟨#[]⟩ : ByteArray), .int .i64 0, .int .i64 0, .int .i64 0, .int .i64 0, .int .i64 0, .int .i64 0, .int .i64 0, .string (⟨#[]⟩ : ByteArray), .string (⟨#[]⟩ : ByteArray), .slice none 0 0, .int .i64 0, .string (⟨#[]⟩ : ByteArray), .slice none 0 0]) (t := 25) ?hr ?_; (case hd => rfl); (case hg => rfl); (case hr => first | (go_simp; done) | (go_simp; rfl)); intro gb132 hg w15 hbox hb; have n0_ := Aside0.mk (Kd.R_below (by (with_reducible repeat (first | apply Kd.R_alloc | apply Kd.R_drewN | apply Kd.R_drew)); exact HO124.out) hb); have n1_ := Aside0.mk (Kd.R_below (by (with_reducible repeat (first | apply Kd.R_alloc | apply Kd.R_drewN | apply Kd.R_drew)); exact HO129.out) hb); have n2_ := Aside0.mk (below_step (by repeat (first | (with_reducible first | exact HB.out | apply below_alloc | apply pw_below_drewN | apply below_drew1) | exact HB.out)) hb); have n3_ := Aside0.mk (hbox); have n4_ := Aside0.mk ((by rw [hg]; exact (below_size (by repeat (first | (with_reducible first | exact HB.out | apply below_alloc | apply pw_below_drewN | apply below_drew1) | exact HB.out))) : w.heap.size ≤ gb132)); have n5_ := Aside0.mk ((by rw [hg]; exact (below_size (by repeat (first | (with_reducible first | exact HB.out | apply below_alloc | apply pw_below_drewN | apply below_drew1) | exact HB.out))) : w.heap.size ≤ gb132)); clear HO124; clear HO129; clear HB; have HO124 := n0_; have HO129 := n1_; have HB := n2_; have BK132 := n3_; have GW132 := n4_; have GE132 := n5_; clear n0_ n1_ n2_ n3_ n4_ n5_; clear hb hbox hg; obtain ⟨hcz16_0, hcz16_1, hcz16_2, hcz16_3, hcz16_4, hcz16_5, hcz16_6, hcz16_7, hcz16_8, hcz16_9, hcz16_10, hcz16_11, hcz16_12, hcz16_13, hcz16_14, hcz16_15, hcz16_16, hcz16_17, hcz16_18, hcz16_19, hcz16_20, hcz16_21, hcz16_22, hcz16_23, hcz16_24, hfz16_0, hfz16_1, hfz16_2, hfz16_3, hfz16_4, hfz16_5, hfz16_6, hfz16_7, hfz16_8, hfz16_9, hfz16_10, hfz16_11, hfz16_12, hfz16_13, hfz16_14, hfz16_15, hfz16_16, hfz16_17, hfz16_18, hfz16_19, hfz16_20, hfz16_21, hfz16_22, hfz16_23, hfz16_24⟩ := cells_25 BK132.out; obtain ⟨Ao17, co17, eo17⟩ := Kd.R_slice HO124.out; subst eo17; obtain ⟨Ao18, co18, eo18⟩ := Kd.R_slice HO129.out; subst eo18) | ((with_reducible refine Go.Proofs.Ytccjakjjaemmkaa.Pre.gate_store 25 rfl ?_); refine Go.Proofs.Ytccjakjjaemmkaa.Pre.store_abs (cur := #[.int .i64 0, .int .i64 0, .int .i64 0, .string (⟨#[]⟩ : ByteArray), .int .i64 0, .int .i64 0, .string (⟨#[]⟩ : ByteArray), .int .i64 0, .int .i64 0, .string (⟨#[]⟩ : ByteArray), .int .i64 0, .string (⟨#[]⟩ : ByteArray), .int .i64 0, .int .i64 0, .int .i64 0, .int .i64 0, .int .i64 0, .int .i64 0, .int .i64 0, .string (⟨#[]⟩ : ByteArray), .string (⟨#[]⟩ : ByteArray), .slice none 0 0, .int .i64 0, .string (⟨#[]⟩ : ByteArray), .slice none 0 0]) (e := 25) rfl rfl rfl (by rfl) (by rfl) (by (with_reducible repeat (first | refine blk_drewN ?_ _ | refine blk_drew ?_ | refine blk_alloc ?_ _)); exact BK132.out) (by kernel_rfl) (by rfl) (by rfl) ?_; intro w19 hbS_ sS_; have n0_ : Aside0 (Kd.R k46 46 w19 w.heap.size (fun _ => True) (.slice Ao17 t122.length co17) t122) := ⟨Kd.R_mono (Go.Proofs.Ytccjakjjaemmkaa.Pre.R_sets sS_ (Kd.R_types HO124.out BK132.out (by decide)) (fun _ hk => hk.2)) (fun _ hk => trivial)⟩; have n1_ : Aside0 (Kd.R k48 48 w19 w.heap.size (fun _ => True) (.slice Ao18 t127.length co18) t127) := ⟨Kd.R_mono (Go.Proofs.Ytccjakjjaemmkaa.Pre.R_sets sS_ (Kd.R_types HO129.out BK132.out (by decide)) (fun _ hk => hk.2)) (fun _ hk => trivial)⟩; have n2_ : Aside0 (w19.heap[gb132]? = some (.cells #[.int .i64 t101, .int .i64 t102, .int .i64 t103, .string t104, .int .i64 t105, .int .i64 t106, .string t107, .int .i64 t108, .int .i64 t109, .string t110, .int .i64 t111, .string t112, .int .i64 t113, .int .i64 t114, .int .i64 t115, .int .i64 t116, .int .i64 t117, .int .i64 t118, .int .i64 t119, .string t120, .string t121, .slice Ao17 t122.length co17, .int .i64 t125, .string t126, .slice Ao18 t127.length co18] 25 (0, 0))) := ⟨hbS_⟩; have n3_ : Aside0 (Below w.heap.size w w19) := ⟨sS_.below (by repeat (first | (with_reducible first | exact HB.out | apply below_alloc | apply pw_below_drewN | apply below_drew1 | refine below_set ?_ GE132.out) | exact HB.out)) GE132.out⟩; clear hbS_ sS_; clear HO124; clear HO129; clear BK132; clear HB; have HO124 := n0_; have HO129 := n1_; have BK132 := n2_; have HB := n3_; clear n0_ n1_ n2_ n3_; obtain ⟨hcz20_0, hcz20_1, hcz20_2, hcz20_3, hcz20_4, hcz20_5, hcz20_6, hcz20_7, hcz20_8, hcz20_9, hcz20_10, hcz20_11, hcz20_12, hcz20_13, hcz20_14, hcz20_15, hcz20_16, hcz20_17, hcz20_18, hcz20_19, hcz20_20, hcz20_21, hcz20_22, hcz20_23, hcz20_24, hfz20_0, hfz20_1, hfz20_2, hfz20_3, hfz20_4, hfz20_5, hfz20_6, hfz20_7, hfz20_8, hfz20_9, hfz20_10, hfz20_11, hfz20_12, hfz20_13, hfz20_14, hfz20_15, hfz20_16, hfz20_17, hfz20_18, hfz20_19, hfz20_20, hfz20_21, hfz20_22, hfz20_23, hfz20_24⟩ := cells_25 BK132.out) | ((with_reducible refine gate_callee (f := 18) rfl ?_); refine goesL_ (some 13) rfl rfl Try.func18 (by kernel_rfl) rfl #[.agg #[.int .i64 t101, .int .i64 t102, .int .i64 t103, .string t104, .int .i64 t105, .int .i64 t106, .string t107, .int .i64 t108, .int .i64 t109, .string t110, .int .i64 t111, .string t112, .int .i64 t113, .int .i64 t114, .int .i64 t115, .int .i64 t116, .int .i64 t117, .int .i64 t118, .int .i64 t119, .string t120, .string t121, .slice Ao17 t122.length co17, .int .i64 t125, .string t126, .slice Ao18 t127.length co18]] rfl (by (try simp only [List.map_toArray, List.map_cons, List.map_nil]); first | done | rfl | (simp only [List.length_drop, List.length_take]; rfl)) ?_; (with_reducible refine (rreq_Put.calls k t101 t102 t103 t104 t105 t106 t107 t108 t109 t110 t111 t112 t113 t114 t115 t116 t117 t118 t119 t120 t121 _ _ t122 t125 t126 _ _ t127 t133 true _ ?side1 ?side2 ?side3 ?side4 A2.out).mono ?_); (case side1 => repeat (first | exact (Kd.R_reads' HO124.out).2.2 | (with_reducible refine Kd.C_alloc ?_ _) | (with_reducible refine Kd.C_drewN ?_ _) | (with_reducible refine Kd.C_drew ?_))); (case side2 => exact (Kd.R_reads' HO124.out).2.1); (case side3 => repeat (first | exact (Kd.R_reads' HO129.out).2.2 | (with_reducible refine Kd.C_alloc ?_ _) | (with_reducible refine Kd.C_drewN ?_ _) | (with_reducible refine Kd.C_drew ?_))); (case side4 => exact (Kd.R_reads' HO129.out).2.1); rintro e w21 ⟨rfl, hb⟩; refine ⟨_, rfl, ?_⟩; have n0_ := Aside0.mk (Kd.R_below (by (with_reducible repeat (first | apply Kd.R_alloc | apply Kd.R_drewN | apply Kd.R_drew)); exact HO124.out) hb); have n1_ := Aside0.mk (Kd.R_below (by (with_reducible repeat (first | apply Kd.R_alloc | apply Kd.R_drewN | apply Kd.R_drew)); exact HO129.out) hb); have n2_ := Aside0.mk (blk_below (g := gb132) (by (with_reducible repeat (first | refine blk_drewN ?_ _ | refine blk_drew ?_ | refine blk_alloc ?_ _)); exact BK132.out) hb); have n3_ := Aside0.mk (below_step (by repeat (first | (with_reducible first | exact HB.out | apply below_alloc | apply pw_below_drewN | apply below_drew1 | refine below_set ?_ GE132.out) | exact HB.out)) hb); clear HO124; clear HO129; clear BK132; clear HB; have HO124 := n0_; have HO129 := n1_; have BK132 := n2_; have HB := n3_; clear n0_ n1_ n2_ n3_; (try clear hb); (try clear hb2); (try clear hk); (try clear hi); obtain ⟨hcz22_0, hcz22_1, hcz22_2, hcz22_3, hcz22_4, hcz22_5, hcz22_6, hcz22_7, hcz22_8, hcz22_9, hcz22_10, hcz22_11, hcz22_12, hcz22_13, hcz22_14, hcz22_15, hcz22_16, hcz22_17, hcz22_18, hcz22_19, hcz22_20, hcz22_21, hcz22_22, hcz22_23, hcz22_24, hfz22_0, hfz22_1, hfz22_2, hfz22_3, hfz22_4, hfz22_5, hfz22_6, hfz22_7, hfz22_8, hfz22_9, hfz22_10, hfz22_11, hfz22_12, hfz22_13, hfz22_14, hfz22_15, hfz22_16, hfz22_17, hfz22_18, hfz22_19, hfz22_20, hfz22_21, hfz22_22, hfz22_23, hfz22_24⟩ := cells_25 BK132.out) | (go_at_call 20; (with_reducible refine (rreq_Right.calls k t101 t102 t103 t104 t105 t106 t107 t108 t109 t110 t111 t112 t113 t114 t115 t116 t117 t118 t119 t120 t121 _ _ t122 t125 t126 _ _ t127 true _ ?side1 ?side2 ?side3 ?side4 A7.out).mono ?_); (case side1 => repeat (first | exact (Kd.R_reads' HO124.out).2.2 | (with_reducible refine Kd.C_alloc ?_ _) | (with_reducible refine Kd.C_drewN ?_ _) | (with_reducible refine Kd.C_drew ?_))); (case side2 => exact (Kd.R_reads' HO124.out).2.1); (case side3 => repeat (first | exact (Kd.R_reads' HO129.out).2.2 | (with_reducible refine Kd.C_alloc ?_ _) | (with_reducible refine Kd.C_drewN ?_ _) | (with_reducible refine Kd.C_drew ?_))); (case side4 => exact (Kd.R_reads' HO129.out).2.1); rintro e w23 ⟨rfl, hb⟩; have n0_ := Aside0.mk (Kd.R_below (by (with_reducible repeat (first | apply Kd.R_alloc | apply Kd.R_drewN | apply Kd.R_drew)); exact HO124.out) hb); have n1_ := Aside0.mk (Kd.R_below (by (with_reducible repeat (first | apply Kd.R_alloc | apply Kd.R_drewN | apply Kd.R_drew)); exact HO129.out) hb); have n2_ := Aside0.mk (blk_below (g := gb132) (by (with_reducible repeat (first | refine blk_drewN ?_ _ | refine blk_drew ?_ | refine blk_alloc ?_ _)); exact BK132.out) hb); have n3_ := Aside0.mk (below_step (by repeat (first | (with_reducible first | exact HB.out | apply below_alloc | apply pw_below_drewN | apply below_drew1 | refine below_set ?_ GE132.out) | exact HB.out)) hb); clear HO124; clear HO129; clear BK132; clear HB; have HO124 := n0_; have HO129 := n1_; have BK132 := n2_; have HB := n3_; clear n0_ n1_ n2_ n3_; (try clear hb); (try clear hb2); (try clear hk); (try clear hi); obtain ⟨hcz24_0, hcz24_1, hcz24_2, hcz24_3, hcz24_4, hcz24_5, hcz24_6, hcz24_7, hcz24_8, hcz24_9, hcz24_10, hcz24_11, hcz24_12, hcz24_13, hcz24_14, hcz24_15, hcz24_16, hcz24_17, hcz24_18, hcz24_19, hcz24_20, hcz24_21, hcz24_22, hcz24_23, hcz24_24, hfz24_0, hfz24_1, hfz24_2, hfz24_3, hfz24_4, hfz24_5, hfz24_6, hfz24_7, hfz24_8, hfz24_9, hfz24_10, hfz24_11, hfz24_12, hfz24_13, hfz24_14, hfz24_15, hfz24_16, hfz24_17, hfz24_18, hfz24_19, hfz24_20, hfz24_21, hfz24_22, hfz24_23, hfz24_24⟩ := cells_25 BK132.out))
                      go_ret
                      exact ⟨by first | rfl | (simp [errW_none, errW_some] <;> rfl) | (simp [*, errW_none, errW_some] <;> rfl), by repeat (first | (with_reducible first | exact HB.out | apply below_alloc | apply pw_below_drewN | apply below_drew1 | refine below_set ?_ GE132.out) | exact HB.out)⟩
                    · rw [if_neg c13] at H
                      have c13b0 : (t114 == 9) = false := beq_eq_false_iff_ne.mpr c13
                      have c13b1 : (t114 != 9) = true := bne_iff_ne.mpr c13
                      exact absurd (Option.some.inj H) (by rw [hr_.out]; exact Bool.false_ne_true)
                  · rw [if_neg c12] at H
                    have c12b0 : (t120.toList == ([97, 98, 99, 100] : List UInt8)) = false := beq_eq_false_iff_ne.mpr c12
                    have c12b1 : (t120.toList != ([97, 98, 99, 100] : List UInt8)) = true := bne_iff_ne.mpr c12
                    exact absurd (Option.some.inj H) (by rw [hr_.out]; exact Bool.false_ne_true)
                · rw [if_neg c11] at H
                  have c11b0 : (t118 == 7) = false := beq_eq_false_iff_ne.mpr c11
                  have c11b1 : (t118 != 7) = true := bne_iff_ne.mpr c11
                  exact absurd (Option.some.inj H) (by rw [hr_.out]; exact Bool.false_ne_true)
              · rw [if_neg c10] at H
                have c10b0 : (t117 == 5) = false := beq_eq_false_iff_ne.mpr c10
                have c10b1 : (t117 != 5) = true := bne_iff_ne.mpr c10
                exact absurd (Option.some.inj H) (by rw [hr_.out]; exact Bool.false_ne_true)
            · rw [if_neg c9] at H
              have c9b0 : (t116 == 16) = false := beq_eq_false_iff_ne.mpr c9
              have c9b1 : (t116 != 16) = true := bne_iff_ne.mpr c9
              exact absurd (Option.some.inj H) (by rw [hr_.out]; exact Bool.false_ne_true)
          · replace c8 := Bool.eq_false_iff.mpr c8
            subst c8
            have H1 : (some false) = some r := by rw [if_neg (show ¬ (false = true) by decide)] at H; exact H
            clear H
            have H := H1
            clear H1
            exact absurd (Option.some.inj H) (by rw [hr_.out]; exact Bool.false_ne_true)
        · rw [if_neg c6] at H
          have c6b0 : (t133.toList == ([1, 128, 0, 5, 0, 0, 0, 7, 97, 98, 99, 100, 0, 0, 0, 8, 101, 102, 103, 104, 0, 0, 0, 9, 1, 0] : List UInt8)) = false := beq_eq_false_iff_ne.mpr c6
          have c6b1 : (t133.toList != ([1, 128, 0, 5, 0, 0, 0, 7, 97, 98, 99, 100, 0, 0, 0, 8, 101, 102, 103, 104, 0, 0, 0, 9, 1, 0] : List UInt8)) = true := bne_iff_ne.mpr c6
          exact absurd (Option.some.inj H) (by rw [hr_.out]; exact Bool.false_ne_true)
      · replace c5 := Bool.eq_false_iff.mpr c5
        subst c5
        have H1 : (some false) = some r := by rw [if_neg (show ¬ (false = true) by decide)] at H; exact H
        clear H
        have H := H1
        clear H1
        exact absurd (Option.some.inj H) (by rw [hr_.out]; exact Bool.false_ne_true)
    · rw [if_neg c4] at H
      have c4b0 : (t130 == 0) = false := beq_eq_false_iff_ne.mpr c4
      have c4b1 : (t130 != 0) = true := bne_iff_ne.mpr c4
      exact absurd (Option.some.inj H) (by rw [hr_.out]; exact Bool.false_ne_true)
  · rw [if_neg c3] at H
    have c3b0 : (t131 == 0) = false := beq_eq_false_iff_ne.mpr c3
    have c3b1 : (t131 != 0) = true := bne_iff_ne.mpr c3
    exact absurd (Option.some.inj H) (by rw [hr_.out]; exact Bool.false_ne_true)

end Go.Proofs.Ytccjakjjaemmkaa.PR
