-- Written by mp.py, a program of this work (wip/tools), out of the translation; Lean checks it.
import Derived.Test.YtnllanjoebjeiaaGreatPVxZ
import Derived.Test.YtnllanjoebjeiaaGreatPVxframe
import Derived.Test.YtnllanjoebjeiaaGreatPVxmsg
namespace Go.Proofs.YtnllanjoebjeiaaGreat.PV
open Go.RowKit Go.Proofs.YtnllanjoebjeiaaGreatW.PrintWords Go.Proofs.YtnllanjoebjeiaaGreatW.PrintLast Go.Proofs.YtnllanjoebjeiaaGreatW.PrintMore
attribute [local go_sem] max2_int min2_int max_two min_two max_three min_three max_four min_four   -- for this text's walks alone
set_option linter.unusedVariables false
set_option linter.unusedSimpArgs false

/-! ### sub_Right: function 123 -/
def sub_Right.f (k : Nat) (l0 : List (S80)) : Option (Bool) := (msg_Subs.f k l0 2 127).bind fun aM => (if aM = true then ((msg_Bytes.f k l0).bind fun bl => (some (decide (bl ≤ 200)))) else (some false))
theorem sub_Right.mono : ∀ a0 k, LeO (sub_Right.f k a0) (sub_Right.f (k + 1) a0) := by
 intro a0 k
 unfold sub_Right.f
 have m0 := msg_Bytes.mono
 have m1 := msg_Subs.mono
 exact Sq.mo
set_option maxHeartbeats 8000000 in
set_option maxRecDepth 100000 in
theorem sub_Right.calls (k : Nat) (A0 : Option Addr) (c0 : Nat) (l0 : List (S80)) (r : Bool) (w : World) (du : Kd.C k80 w A0 l0.length l0) (cO : l0.length ≤ c0) (h : sub_Right.f k l0 = some r) :
  Calls Tryz.prog 123 #[.slice A0 l0.length c0] w fun e w' => e = .returned (.bool r) ∧ Below w.heap.size w w' := by
 have dv := Aside0.mk du
 have eC := Aside0.mk cO
 clear du cO
 have HB := Aside0.mk (Below.refl w.heap.size w)
 have H : ((msg_Subs.f k l0 2 127).bind fun aM => (if aM = true then ((msg_Bytes.f k l0).bind fun bl => (some (decide (bl ≤ 200)))) else (some false))) = some r := h
 clear h
 replace H := Option.bind_eq_some_iff.mp H
 obtain ⟨aM, dQ, H⟩ := H
 replace H : (if aM = true then ((msg_Bytes.f k l0).bind fun bl => (some (decide (bl ≤ 200)))) else (some false)) = some r := H
 have A2 := Aside0.mk dQ
 clear dQ
 by_cases c3 : aM = true
 ·subst c3
  replace H := Sq.itT H
  replace H := Option.bind_eq_some_iff.mp H
  obtain ⟨bl, eV, H⟩ := H
  replace H : (some (decide (bl ≤ 200))) = some r := H
  have A4 := Aside0.mk eV
  clear eV
  obtain rfl := Option.some.inj H
  go_enter Tryz.func123, Tryz.ntmps123
  go_wp2_with (first | ((with_reducible refine gate_callee (f := 166) rfl ?_); refine goesL_ (some 4) rfl rfl Tryz.func166 Z12 rfl #[.slice A0 l0.length c0, .int .i64 2, .int .i64 127] rfl Z3 ?_; (with_reducible refine (msg_Subs.calls k _ _ l0 2 127 true _ ?side1 ?side2 A2.out).mono ?_); (case side1 => exact Z26); (case side2 => exact eC.out); rintro e w5 ⟨rfl, hb⟩; refine ⟨_, rfl, ?_⟩; replace HB := Aside0.mk (below_step Z2 hb); clear hb) | (go_at_call 167; (with_reducible refine (msg_Bytes.calls k _ _ l0 bl _ ?side1 ?side2 A4.out).mono ?_); (case side1 => exact (by repeat (first | exact (Kd.C_below dv.out HB.out) | (with_reducible refine Kd.C_alloc ?_ _) | (with_reducible refine Kd.C_drewN ?_ _) | (with_reducible refine Kd.C_drew ?_)))); (case side2 => exact eC.out); rintro e w6 ⟨rfl, hb⟩; replace HB := Aside0.mk (below_step Z2 hb); clear hb))
  go_ret
  exact ⟨Z5, Z2⟩
 ·replace c3 := Bool.eq_false_iff.mpr c3
  subst c3
  replace H := Sq.itF H
  obtain rfl := Option.some.inj H
  go_enter Tryz.func123, Tryz.ntmps123
  go_wp2_with (first | ((with_reducible refine gate_callee (f := 166) rfl ?_); refine goesL_ (some 4) rfl rfl Tryz.func166 Z12 rfl #[.slice A0 l0.length c0, .int .i64 2, .int .i64 127] rfl Z3 ?_; (with_reducible refine (msg_Subs.calls k _ _ l0 2 127 false _ ?side1 ?side2 A2.out).mono ?_); (case side1 => exact Z26); (case side2 => exact eC.out); rintro e w7 ⟨rfl, hb⟩; refine ⟨_, rfl, ?_⟩; replace HB := Aside0.mk (below_step Z2 hb); clear hb))
  go_ret
  exact ⟨Z5, Z2⟩

/-! ### sub_Put: function 134 -/
def sub_Put.l0 : Nat → List Int → List (S80) → Int → Int → Option (ByteArray × Bool)
 | 0, _, _, _, _ => none
 | k + 1, x4, eb, fK, eX => if eX < fK then (if 0 ≤ eX then (if eX < (eb.length : Int) then ((frame_Put.f ((rd_T80 eb eX).f0) ((rd_T80 eb eX).f1)).bind fun eg => (if x4.length + eg.1.size < 140737488355328 then (sub_Put.l0 k (x4 ++ bytesOf eg.1) eb fK (wrap64 (eX + 1))) else (none))) else (none)) else (none)) else (some (strOfNums x4, true))
def sub_Put.f (k : Nat) (l0 : List (S80)) : Option (ByteArray × Bool) := (sub_Right.f k l0).bind fun aM => (if aM = true then (sub_Put.l0 k ([] : List Int) l0 (l0.length : Int) 0) else (some ((⟨#[]⟩ : ByteArray), false)))
theorem sub_Put.mono_l : ∀ k, (∀ y0 y1 y2 y3, LeO (sub_Put.l0 k y0 y1 y2 y3) (sub_Put.l0 (k + 1) y0 y1 y2 y3))
 | 0 => Sq.mz
 | k + 1 => by
  have ih0 := sub_Put.mono_l k
  ·intros
   unfold sub_Put.l0
   have m0 := sub_Right.mono
   exact Sq.mo
theorem sub_Put.mono : ∀ a0 k, LeO (sub_Put.f k a0) (sub_Put.f (k + 1) a0) := by
 intro a0 k
 have ih0 := sub_Put.mono_l k
 unfold sub_Put.f
 have m0 := sub_Right.mono
 exact Sq.mo
set_option maxHeartbeats 8000000 in
set_option maxRecDepth 100000 in
theorem sub_Put.calls (k : Nat) (A0 : Option Addr) (c0 : Nat) (l0 : List (S80)) (r1 : ByteArray) (r2 : Bool) (w : World) (du : Kd.C k80 w A0 l0.length l0) (cO : l0.length ≤ c0) (h : sub_Put.f k l0 = some (r1, r2)) :
  Calls Tryz.prog 134 #[.slice A0 l0.length c0] w fun e w' => e = .returned (.tuple #[.string r1, .bool r2]) ∧ Below w.heap.size w w' := by
 have fz := Tryz.underlying80
 have dv := Aside0.mk du
 have eC := Aside0.mk cO
 clear du cO
 have HB := Aside0.mk (Below.refl w.heap.size w)
 have H : ((sub_Right.f k l0).bind fun aM => (if aM = true then (sub_Put.l0 k ([] : List Int) l0 (l0.length : Int) 0) else (some ((⟨#[]⟩ : ByteArray), false)))) = some (r1, r2) := h
 clear h
 replace H := Option.bind_eq_some_iff.mp H
 obtain ⟨aM, dQ, H⟩ := H
 replace H : (if aM = true then (sub_Put.l0 k ([] : List Int) l0 (l0.length : Int) 0) else (some ((⟨#[]⟩ : ByteArray), false))) = some (r1, r2) := H
 have A2 := Aside0.mk dQ
 clear dQ
 by_cases c3 : aM = true
 ·subst c3
  have H1 : (sub_Put.l0 k ([] : List Int) l0 (l0.length : Int) 0) = some (r1, r2) := by rw [if_pos rfl] at H; exact H
  clear H
  have H := H1
  clear H1
  have H' := Aside0.mk H
  clear H
  go_enter Tryz.func134, Tryz.ntmps134
  go_wp2_with (first | ((with_reducible refine gate_callee (f := 123) rfl ?_); refine goesL_ (some 10) rfl rfl Tryz.func123 Z12 rfl #[.slice A0 l0.length c0] rfl Z3 ?_; (with_reducible refine (sub_Right.calls k _ _ l0 true _ ?side1 ?side2 A2.out).mono ?_); (case side1 => exact Z26); (case side2 => exact eC.out); rintro e w4 ⟨rfl, hb⟩; refine ⟨_, rfl, ?_⟩; replace HB := Aside0.mk (below_step Z2 hb); clear hb))
  go_loopg [4, 14] k (fun kq v4 eQ w' => ∃ (dR : List Int) (bO : Int), eQ = .int .i64 bO ∧ Aside0 (sub_Put.l0 kq dR l0 (l0.length : Int) bO = some (r1, r2)) ∧ Aside0 (kq ≤ k) ∧ Aside0 (Kd.R (Kd.int .u8) 5 w' w.heap.size (fun _ => True) v4 dR) ∧ Aside0 (Below w.heap.size w w'))
  case atStart => exact ⟨(([] : List Int)), (0), Z8, H', ⟨Nat.le_refl _⟩, ⟨Z28⟩, ⟨Z2⟩⟩
  case round =>
   clear H'
   try clear c1
   try clear p2
   try clear c3
   obtain ⟨dR, bO, rfl, HA, HK1, HO_4, HB⟩ := hrel
   cases gk with
   | zero => exact absurd HA.out (by simp [sub_Put.l0])
   | succ k1 =>
    have H := HA.out
    clear HA
    simp only [sub_Put.l0] at H
    by_cases c5 : bO < (l0.length : Int)
    ·rw [if_pos c5] at H
     have ca : decide (bO < (l0.length : Int)) = true := decide_eq_true c5
     clear c5
     by_cases c6 : 0 ≤ bO
     ·rw [if_pos c6] at H
      have ce : decide (0 ≤ bO) = true := decide_eq_true c6
      clear c6
      by_cases c7 : bO < (l0.length : Int)
      ·rw [if_pos c7] at H
       have cN : decide (bO < (l0.length : Int)) = true := decide_eq_true c7
       clear c7
       replace H := Option.bind_eq_some_iff.mp H
       obtain ⟨⟨bQ, ch⟩, fS, H⟩ := H
       replace H : (if dR.length + bQ.size < 140737488355328 then (sub_Put.l0 k1 (dR ++ bytesOf bQ) l0 (l0.length : Int) (wrap64 (bO + 1))) else (none)) = some (r1, r2) := H
       have A8 := Aside0.mk fS
       clear fS
       by_cases c9 : dR.length + bQ.size < 140737488355328
       ·rw [if_pos c9] at H
        have LMc9 := Aside0.mk c9
        clear c9
        obtain ⟨fA, hy106⟩ : ∃ y_ : List Int, y_ = (dR ++ bytesOf bQ) := ⟨_, rfl⟩
        replace H : (sub_Put.l0 k1 fA l0 (l0.length : Int) (wrap64 (bO + 1))) = some (r1, r2) := by first | (rw [hy106]; with_reducible exact H) | (have H2_ := (Option.bind_some _ _).symm.trans H; rw [hy106]; with_reducible exact H2_) | (have H2_ := (Option.bind_some _ _).symm.trans H; with_reducible exact H2_) | with_reducible exact H | (rw [hy106]; exact H) | exact H
        have Ny106 := Aside0.mk hy106
        clear hy106
        have H' := Aside0.mk H
        clear H
        have p102 : 0 ≤ (bO : Int) := of_decide_eq_true Z7
        have q102 : bO < (l0.length : Int) := of_decide_eq_true Z7
        obtain ⟨ad102, e102, hx102_0, hx102_1⟩ := at_T80 dv.out bO p102 q102
        cases e102
        replace hx102_0 := Sq.up HB.out hx102_0
        replace hx102_1 := Sq.up HB.out hx102_1
        replace p102 := eq_true p102
        replace q102 := eq_true q102
        go_wp2_with (first | ((with_reducible refine gate_dst (N := 6) rfl ?_); refine Sq.box 6 #[.int .i64 0, .string ⟨#[]⟩] 80 ?_; intro dw hg dL hbox hb; have cH := Aside0.mk (hbox); have GW103 := Aside0.mk (Sq.ge hg Z2); have gh := Aside0.mk (Sq.ge hg Z2); replace HO_4 := Aside0.mk (Kd.R_below (by (with_reducible repeat (first | apply Kd.R_alloc | apply Kd.R_drewN | apply Kd.R_drew)); exact HO_4.out) hb); replace HB := Aside0.mk (below_step Z2 hb); clear hb hbox hg; have hcz11_0 : dL.cell? ⟨dw, 0, none⟩ = some (.int .i64 0) := (blk_cell cH.out 0).trans rfl; have hcz11_1 : dL.cell? ⟨dw, 1, none⟩ = some (.string ⟨#[]⟩) := (blk_cell cH.out 1).trans rfl; have hfz11_0 := blk_frozen cH.out 0; have hfz11_1 := blk_frozen cH.out 1) | ((with_reducible refine gate_callee (f := 130) rfl ?_); refine goesL_ (some 23) rfl rfl Tryz.func130 Z12 rfl #[.int .i64 ((rd_T80 l0 bO).f0), .string ((rd_T80 l0 bO).f1)] rfl Z3 ?_; (with_reducible refine (frame_Put.calls ((rd_T80 l0 bO).f0) ((rd_T80 l0 bO).f1) bQ ch _ A8.out).mono ?_); rintro e iv ⟨rfl, hb⟩; refine ⟨_, rfl, ?_⟩; replace HO_4 := Aside0.mk (Kd.R_below (by (with_reducible repeat (first | apply Kd.R_alloc | apply Kd.R_drewN | apply Kd.R_drew)); exact (Kd.R_mono (Kd.R_far (p := ⟨dw, 1, none⟩) (Kd.R_far (p := ⟨dw, 0, none⟩) (Kd.R_types HO_4.out cH.out Z34) (fun _ hk => hk.2) (.int .i64 ((rd_T80 l0 bO).f0))) (fun _ hk => hk.2) (.string ((rd_T80 l0 bO).f1))) (fun _ h_ => h_.1))) hb); replace cH := Aside0.mk (blk_below (g := dw) (o := .cells #[.int .i64 ((rd_T80 l0 bO).f0), .string ((rd_T80 l0 bO).f1)] 80 (0, 0)) (by (with_reducible repeat (first | refine blk_drewN ?_ _ | refine blk_drew ?_ | refine blk_alloc ?_ _)); refine blk_put (cs := #[.int .i64 ((rd_T80 l0 bO).f0), .string ⟨#[]⟩]) ?_ 1 _ rfl; (with_reducible repeat (first | refine blk_drewN ?_ _ | refine blk_drew ?_ | refine blk_alloc ?_ _)); refine blk_put (cs := #[.int .i64 0, .string ⟨#[]⟩]) ?_ 0 _ rfl; (with_reducible repeat (first | refine blk_drewN ?_ _ | refine blk_drew ?_ | refine blk_alloc ?_ _)); exact cH.out) hb); replace HB := Aside0.mk (below_step Z24 hb); clear hb; (try clear hk)) | (at_builtin; refine print_append_str (w0 := w) w.heap.size rfl (.tmp 26) _ 64 9 5 rfl Tryz.underlying64 Tryz.underlying9 info5 u4 dR bQ rfl rfl ?aO ?aB ?aS ?aL ?_; (case aB => exact Z24); (case aO => exact (Kd.own_of_R (by (with_reducible repeat (first | apply Kd.R_alloc | apply Kd.R_drewN | apply Kd.R_drew)); exact HO_4.out))); (case aS => exact (below_size Z24)); (case aL => have := LMc9.out; omega); intro hP gi ho0 hb hg; have ho := Kd.R_of_own (h1 := fun _ => rfl) (ok := fun _ => True) ho0 (fun _ _ => trivial); clear ho0; have hat := True.intro; rw [← Ny106.out] at ho; change Kd.R (Kd.int .u8) 5 gi w.heap.size (fun _ => True) hP fA at ho; have gj := Aside0.mk (ho); replace cH := Aside0.mk (blk_grown (g := dw) (o := .cells #[.int .i64 ((rd_T80 l0 bO).f0), .string ((rd_T80 l0 bO).f1)] 80 (0, 0)) (by (with_reducible repeat (first | refine blk_drewN ?_ _ | refine blk_drew ?_ | refine blk_alloc ?_ _)); exact cH.out) hg (Kd.R_ne HO_4.out cH.out Z34)); replace HB := Aside0.mk (hb); clear HO_4; clear ho hb hg hat))
        go_roundg k1
        case measure => have := HK1.out; omega
        case rel => exact ⟨(fA), (wrap64 (bO + 1)), Z8, H', ⟨Z35⟩, ⟨by (with_reducible repeat (first | apply Kd.R_alloc | apply Kd.R_drewN | apply Kd.R_drew)); exact gj.out⟩, ⟨Z24⟩⟩
       ·rw [if_neg c9] at H
        exact absurd H Z27
      ·rw [if_neg c7] at H
       exact absurd H Z27
     ·rw [if_neg c6] at H
      exact absurd H Z27
    ·rw [if_neg c5] at H
     have ca : decide (bO < (l0.length : Int)) = false := decide_eq_false c5
     clear c5
     simp only [Option.some.injEq, Prod.mk.injEq] at H
     obtain ⟨rfl, rfl⟩ := H
     have hcv14 := own_string (P := Tryz.prog) Tryz.underlying64 Tryz.underlying5 Tryz.underlying9 (Kd.own_of_R HO_4.out)
     go_wp2
     go_ret2
     exact ⟨Z5, Z2⟩
 ·replace c3 := Bool.eq_false_iff.mpr c3
  subst c3
  have H1 : (some ((⟨#[]⟩ : ByteArray), false)) = some (r1, r2) := by rw [if_neg (show ¬ (false = true) by decide)] at H; exact H
  clear H
  have H := H1
  clear H1
  simp only [Option.some.injEq, Prod.mk.injEq] at H
  obtain ⟨rfl, rfl⟩ := H
  go_enter Tryz.func134, Tryz.ntmps134
  go_wp2_with (first | ((with_reducible refine gate_callee (f := 123) rfl ?_); refine goesL_ (some 10) rfl rfl Tryz.func123 Z12 rfl #[.slice A0 l0.length c0] rfl Z3 ?_; (with_reducible refine (sub_Right.calls k _ _ l0 false _ ?side1 ?side2 A2.out).mono ?_); (case side1 => exact Z26); (case side2 => exact eC.out); rintro e hQ ⟨rfl, hb⟩; refine ⟨_, rfl, ?_⟩; replace HB := Aside0.mk (below_step Z2 hb); clear hb))
  go_ret2
  exact ⟨Z5, Z2⟩

end Go.Proofs.YtnllanjoebjeiaaGreat.PV
