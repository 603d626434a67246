-- Written by mp.py, a program of this work (wip/tools); Lean checks it.
import Derived.Test.YtnifhgackjkkbaaPNx0
import Derived.Test.YtnifhgackjkkbaaSqB
import Derived.Test.YtnifhgackjkkbaaSqC
namespace Go.Proofs.Ytnifhgackjkkbaa.PN
theorem Z0 {P : Prop} (h : P := by repeat (first | (with_reducible first | exact HB.out | apply below_alloc | apply pw_below_drewN | apply below_drew1) | exact HB.out)) : P := h
theorem Z1 {P : Prop} (h : P := by first | ((with_reducible repeat (first | refine blk_drewN ?_ _ | refine blk_drew ?_ | refine blk_alloc ?_ _)); (with_reducible first | exact aG.out)) | (apply Pre.heap_norm; ((with_reducible repeat (first | refine blk_drewN ?_ _ | refine blk_drew ?_ | refine blk_alloc ?_ _ | apply Pre.blk_set_)); (with_reducible first | exact aG.out)); (first | (simp only [Sq.s1, Sq.s2, Sq.s3]; done) | (simp only [Sq.s1, Sq.s2, Sq.s3]; rfl) | rfl))) : P := h
theorem Z2 {P : Prop} (h : P := by first | rfl | (simp [errW_none, errW_some] <;> rfl) | (simp [*, errW_none, errW_some] <;> rfl)) : P := h
theorem Z3 {P : Prop} (h : P := by repeat (first | (with_reducible first | exact HB.out | apply below_alloc | apply pw_below_drewN | apply below_drew1 | refine below_set ?_ cL.out) | exact HB.out)) : P := h
theorem Z4 {P : Prop} (h : P := by (try simp only [List.map_toArray, List.map_cons, List.map_nil]); first | done | rfl | (simp only [List.length_drop, List.length_take]; rfl)) : P := h
theorem Z5 {P : Prop} (h : P := by first | (with_reducible assumption) | assumption) : P := h
theorem Z6 {P : Prop} (h : P := by (with_reducible repeat (first | refine blk_drewN ?_ _ | refine blk_drew ?_ | refine blk_alloc ?_ _)); exact aG.out) : P := h
theorem Z7 {P : Prop} (h : P := by first | rfl | (simp; done) | (simp [*]; done)) : P := h
theorem Z8 {P : Prop} (h : P := by repeat (first | (with_reducible first | exact HB.out | apply below_alloc | apply pw_below_drewN | apply below_drew1 | refine below_set ?_ eh.out) | exact HB.out)) : P := h
theorem Z10 {P : Prop} (h : P := by repeat (first | exact Drawn0.refl _ | apply Drawn0.step)) : P := h
theorem Z11 {P : Prop} (h : P := by first | exact Kd.S_nil _ _ _ _ _ | exact Kd.N_nil _ _ _ _ _ | exact Kd.V_nil _ _ _ _ _ | exact Kd.Q_nil _ _ _ _ _ | exact Kd.R_nil _ _ _ _ _) : P := h
theorem Z12 {P : Prop} (h : P := by (with_reducible repeat (first | apply Kd.S_alloc | apply Kd.S_drewN | apply Kd.S_drew)); exact HO_5.out) : P := h
theorem Z13 {P : Prop} (h : P := by repeat (first | (with_reducible first | exact HB.out | apply below_alloc | apply pw_below_drewN | apply below_drew1 | refine below_set ?_ cL.out | refine below_set ?_ fn.out) | exact HB.out)) : P := h
theorem Z14 {P : Prop} (h : P := by (with_reducible repeat (first | refine blk_drewN ?_ _ | refine blk_drew ?_ | refine blk_alloc ?_ _)); apply blk_puts6; (with_reducible repeat (first | refine blk_drewN ?_ _ | refine blk_drew ?_ | refine blk_alloc ?_ _)); exact aH.out) : P := h
theorem Z15 {P : Prop} (h : P := by repeat (first | (with_reducible first | exact HK.out | apply KeepBut.set_ | apply keep_drewN | apply keep_drew | apply keep_alloc) | exact HK.out)) : P := h
theorem Z16 {P : Prop} (h : P := by kernel_rfl) : P := h
theorem Z17 {P : Prop} (h : P := by repeat (first | exact (Kd.C_below dZ.out HB.out) | (with_reducible refine Kd.C_alloc ?_ _) | (with_reducible refine Kd.C_drewN ?_ _) | (with_reducible refine Kd.C_drew ?_))) : P := h
theorem Z18 {P : Prop} (h : P := by decide) : P := h
theorem Z9 {P : Prop} (h : P := by (with_reducible repeat (first | apply Kd.S_alloc | apply Kd.S_drewN | apply Kd.S_drew)); exact (Kd.S_mono (Kd.S_far (p := ⟨aQ, 5, none⟩) (Kd.S_far (p := ⟨aQ, 4, none⟩) (Kd.S_far (p := ⟨aQ, 3, none⟩) (Kd.S_far (p := ⟨aQ, 2, none⟩) (Kd.S_far (p := ⟨aQ, 1, none⟩) (Kd.S_far (p := ⟨aQ, 0, none⟩) (Kd.S_types HO_5.out aH.out Z18) (fun _ hk => hk.2) (.int .i64 aI)) (fun _ hk => hk.2) (.int .i64 aN)) (fun _ hk => hk.2) (.string aJ)) (fun _ hk => hk.2) (.string cK)) (fun _ hk => hk.2) (.string cI)) (fun _ hk => hk.2) (.int .i64 bJ)) (fun _ h_ => h_.1))) : P := h
theorem Z19 {P : Prop} (h : P := by repeat (first | (with_reducible first | exact HI0.out | apply IsS45.alloc | apply IsS45.drewN | apply IsS45.drew | apply IsS45.set_0 | apply IsS45.set_1 | refine IsS45.far ?_ di.out _) | exact HI0.out)) : P := h
theorem Z20 {P : Prop} (h : P := by repeat (first | (with_reducible first | exact HB.out | apply below_alloc | apply pw_below_drewN | apply below_drew1 | refine below_set ?_ (IsS45.ge HI0.out) | refine below_set ?_ cL.out) | exact HB.out)) : P := h
theorem Z21 {P : Prop} (h : P := by repeat (first | (with_reducible first | exact HK.out | apply KeepBut.set_ | apply keep_drewN | apply keep_drew | apply keep_alloc | refine keep_far ?_ cS.out _) | exact HK.out)) : P := h
theorem Z22 {P : Prop} (h : P := by repeat (first | exact (Kd.C_below dI.out HB.out) | (with_reducible refine Kd.C_alloc ?_ _) | (with_reducible refine Kd.C_drewN ?_ _) | (with_reducible refine Kd.C_drew ?_))) : P := h
theorem Z23 {P : Prop} (h : P := by go_simp; rfl) : P := h
theorem Z24 {P : Prop} (h : P := by (with_reducible repeat (first | apply Kd.S_alloc | apply Kd.S_drewN | apply Kd.S_drew)); exact Kd.S_mono (Kd.S_far (p := ⟨aQ, 5, none⟩) (Kd.S_far (p := ⟨aQ, 4, none⟩) (Kd.S_far (p := ⟨aQ, 3, none⟩) (Kd.S_far (p := ⟨aQ, 2, none⟩) (Kd.S_far (p := ⟨aQ, 1, none⟩) (Kd.S_far (p := ⟨aQ, 0, none⟩) (Kd.S_types HO_5.out aH.out Z18) (fun _ hk => hk.2) (.int .i64 aI)) (fun _ hk => hk.2) (.int .i64 aN)) (fun _ hk => hk.2) (.string aJ)) (fun _ hk => hk.2) (.string cK)) (fun _ hk => hk.2) (.string cI)) (fun _ hk => hk.2) (.int .i64 bJ)) (fun _ hk => trivial)) : P := h
theorem Z25 {P : Prop} (h : P := by omega) : P := h
theorem Z26 {P : Prop} (h : P := by repeat (first | (with_reducible first | exact HB.out | apply below_alloc | apply pw_below_drewN | apply below_drew1 | refine below_set ?_ GEm.out) | exact HB.out)) : P := h
theorem Z27 {P : Prop} (h : P := by rfl) : P := h
theorem Z28 {P : Prop} (h : P := by (with_reducible repeat (first | apply Kd.R_alloc | apply Kd.R_drewN | apply Kd.R_drew)); exact HO_5.out) : P := h
theorem Z29 {P : Prop} (h : P := by first | ((with_reducible repeat (first | refine blk_drewN ?_ _ | refine blk_drew ?_ | refine blk_alloc ?_ _)); (with_reducible first | exact BKm.out | exact BKx.out)) | (apply Pre.heap_norm; ((with_reducible repeat (first | refine blk_drewN ?_ _ | refine blk_drew ?_ | refine blk_alloc ?_ _ | apply Pre.blk_set_)); (with_reducible first | exact BKm.out | exact BKx.out)); (simp only [Sq.s1, Sq.s2, Sq.s3]; rfl))) : P := h
theorem Z30 {P : Prop} (h : P := by simp only [Sq.s1, Sq.s2, Sq.s3]) : P := h
theorem Z31 {P : Prop} (h : P := by repeat (first | (with_reducible first | exact HB.out | apply below_alloc | apply pw_below_drewN | apply below_drew1 | refine below_set ?_ (IsS45.ge HI0.out)) | exact HB.out)) : P := h
theorem Z32 {P : Prop} (h : P := by (with_reducible repeat (first | refine blk_drewN ?_ _ | refine blk_drew ?_ | refine blk_alloc ?_ _)); exact BKm.out) : P := h
theorem Z33 {P : Prop} (h : P := by repeat (first | (with_reducible first | exact HI0.out | apply IsS45.alloc | apply IsS45.drewN | apply IsS45.drew | apply IsS45.set_0 | apply IsS45.set_1) | exact HI0.out)) : P := h
theorem Z34 {P : Prop} (h : P := by first | omega | exact Nat.le_refl _) : P := h
theorem Z35 {P : Prop} (h : P := by (with_reducible repeat (first | refine blk_drewN ?_ _ | refine blk_drew ?_ | refine blk_alloc ?_ _)); apply blk_puts6; (with_reducible repeat (first | refine blk_drewN ?_ _ | refine blk_drew ?_ | refine blk_alloc ?_ _)); exact aG.out) : P := h
theorem Z36 {P : Prop} (h : P := by simp) : P := h
theorem Z37 {P : Prop} (h : P := by (with_reducible repeat (first | refine blk_drewN ?_ _ | refine blk_drew ?_ | refine blk_alloc ?_ _)); exact aH.out) : P := h
theorem Z38 {P : Prop} (h : P := by go_simp) : P := h
theorem Z39 {P : Prop} (h : P := by repeat (first | (with_reducible first | exact HB.out | apply below_alloc | apply pw_below_drewN | apply below_drew1 | refine below_set ?_ GEm.out | refine below_set ?_ GEx.out) | exact HB.out)) : P := h
theorem Z40 {P : Prop} (h : P := by repeat (first | exact (Kd.C_below dD.out HB.out) | (with_reducible refine Kd.C_alloc ?_ _) | (with_reducible refine Kd.C_drewN ?_ _) | (with_reducible refine Kd.C_drew ?_))) : P := h
theorem Z41 {P : Prop} (h : P := by repeat (first | exact (Kd.C_below dC.out HB.out) | (with_reducible refine Kd.C_alloc ?_ _) | (with_reducible refine Kd.C_drewN ?_ _) | (with_reducible refine Kd.C_drew ?_))) : P := h
theorem Z42 {P : Prop} (h : P := by repeat (first | exact (Kd.C_below dx.out HB.out) | (with_reducible refine Kd.C_alloc ?_ _) | (with_reducible refine Kd.C_drewN ?_ _) | (with_reducible refine Kd.C_drew ?_))) : P := h
theorem Z43 {P : Prop} (h : P := by repeat (first | exact (Kd.C_below dw.out HB.out) | (with_reducible refine Kd.C_alloc ?_ _) | (with_reducible refine Kd.C_drewN ?_ _) | (with_reducible refine Kd.C_drew ?_))) : P := h
theorem Z44 {P : Prop} (h : P := by repeat (first | exact (Kd.C_below gX.out HB.out) | (with_reducible refine Kd.C_alloc ?_ _) | (with_reducible refine Kd.C_drewN ?_ _) | (with_reducible refine Kd.C_drew ?_))) : P := h
theorem Z45 {P : Prop} (h : P := by have := ka.out; first | omega | exact Nat.le_refl _) : P := h
theorem Z46 {P : Prop} (h : P := by rw [← add_field _ _ 1 Z25]; exact hc 1 _ rfl) : P := h
end Go.Proofs.Ytnifhgackjkkbaa.PN
