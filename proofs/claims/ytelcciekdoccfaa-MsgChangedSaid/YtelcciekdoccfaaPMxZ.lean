-- Written by mp.py, a program of this work (wip/tools); Lean checks it.
import Derived.Test.YtelcciekdoccfaaPMx0
import Derived.Test.YtelcciekdoccfaaSq
namespace Go.Proofs.Ytelcciekdoccfaa.PM
theorem Z0 {P : Prop} (h : P := by repeat (first | (with_reducible first | exact HB.out | apply below_alloc | apply pw_below_drewN | apply below_drew1) | exact HB.out)) : P := h
theorem Z1 {P : Prop} (h : P := by repeat (first | (with_reducible first | exact HB.out | apply below_alloc | apply pw_below_drewN | apply below_drew1 | refine below_set ?_ ed.out) | exact HB.out)) : P := h
theorem Z2 {P : Prop} (h : P := by first | (with_reducible assumption) | assumption) : P := h
theorem Z3 {P : Prop} (h : P := by (with_reducible repeat (first | refine blk_drewN ?_ _ | refine blk_drew ?_ | refine blk_alloc ?_ _)); exact ae.out) : P := h
theorem Z4 {P : Prop} (h : P := by repeat (first | (with_reducible first | exact HB.out | apply below_alloc | apply pw_below_drewN | apply below_drew1 | refine below_set ?_ ed.out | refine below_set ?_ dd.out) | exact HB.out)) : P := h
theorem Z5 {P : Prop} (h : P := by kernel_rfl) : P := h
theorem Z6 {P : Prop} (h : P := by first | ((with_reducible repeat (first | refine blk_drewN ?_ _ | refine blk_drew ?_ | refine blk_alloc ?_ _)); (with_reducible first | exact ae.out | exact ac.out)) | (apply Pre.heap_norm; ((with_reducible repeat (first | refine blk_drewN ?_ _ | refine blk_drew ?_ | refine blk_alloc ?_ _ | apply Pre.blk_set_)); (with_reducible first | exact ae.out | exact ac.out)); (first | (simp only [List.setIfInBounds_toArray, List.set_cons_zero, List.set_cons_succ]; done) | (simp only [List.setIfInBounds_toArray, List.set_cons_zero, List.set_cons_succ]; rfl) | rfl))) : P := h
theorem Z7 {P : Prop} (h : P := by first | rfl | (simp; done) | (simp [*]; done)) : P := h
theorem Z8 {P : Prop} (h : P := by first | rfl | (simp [errW_none, errW_some] <;> rfl) | (simp [*, errW_none, errW_some] <;> rfl)) : P := h
theorem Z9 {P : Prop} (h : P := by (try simp only [List.map_toArray, List.map_cons, List.map_nil]); first | done | rfl | (simp only [List.length_drop, List.length_take]; rfl)) : P := h
theorem Z10 {P : Prop} (h : P := by repeat (first | exact Drawn0.refl _ | apply Drawn0.step)) : P := h
theorem Z11 {P : Prop} (h : P := by repeat (first | (with_reducible first | exact HB.out | apply below_alloc | apply pw_below_drewN | apply below_drew1 | refine below_set ?_ GEm.out) | exact HB.out)) : P := h
theorem Z12 {P : Prop} (h : P := by repeat (first | exact (Kd.C_below da.out HB.out) | (with_reducible refine Kd.C_alloc ?_ _) | (with_reducible refine Kd.C_drewN ?_ _) | (with_reducible refine Kd.C_drew ?_))) : P := h
theorem Z13 {P : Prop} (h : P := by rfl) : P := h
theorem Z14 {P : Prop} (h : P := by go_simp; rfl) : P := h
theorem Z15 {P : Prop} (h : P := by decide) : P := h
theorem Z16 {P : Prop} (h : P := by repeat (first | exact (Kd.C_below fK.out HB.out) | (with_reducible refine Kd.C_alloc ?_ _) | (with_reducible refine Kd.C_drewN ?_ _) | (with_reducible refine Kd.C_drew ?_))) : P := h
theorem Z17 {P : Prop} (h : P := by (with_reducible repeat (first | refine blk_drewN ?_ _ | refine blk_drew ?_ | refine blk_alloc ?_ _)); exact BKm.out) : P := h
theorem Z18 {P : Prop} (h : P := by simp only [List.setIfInBounds_toArray, List.set_cons_zero, List.set_cons_succ]) : P := h
theorem Z19 {P : Prop} (h : P := by (with_reducible repeat (first | refine blk_drewN ?_ _ | refine blk_drew ?_ | refine blk_alloc ?_ _)); exact ac.out) : P := h
theorem Z20 {P : Prop} (h : P := by repeat (first | (with_reducible first | exact HB.out | apply below_alloc | apply pw_below_drewN | apply below_drew1 | refine below_set ?_ GEm.out | refine below_set ?_ GEx.out) | exact HB.out)) : P := h
theorem Z21 {P : Prop} (h : P := by repeat (first | exact (Kd.C_below bW.out HB.out) | (with_reducible refine Kd.C_alloc ?_ _) | (with_reducible refine Kd.C_drewN ?_ _) | (with_reducible refine Kd.C_drew ?_))) : P := h
theorem Z22 {P : Prop} (h : P := by repeat (first | (with_reducible first | exact HB.out | apply below_alloc | apply pw_below_drewN | apply below_drew1 | refine below_set ?_ dd.out) | exact HB.out)) : P := h
theorem Z23 {P : Prop} (h : P := by repeat (first | exact (Kd.C_below cY.out HB.out) | (with_reducible refine Kd.C_alloc ?_ _) | (with_reducible refine Kd.C_drewN ?_ _) | (with_reducible refine Kd.C_drew ?_))) : P := h
theorem Z24 {P : Prop} (h : P := by repeat (first | exact (Kd.C_below cX.out HB.out) | (with_reducible refine Kd.C_alloc ?_ _) | (with_reducible refine Kd.C_drewN ?_ _) | (with_reducible refine Kd.C_drew ?_))) : P := h
theorem Z25 {P : Prop} (h : P := by (with_reducible repeat (first | refine blk_drewN ?_ _ | refine blk_drew ?_ | refine blk_alloc ?_ _)); exact BKx.out) : P := h
theorem Z26 {P : Prop} (h : P := by first | ((with_reducible repeat (first | refine blk_drewN ?_ _ | refine blk_drew ?_ | refine blk_alloc ?_ _)); (with_reducible first | exact BKm.out | exact BKx.out)) | (apply Pre.heap_norm; ((with_reducible repeat (first | refine blk_drewN ?_ _ | refine blk_drew ?_ | refine blk_alloc ?_ _ | apply Pre.blk_set_)); (with_reducible first | exact BKm.out | exact BKx.out)); (simp only [List.setIfInBounds_toArray, List.set_cons_zero, List.set_cons_succ]; rfl))) : P := h
theorem Z27 {P : Prop} (h : P := by omega) : P := h
theorem Z28 {P : Prop} (h : P := by go_simp) : P := h
theorem Z29 {P : Prop} (h : P := by repeat (first | exact (Kd.C_below fd.out HB.out) | (with_reducible refine Kd.C_alloc ?_ _) | (with_reducible refine Kd.C_drewN ?_ _) | (with_reducible refine Kd.C_drew ?_))) : P := h
theorem Z30 {P : Prop} (h : P := by have := HK1.out; omega) : P := h
theorem Z31 {P : Prop} (h : P := by first | omega | exact Nat.le_refl _) : P := h
theorem Z32 {P : Prop} (h : P := by repeat (first | exact (Kd.C_below dw.out HB.out) | (with_reducible refine Kd.C_alloc ?_ _) | (with_reducible refine Kd.C_drewN ?_ _) | (with_reducible refine Kd.C_drew ?_))) : P := h
theorem Z33 {P : Prop} (h : P := by repeat (first | exact (Kd.C_below dv.out HB.out) | (with_reducible refine Kd.C_alloc ?_ _) | (with_reducible refine Kd.C_drewN ?_ _) | (with_reducible refine Kd.C_drew ?_))) : P := h
theorem Z34 {P : Prop} (h : P := by repeat (first | exact (Kd.C_below fd.out Z4) | (with_reducible refine Kd.C_alloc ?_ _) | (with_reducible refine Kd.C_drewN ?_ _) | (with_reducible refine Kd.C_drew ?_))) : P := h
theorem Z35 {P : Prop} (h : P := by repeat (first | exact (Kd.C_below bW.out Z4) | (with_reducible refine Kd.C_alloc ?_ _) | (with_reducible refine Kd.C_drewN ?_ _) | (with_reducible refine Kd.C_drew ?_))) : P := h
end Go.Proofs.Ytelcciekdoccfaa.PM
