-- Written by mp.py, a program of this work (wip/tools); Lean checks it.
import Derived.Test.YtnllanjoebjeiaaGreatPVx0
import Derived.Test.YtnllanjoebjeiaaGreatStore
namespace Go.Proofs.YtnllanjoebjeiaaGreat.PV
theorem Z0 {P : Prop} (h : P := by first | ((with_reducible repeat (first | refine blk_drewN ?_ _ | refine blk_drew ?_ | refine blk_alloc ?_ _)); (with_reducible first | exact aE.out)) | (apply Pre.heap_norm; ((with_reducible repeat (first | refine blk_drewN ?_ _ | refine blk_drew ?_ | refine blk_alloc ?_ _ | apply Pre.blk_set_)); (with_reducible first | exact aE.out)); (first | (simp only [Sq.s1, Sq.s2, Sq.s3]; done) | (simp only [Sq.s1, Sq.s2, Sq.s3]; rfl) | rfl))) : P := h
theorem Z1 {P : Prop} (h : P := by repeat (first | (with_reducible first | exact HB.out | apply below_alloc | apply pw_below_drewN | apply below_drew1 | refine below_set ?_ cg.out) | exact HB.out)) : P := h
theorem Z2 {P : Prop} (h : P := by repeat (first | (with_reducible first | exact HB.out | apply below_alloc | apply pw_below_drewN | apply below_drew1) | exact HB.out)) : P := h
theorem Z3 {P : Prop} (h : P := by (try simp only [List.map_toArray, List.map_cons, List.map_nil]); first | done | rfl | (simp only [List.length_drop, List.length_take]; rfl)) : P := h
theorem Z4 {P : Prop} (h : P := by (with_reducible repeat (first | refine blk_drewN ?_ _ | refine blk_drew ?_ | refine blk_alloc ?_ _)); exact aE.out) : P := h
theorem Z5 {P : Prop} (h : P := by first | rfl | (simp [errW_none, errW_some] <;> rfl) | (simp [*, errW_none, errW_some] <;> rfl)) : P := h
theorem Z6 {P : Prop} (h : P := by repeat (first | exact (Kd.C_below bZ.out HB.out) | (with_reducible refine Kd.C_alloc ?_ _) | (with_reducible refine Kd.C_drewN ?_ _) | (with_reducible refine Kd.C_drew ?_))) : P := h
theorem Z7 {P : Prop} (h : P := by first | (with_reducible assumption) | assumption) : P := h
theorem Z8 {P : Prop} (h : P := by first | rfl | (simp; done) | (simp [*]; done)) : P := h
theorem Z9 {P : Prop} (h : P := by repeat (first | exact (Kd.C_below bY.out HB.out) | (with_reducible refine Kd.C_alloc ?_ _) | (with_reducible refine Kd.C_drewN ?_ _) | (with_reducible refine Kd.C_drew ?_))) : P := h
theorem Z10 {P : Prop} (h : P := by repeat (first | (with_reducible first | exact HB.out | apply below_alloc | apply pw_below_drewN | apply below_drew1 | refine below_set ?_ dW.out) | exact HB.out)) : P := h
theorem Z11 {P : Prop} (h : P := by repeat (first | exact Drawn0.refl _ | apply Drawn0.step)) : P := h
theorem Z12 {P : Prop} (h : P := by kernel_rfl) : P := h
theorem Z13 {P : Prop} (h : P := by repeat (first | (with_reducible first | exact HB.out | apply below_alloc | apply pw_below_drewN | apply below_drew1 | refine below_set ?_ (below_size HB.out)) | exact HB.out)) : P := h
theorem Z14 {P : Prop} (h : P := by (with_reducible repeat (first | refine blk_drewN ?_ _ | refine blk_drew ?_ | refine blk_alloc ?_ _)); exact bC.out) : P := h
theorem Z15 {P : Prop} (h : P := by (with_reducible repeat (first | apply Kd.R_alloc | apply Kd.R_drewN | apply Kd.R_drew)); exact HO.out) : P := h
theorem Z16 {P : Prop} (h : P := by rfl) : P := h
theorem Z17 {P : Prop} (h : P := by (with_reducible repeat (first | refine blk_drewN ?_ _ | refine blk_drew ?_ | refine blk_alloc ?_ _)); exact aY.out) : P := h
theorem Z18 {P : Prop} (h : P := by go_simp; rfl) : P := h
theorem Z19 {P : Prop} (h : P := by repeat (first | (with_reducible first | exact HB.out | apply below_alloc | apply pw_below_drewN | apply below_drew1 | refine below_set ?_ cP.out) | exact HB.out)) : P := h
theorem Z20 {P : Prop} (h : P := by repeat (first | (with_reducible first | exact HK.out | apply keep_drewN | apply keep_drew) | exact HK.out)) : P := h
theorem Z21 {P : Prop} (h : P := by repeat (first | (with_reducible first | exact HK.out | apply KeepBut.set_ | apply keep_drewN | apply keep_drew) | exact HK.out)) : P := h
theorem Z22 {P : Prop} (h : P := by first | omega | exact Nat.le_refl _) : P := h
theorem Z23 {P : Prop} (h : P := by omega) : P := h
theorem Z24 {P : Prop} (h : P := by repeat (first | (with_reducible first | exact HB.out | apply below_alloc | apply pw_below_drewN | apply below_drew1 | refine below_set ?_ gh.out) | exact HB.out)) : P := h
theorem Z25 {P : Prop} (h : P := by repeat (first | (with_reducible first | exact HB.out | apply below_alloc | apply pw_below_drewN | apply below_drew1 | refine below_set ?_ GEm.out) | exact HB.out)) : P := h
theorem Z26 {P : Prop} (h : P := by repeat (first | exact dv.out | (with_reducible refine Kd.C_alloc ?_ _) | (with_reducible refine Kd.C_drewN ?_ _) | (with_reducible refine Kd.C_drew ?_))) : P := h
theorem Z27 {P : Prop} (h : P := by simp) : P := h
theorem Z28 {P : Prop} (h : P := by first | exact Kd.R_nil _ _ _ _ _ | exact Kd.N_nil _ _ _ _ _ | exact Kd.V_nil _ _ _ _ _ | exact Kd.Q_nil _ _ _ _ _ | exact Kd.S_nil _ _ _ _ _) : P := h
theorem Z29 {P : Prop} (h : P := by first | ((with_reducible repeat (first | refine blk_drewN ?_ _ | refine blk_drew ?_ | refine blk_alloc ?_ _)); (with_reducible first | exact BKm.out | exact BKx.out)) | (apply Pre.heap_norm; ((with_reducible repeat (first | refine blk_drewN ?_ _ | refine blk_drew ?_ | refine blk_alloc ?_ _ | apply Pre.blk_set_)); (with_reducible first | exact BKm.out | exact BKx.out)); (simp only [Sq.s1, Sq.s2, Sq.s3]; rfl))) : P := h
theorem Z30 {P : Prop} (h : P := by (with_reducible repeat (first | refine blk_drewN ?_ _ | refine blk_drew ?_ | refine blk_alloc ?_ _)); exact BKm.out) : P := h
theorem Z31 {P : Prop} (h : P := by (with_reducible repeat (first | refine blk_drewN ?_ _ | refine blk_drew ?_ | refine blk_alloc ?_ _)); refine blk_put (cs := #[u1, .string p0, .string p1, .string p2, .string p3, .string h0, .string h1, .string id]) ?_ 6 _ rfl; (with_reducible repeat (first | refine blk_drewN ?_ _ | refine blk_drew ?_ | refine blk_alloc ?_ _)); exact bC.out) : P := h
theorem Z32 {P : Prop} (h : P := by (with_reducible repeat (first | refine blk_drewN ?_ _ | refine blk_drew ?_ | refine blk_alloc ?_ _)); refine blk_put (cs := #[u1, .string p0, .string p1, .string p2, .string p3, .string h0, .string h1, .string id]) ?_ 5 _ rfl; (with_reducible repeat (first | refine blk_drewN ?_ _ | refine blk_drew ?_ | refine blk_alloc ?_ _)); exact bC.out) : P := h
theorem Z33 {P : Prop} (h : P := by (with_reducible repeat (first | apply Kd.R_alloc | apply Kd.R_drewN | apply Kd.R_drew)); exact HO_13.out) : P := h
theorem Z34 {P : Prop} (h : P := by decide) : P := h
theorem Z35 {P : Prop} (h : P := by have := HK1.out; omega) : P := h
theorem Z36 {P : Prop} (h : P := by simp only [Sq.s1, Sq.s2, Sq.s3]) : P := h
theorem Z37 {P : Prop} (h : P := by (with_reducible repeat (first | apply Kd.R_alloc | apply Kd.R_drewN | apply Kd.R_drew)); exact Kd.R_mono (Kd.R_far (p := ⟨g, 6, none⟩) (Kd.R_types HO.out bC.out Z34) (fun _ hk => hk.2) _) (fun _ _ => trivial)) : P := h
theorem Z38 {P : Prop} (h : P := by (with_reducible repeat (first | apply Kd.R_alloc | apply Kd.R_drewN | apply Kd.R_drew)); exact Kd.R_mono (Kd.R_far (p := ⟨g, 5, none⟩) (Kd.R_types HO.out bC.out Z34) (fun _ hk => hk.2) _) (fun _ _ => trivial)) : P := h
theorem Z39 {P : Prop} (h : P := by go_simp) : P := h
theorem Z40 {P : Prop} (h : P := by (with_reducible repeat (first | apply Kd.R_alloc | apply Kd.R_drewN | apply Kd.R_drew)); exact HO_7.out) : P := h
theorem Z41 {P : Prop} (h : P := by repeat (first | (with_reducible first | exact HB.out | apply below_alloc | apply pw_below_drewN | apply below_drew1 | refine below_set ?_ cg.out | refine below_set ?_ cP.out) | exact HB.out)) : P := h
theorem Z42 {P : Prop} (h : P := by repeat (first | (with_reducible first | exact HB.out | apply below_alloc | apply pw_below_drewN | apply below_drew1 | refine below_set ?_ GEm.out | refine below_set ?_ GEx.out) | exact HB.out)) : P := h
theorem Z43 {P : Prop} (h : P := by repeat (first | exact (Kd.C_below dV.out HB.out) | (with_reducible refine Kd.C_alloc ?_ _) | (with_reducible refine Kd.C_drewN ?_ _) | (with_reducible refine Kd.C_drew ?_))) : P := h
theorem Z44 {P : Prop} (h : P := by repeat (first | exact (Kd.C_below dU.out HB.out) | (with_reducible refine Kd.C_alloc ?_ _) | (with_reducible refine Kd.C_drewN ?_ _) | (with_reducible refine Kd.C_drew ?_))) : P := h
end Go.Proofs.YtnllanjoebjeiaaGreat.PV
