-- Written by mp.py, a program of this work (wip/tools); Lean checks it.
import Derived.Test.YtccjakjjaemmkaaPAEx0
import Derived.Test.YtccjakjjaemmkaaSqB
import Derived.Test.YtccjakjjaemmkaaSqC
namespace Go.Proofs.Ytccjakjjaemmkaa.PAE
theorem Z0 {P : Prop} (h : P := by repeat (first | (with_reducible first | exact HB.out | apply below_alloc | apply pw_below_drewN | apply below_drew1 | refine below_set ?_ bV.out) | exact HB.out)) : P := h
theorem Z1 {P : Prop} (h : P := by first | ((with_reducible repeat (first | refine blk_drewN ?_ _ | refine blk_drew ?_ | refine blk_alloc ?_ _)); (with_reducible first | exact al.out)) | (apply Pre.heap_norm; ((with_reducible repeat (first | refine blk_drewN ?_ _ | refine blk_drew ?_ | refine blk_alloc ?_ _ | apply Pre.blk_set_)); (with_reducible first | exact al.out)); (first | (simp only [Sq.s1, Sq.s2, Sq.s3]; done) | (simp only [Sq.s1, Sq.s2, Sq.s3]; rfl) | rfl))) : P := h
theorem Z2 {P : Prop} (h : P := by repeat (first | (with_reducible first | exact HB.out | apply below_alloc | apply pw_below_drewN | apply below_drew1) | exact HB.out)) : P := h
theorem Z3 {P : Prop} (h : P := by (with_reducible repeat (first | refine blk_drewN ?_ _ | refine blk_drew ?_ | refine blk_alloc ?_ _)); exact al.out) : P := h
theorem Z4 {P : Prop} (h : P := by (try simp only [List.map_toArray, List.map_cons, List.map_nil]); first | done | rfl | (simp only [List.length_drop, List.length_take]; rfl)) : P := h
theorem Z5 {P : Prop} (h : P := by repeat (first | exact (Kd.C_below bZ.out HB.out) | (with_reducible refine Kd.C_alloc ?_ _) | (with_reducible refine Kd.C_drewN ?_ _) | (with_reducible refine Kd.C_drew ?_))) : P := h
theorem Z6 {P : Prop} (h : P := by first | rfl | (simp [errW_none, errW_some] <;> rfl) | (simp [*, errW_none, errW_some] <;> rfl)) : P := h
theorem Z7 {P : Prop} (h : P := by repeat (first | exact (Kd.C_below cc.out HB.out) | (with_reducible refine Kd.C_alloc ?_ _) | (with_reducible refine Kd.C_drewN ?_ _) | (with_reducible refine Kd.C_drew ?_))) : P := h
theorem Z8 {P : Prop} (h : P := by first | (with_reducible assumption) | assumption) : P := h
theorem Z9 {P : Prop} (h : P := by first | ((with_reducible repeat (first | refine blk_drewN ?_ _ | refine blk_drew ?_ | refine blk_alloc ?_ _)); (with_reducible first | exact al.out | exact dV.out)) | (apply Pre.heap_norm; ((with_reducible repeat (first | refine blk_drewN ?_ _ | refine blk_drew ?_ | refine blk_alloc ?_ _ | apply Pre.blk_set_)); (with_reducible first | exact al.out | exact dV.out)); (first | (simp only [Sq.s1, Sq.s2, Sq.s3]; done) | (simp only [Sq.s1, Sq.s2, Sq.s3]; rfl) | rfl))) : P := h
theorem Z10 {P : Prop} (h : P := by first | rfl | (simp; done) | (simp [*]; done)) : P := h
theorem Z11 {P : Prop} (h : P := by kernel_rfl) : P := h
theorem Z12 {P : Prop} (h : P := by (with_reducible repeat (first | apply Kd.R_alloc | apply Kd.R_drewN | apply Kd.R_drew)); exact bS.out) : P := h
theorem Z13 {P : Prop} (h : P := by first | (simp only [putAll, Act.put, Sq.s1, Sq.s2, Sq.s3]; done) | (simp only [putAll, Act.put, Sq.s1, Sq.s2, Sq.s3]; rfl)) : P := h
theorem Z14 {P : Prop} (h : P := by rfl) : P := h
theorem Z15 {P : Prop} (h : P := by first | ((with_reducible repeat (first | refine blk_drewN ?_ _ | refine blk_drew ?_ | refine blk_alloc ?_ _)); (with_reducible first | exact eY.out)) | (apply Pre.heap_norm; ((with_reducible repeat (first | refine blk_drewN ?_ _ | refine blk_drew ?_ | refine blk_alloc ?_ _ | apply Pre.blk_set_)); (with_reducible first | exact eY.out)); (first | (simp only [Sq.s1, Sq.s2, Sq.s3]; done) | (simp only [Sq.s1, Sq.s2, Sq.s3]; rfl) | rfl))) : P := h
theorem Z16 {P : Prop} (h : P := by repeat (first | exact Drawn0.refl _ | apply Drawn0.step)) : P := h
theorem Z17 {P : Prop} (h : P := by repeat (first | (with_reducible first | exact HB.out | apply below_alloc | apply pw_below_drewN | apply below_drew1 | refine below_set ?_ GEm.out) | exact HB.out)) : P := h
theorem Z18 {P : Prop} (h : P := by first | ((with_reducible repeat (first | refine blk_drewN ?_ _ | refine blk_drew ?_ | refine blk_alloc ?_ _)); (with_reducible first | exact al.out | exact cB.out)) | (apply Pre.heap_norm; ((with_reducible repeat (first | refine blk_drewN ?_ _ | refine blk_drew ?_ | refine blk_alloc ?_ _ | apply Pre.blk_set_)); (with_reducible first | exact al.out | exact cB.out)); (first | (simp only [Sq.s1, Sq.s2, Sq.s3]; done) | (simp only [Sq.s1, Sq.s2, Sq.s3]; rfl) | rfl))) : P := h
theorem Z19 {P : Prop} (h : P := by repeat (first | (with_reducible first | exact HB.out | apply below_alloc | apply pw_below_drewN | apply below_drew1 | refine below_set ?_ bV.out | refine below_set ?_ fE.out) | exact HB.out)) : P := h
theorem Z20 {P : Prop} (h : P := by first | omega | exact Nat.le_refl _) : P := h
theorem Z21 {P : Prop} (h : P := by decide) : P := h
theorem Z22 {P : Prop} (h : P := by repeat (first | exact dS.out | (with_reducible refine Kd.C_alloc ?_ _) | (with_reducible refine Kd.C_drewN ?_ _) | (with_reducible refine Kd.C_drew ?_))) : P := h
theorem Z23 {P : Prop} (h : P := by (with_reducible repeat (first | refine blk_drewN ?_ _ | refine blk_drew ?_ | refine blk_alloc ?_ _)); exact BKm.out) : P := h
theorem Z24 {P : Prop} (h : P := by repeat (first | (with_reducible first | exact HB.out | apply below_alloc | apply pw_below_drewN | apply below_drew1 | refine below_set ?_ jv.out) | exact HB.out)) : P := h
theorem Z25 {P : Prop} (h : P := by repeat (first | (with_reducible first | exact HB.out | apply below_alloc | apply pw_below_drewN | apply below_drew1 | refine below_set ?_ bV.out | refine below_set ?_ jv.out) | exact HB.out)) : P := h
theorem Z26 {P : Prop} (h : P := by repeat (first | exact (Kd.C_below eR.out HB.out) | (with_reducible refine Kd.C_alloc ?_ _) | (with_reducible refine Kd.C_drewN ?_ _) | (with_reducible refine Kd.C_drew ?_))) : P := h
theorem Z27 {P : Prop} (h : P := by repeat (first | exact (Kd.C_below eQ.out HB.out) | (with_reducible refine Kd.C_alloc ?_ _) | (with_reducible refine Kd.C_drewN ?_ _) | (with_reducible refine Kd.C_drew ?_))) : P := h
theorem Z28 {P : Prop} (h : P := by repeat (first | (with_reducible first | exact HB.out | apply below_alloc | apply pw_below_drewN | apply below_drew1 | refine below_set ?_ GEm.out | refine below_set ?_ GEx.out) | exact HB.out)) : P := h
theorem Z29 {P : Prop} (h : P := by omega) : P := h
theorem Z30 {P : Prop} (h : P := by go_simp; rfl) : P := h
theorem Z31 {P : Prop} (h : P := by repeat (first | (with_reducible first | exact HB.out | apply below_alloc | apply pw_below_drewN | apply below_drew1 | refine below_set ?_ kK.out) | exact HB.out)) : P := h
theorem Z32 {P : Prop} (h : P := by repeat (first | (with_reducible first | exact HB.out | apply below_alloc | apply pw_below_drewN | apply below_drew1 | refine below_set ?_ fE.out) | exact HB.out)) : P := h
theorem Z33 {P : Prop} (h : P := by repeat (first | exact (Kd.C_below fI.out HB.out) | (with_reducible refine Kd.C_alloc ?_ _) | (with_reducible refine Kd.C_drewN ?_ _) | (with_reducible refine Kd.C_drew ?_))) : P := h
theorem Z34 {P : Prop} (h : P := by repeat (first | exact (Kd.C_below fH.out HB.out) | (with_reducible refine Kd.C_alloc ?_ _) | (with_reducible refine Kd.C_drewN ?_ _) | (with_reducible refine Kd.C_drew ?_))) : P := h
theorem Z35 {P : Prop} (h : P := by simp) : P := h
theorem Z36 {P : Prop} (h : P := by with_reducible assumption) : P := h
theorem Z37 {P : Prop} (h : P := by (with_reducible repeat (first | refine blk_drewN ?_ _ | refine blk_drew ?_ | refine blk_alloc ?_ _)); exact BKx.out) : P := h
theorem Z38 {P : Prop} (h : P := by simp only [Sq.s1, Sq.s2, Sq.s3, List.length_nil]) : P := h
theorem Z39 {P : Prop} (h : P := by first | ((with_reducible repeat (first | refine blk_drewN ?_ _ | refine blk_drew ?_ | refine blk_alloc ?_ _)); (with_reducible first | exact BKm.out | exact BKx.out)) | (apply Pre.heap_norm; ((with_reducible repeat (first | refine blk_drewN ?_ _ | refine blk_drew ?_ | refine blk_alloc ?_ _ | apply Pre.blk_set_)); (with_reducible first | exact BKm.out | exact BKx.out)); (simp only [Sq.s1, Sq.s2, Sq.s3]; rfl))) : P := h
theorem Z40 {P : Prop} (h : P := by repeat (first | (with_reducible first | exact HB.out | apply below_alloc | apply pw_below_drewN | apply below_drew1 | refine below_set ?_ bV.out | refine below_set ?_ jD.out) | exact HB.out)) : P := h
theorem Z41 {P : Prop} (h : P := by simp only [Sq.s1, Sq.s2, Sq.s3]) : P := h
theorem Z42 {P : Prop} (h : P := by repeat (first | exact (Kd.C_below fG.out HB.out) | (with_reducible refine Kd.C_alloc ?_ _) | (with_reducible refine Kd.C_drewN ?_ _) | (with_reducible refine Kd.C_drew ?_))) : P := h
theorem Z43 {P : Prop} (h : P := by repeat (first | exact (Kd.C_below fF.out HB.out) | (with_reducible refine Kd.C_alloc ?_ _) | (with_reducible refine Kd.C_drewN ?_ _) | (with_reducible refine Kd.C_drew ?_))) : P := h
theorem Z44 {P : Prop} (h : P := by (with_reducible repeat (first | refine blk_drewN ?_ _ | refine blk_drew ?_ | refine blk_alloc ?_ _)); exact cB.out) : P := h
theorem Z45 {P : Prop} (h : P := by rw [hr_.out]; exact Bool.false_ne_true) : P := h
theorem Z46 {P : Prop} (h : P := by repeat (first | exact (Kd.C_below dS.out HB.out) | (with_reducible refine Kd.C_alloc ?_ _) | (with_reducible refine Kd.C_drewN ?_ _) | (with_reducible refine Kd.C_drew ?_))) : P := h
theorem Z47 {P : Prop} (h : P := by (with_reducible repeat (first | apply Kd.R_alloc | apply Kd.R_drewN | apply Kd.R_drew)); exact (Kd.R_mono (Kd.R_far (p := ⟨dK, 1, none⟩) (Kd.R_far (p := ⟨dK, 0, none⟩) (Kd.R_types HO_4.out cB.out Z21) (fun _ hk => hk.2) (.int .i64 ((rd_T48 l0 cb).f0))) (fun _ hk => hk.2) (.string ((rd_T48 l0 cb).f1))) (fun _ h_ => h_.1))) : P := h
theorem Z48 {P : Prop} (h : P := by repeat (first | (with_reducible first | exact HB.out | apply below_alloc | apply pw_below_drewN | apply below_drew1 | refine below_set ?_ hN.out) | exact HB.out)) : P := h
theorem Z49 {P : Prop} (h : P := by have := HK1.out; omega) : P := h
theorem Z50 {P : Prop} (h : P := by (with_reducible repeat (first | apply Kd.N_alloc | apply Kd.N_drewN | apply Kd.N_drew)); exact iF.out) : P := h
theorem Z51 {P : Prop} (h : P := by (with_reducible repeat (first | apply Kd.R_alloc | apply Kd.R_drewN | apply Kd.R_drew)); exact HO_4.out) : P := h
theorem Z52 {P : Prop} (h : P := by (with_reducible repeat (first | refine blk_drewN ?_ _ | refine blk_drew ?_ | refine blk_alloc ?_ _)); exact eY.out) : P := h
theorem Z53 {P : Prop} (h : P := by (with_reducible repeat (first | apply Kd.R_alloc | apply Kd.R_drewN | apply Kd.R_drew)); exact gR.out) : P := h
theorem Z54 {P : Prop} (h : P := by go_simp) : P := h
theorem Z55 {P : Prop} (h : P := by repeat (first | (with_reducible exact gE.out) | (with_reducible refine Kd.C_alloc ?_ _) | (with_reducible refine Kd.C_drewN ?_ _) | (with_reducible refine Kd.C_drew ?_) | exact gE.out)) : P := h
theorem Z56 {P : Prop} (h : P := by repeat (first | (with_reducible exact gD.out) | (with_reducible refine Kd.C_alloc ?_ _) | (with_reducible refine Kd.C_drewN ?_ _) | (with_reducible refine Kd.C_drew ?_) | exact gD.out)) : P := h
theorem Z57 {P : Prop} (h : P := by repeat (first | exact (Kd.C_below hB.out HB.out) | (with_reducible refine Kd.C_alloc ?_ _) | (with_reducible refine Kd.C_drewN ?_ _) | (with_reducible refine Kd.C_drew ?_))) : P := h
theorem Z58 {P : Prop} (h : P := by repeat (first | exact (Kd.C_below hA.out HB.out) | (with_reducible refine Kd.C_alloc ?_ _) | (with_reducible refine Kd.C_drewN ?_ _) | (with_reducible refine Kd.C_drew ?_))) : P := h
theorem Z59 {P : Prop} (h : P := by repeat (first | exact (Kd.C_below kS.out HB.out) | (with_reducible refine Kd.C_alloc ?_ _) | (with_reducible refine Kd.C_drewN ?_ _) | (with_reducible refine Kd.C_drew ?_))) : P := h
theorem Z60 {P : Prop} (h : P := by repeat (first | exact (Kd.C_below bZ.out Z0) | (with_reducible refine Kd.C_alloc ?_ _) | (with_reducible refine Kd.C_drewN ?_ _) | (with_reducible refine Kd.C_drew ?_))) : P := h
theorem Z61 {P : Prop} (h : P := by have := HK1.out; first | omega | exact Nat.le_refl _) : P := h
theorem Z62 {P : Prop} (h : P := by first | exact Kd.R_nil _ _ _ _ _ | exact Kd.N_nil _ _ _ _ _ | exact Kd.V_nil _ _ _ _ _ | exact Kd.Q_nil _ _ _ _ _ | exact Kd.S_nil _ _ _ _ _) : P := h
end Go.Proofs.Ytccjakjjaemmkaa.PAE
