-- Written by mp.py, a program of this work (wip/tools), out of the translation; Lean checks it.
import Derived.Test.YtnllanjoebjeiaaGreatPVxZ
import Derived.Test.YtnllanjoebjeiaaGreatPVxaddr
import Derived.Test.YtnllanjoebjeiaaGreatPVxfieldRight
import Derived.Test.YtnllanjoebjeiaaGreatPVxfieldwritertwo
import Derived.Test.YtnllanjoebjeiaaGreatPVxframe
import Derived.Test.YtnllanjoebjeiaaGreatPVxsub
import Derived.Test.YtnllanjoebjeiaaGreatStore
namespace Go.Proofs.YtnllanjoebjeiaaGreat.PV
open Go.RowKit Go.Proofs.YtnllanjoebjeiaaGreatW.PrintWords Go.Proofs.YtnllanjoebjeiaaGreatW.PrintLast Go.Proofs.YtnllanjoebjeiaaGreatW.PrintMore
attribute [local go_sem] max2_int min2_int max_two min_two max_three min_three max_four min_four   -- for this text's walks alone
set_option linter.unusedVariables false
set_option linter.unusedSimpArgs false

/-! ### field_Put: function 131 -/
/-- The bytes of a message's own fields. -/
def field_Put.w (k : Nat) (ar au ac ab ao ai ae : Int) (ah : ByteArray) : Option (List Int) := if ar = 7 then field_writer_two.l k [0, ai, ab] [] 0 else if ar = 8 then field_writer_two.l k [ai] [] 0 else if ar = 9 then field_writer_two.l k [wrap64 (ao * 32768), ac, ab] [] 0 else if ar = 10 then (field_writer_two.l k [wrap64 (au * 256), ae, ab] [] 0).bind fun xs => (addr_Short.f ah).bind fun s => (if xs.length + (if s.2 = true ∧ au = 3 then s.1 else ah).size < 140737488355328 then some (xs ++ bytesOf (if s.2 = true ∧ au = 3 then s.1 else ah)) else none) else none
def field_Put.c (k : Nat) (ar : Int) (af : List S80) (xs : List Int) : Option (ByteArray × Bool) := (sub_Put.f k af).bind fun s => (if xs.length + s.1.size ≤ 9223372036854775807 then frame_Put.f (wrap64 (wrap64 (ar - 7) + 2)) (strOfNums xs ++ s.1) else none)
def field_Put.f (k : Nat) (ar : Int) (aC : Int) (az : Int) (ay : ByteArray) (aA : Int) (au : Int) (aw : ByteArray) (av : Int) (aD : Int) (ax : ByteArray) (am : Int) (ag : ByteArray) (ac : Int) (aq : Int) (ab : Int) (ao : Int) (ak : Int) (ai : Int) (ae : Int) (ah : ByteArray) (ap : ByteArray) (aa : List S78) (aj : Int) (al : ByteArray) (af : List S80) : Option (ByteArray × Bool) := (field_Right.f k ar aC az ay aA au aw av aD ax am ag ac aq ab ao ak ai ae ah ap aa aj al af).bind fun t => (if t = true then (field_Put.w k ar au ac ab ao ai ae ah).bind fun xs => field_Put.c k ar af xs else some (⟨#[]⟩, false))
theorem field_Put.monow (k : Nat) (ar au ac ab ao ai ae : Int) (ah : ByteArray) : LeO (field_Put.w k ar au ac ab ao ai ae ah) (field_Put.w (k + 1) ar au ac ab ao ai ae ah) := by
 unfold field_Put.w
 have m0 := field_writer_two.mono
 exact Sq.mo
theorem field_Put.monoc (k : Nat) (ar : Int) (af : List S80) (xs : List Int) : LeO (field_Put.c k ar af xs) (field_Put.c (k + 1) ar af xs) := by
 unfold field_Put.c
 have m0 := sub_Put.mono
 exact Sq.mo
theorem field_Put.mono : ∀ ar aC az ay aA au aw av aD ax am ag ac aq ab ao ak ai ae ah ap aa aj al af k, LeO (field_Put.f k ar aC az ay aA au aw av aD ax am ag ac aq ab ao ak ai ae ah ap aa aj al af) (field_Put.f (k + 1) ar aC az ay aA au aw av aD ax am ag ac aq ab ao ak ai ae ah ap aa aj al af) := by
 intros
 rename_i k
 unfold field_Put.f
 have m0 := field_Right.mono
 have m1 := field_Put.monow
 have m2 := field_Put.monoc
 exact Sq.mo
def field_Put.T16 : Bool × List (List Nat × List Nat) := (true, [([], []), ([], []), ([1], [1]), ([2], [2]), ([3], [3]), ([], []), ([5], [5]), ([4, 6], [4, 6]), ([0, 0, 1, 2, 3, 4, 5, 6, 7], [0]), ([8, 0, 1, 2, 3, 4, 5, 6, 7], [8]), ([9, 7, 7, 0, 1, 2, 3, 4, 5, 6, 7], [7, 9])])
def field_Put.B16 : List Nat := [0, 0, 2, 6, 14, 0, 32, 126, 255, 511, 1023]
theorem field_Put.tab16 : rtab .any (opsOf Tryz.f131 16) = field_Put.T16 := by kernel_rfl
theorem field_Put.bits16 : waitsOk field_Put.T16.2 field_Put.B16 = true := by kernel_rfl
def field_Put.T18 : Bool × List (List Nat × List Nat) := (true, [([], []), ([0], [0]), ([1], [1]), ([2], [2]), ([], []), ([4], [4]), ([5], [5]), ([6], [6]), ([7], [7]), ([], []), ([8, 9], [8, 9]), ([3, 10], [3, 10]), ([11], [11]), ([11], [11]), ([12, 11, 0, 1, 2, 3, 4, 5, 6, 7, 8, 9, 10, 11, 12, 13], [12]), ([13, 14, 0, 1, 2, 3, 4, 5, 6, 7, 8, 9, 10, 11, 12, 13, 14], [13])])
def field_Put.B18 : List Nat := [0, 1, 3, 7, 0, 16, 48, 112, 240, 0, 1008, 2047, 4095, 4095, 16383, 32767]
theorem field_Put.tab18 : rtab .any (opsOf Tryz.f131 18) = field_Put.T18 := by kernel_rfl
theorem field_Put.bits18 : waitsOk field_Put.T18.2 field_Put.B18 = true := by kernel_rfl
set_option maxHeartbeats 8000000 in
set_option maxRecDepth 100000 in
theorem field_Put.calls (k : Nat) (ar : Int) (aC : Int) (az : Int) (ay : ByteArray) (aA : Int) (au : Int) (aw : ByteArray) (av : Int) (aD : Int) (ax : ByteArray) (am : Int) (ag : ByteArray) (ac : Int) (aq : Int) (ab : Int) (ao : Int) (ak : Int) (ai : Int) (ae : Int) (ah : ByteArray) (ap : ByteArray) (aJ : Option Addr) (aK : Nat) (aa : List S78) (aj : Int) (al : ByteArray) (aH : Option Addr) (aI : Nat) (af : List S80) (r1 : ByteArray) (r2 : Bool) (w : World) (bD : Kd.C k78 w aJ aa.length aa) (bE : aa.length ≤ aK) (bF : Kd.C k80 w aH af.length af) (bG : af.length ≤ aI) (h : field_Put.f k ar aC az ay aA au aw av aD ax am ag ac aq ab ao ak ai ae ah ap aa aj al af = some (r1, r2)) :
  Calls Tryz.prog 131 #[.agg #[.int .i64 ar, .int .i64 aC, .int .i64 az, .string ay, .int .i64 aA, .int .i64 au, .string aw, .int .i64 av, .int .i64 aD, .string ax, .int .i64 am, .string ag, .int .i64 ac, .int .i64 aq, .int .i64 ab, .int .i64 ao, .int .i64 ak, .int .i64 ai, .int .i64 ae, .string ah, .string ap, .slice aJ aa.length aK, .int .i64 aj, .string al, .slice aH af.length aI]] w fun e w' => e = .returned (.tuple #[.string r1, .bool r2]) ∧ Below w.heap.size w w' := by
 have hu := Tryz.underlying32
 have gK := Tryz.underlying171
 have eA := Aside0.mk bD
 have eB := Aside0.mk bE
 have dZ := Aside0.mk bF
 have cX := Aside0.mk bG
 have HB := Aside0.mk (Below.refl w.heap.size w)
 clear bD bE bF bG
 unfold field_Put.f at h
 obtain ⟨t, g1, h⟩ := Option.bind_eq_some_iff.mp h
 have A1 := Aside0.mk g1
 clear g1
 cases t
 ·replace h := (if_neg Bool.false_ne_true).symm.trans h
  simp only [Option.some.injEq, Prod.mk.injEq] at h
  obtain ⟨rfl, rfl⟩ := h
  go_enter Tryz.func131, Tryz.ntmps131
  go_wp2_with (first | ((with_reducible refine gate_dst (N := 1) rfl ?_); (try (refine gate_guard Z16 ?_; dsimp only)); refine Sq.box 1 #[.int .i64 ar, .int .i64 aC, .int .i64 az, .string ay, .int .i64 aA, .int .i64 au, .string aw, .int .i64 av, .int .i64 aD, .string ax, .int .i64 am, .string ag, .int .i64 ac, .int .i64 aq, .int .i64 ab, .int .i64 ao, .int .i64 ak, .int .i64 ai, .int .i64 ae, .string ah, .string ap, .slice aJ aa.length aK, .int .i64 aj, .string al, .slice aH af.length aI] 32 ?_; intro gm hg w1 hbox hb; have aY := Aside0.mk hbox; replace HB := Aside0.mk (below_step Z2 hb); clear hb hbox hg) | ((with_reducible refine Pre.gate_load 32 rfl ?_); (try (refine gate_guard Z16 ?_; dsimp only)); refine Pre.load_event rfl rfl rfl Z16 Z17 Tryz.underlying32 rfl Z12 ?_) | ((with_reducible refine gate_callee (f := 66) rfl ?_); refine goesL_ (some 10) rfl rfl Tryz.func66 Z12 rfl #[.agg #[.int .i64 ar, .int .i64 aC, .int .i64 az, .string ay, .int .i64 aA, .int .i64 au, .string aw, .int .i64 av, .int .i64 aD, .string ax, .int .i64 am, .string ag, .int .i64 ac, .int .i64 aq, .int .i64 ab, .int .i64 ao, .int .i64 ak, .int .i64 ai, .int .i64 ae, .string ah, .string ap, .slice aJ aa.length aK, .int .i64 aj, .string al, .slice aH af.length aI]] rfl Z3 ?_; (with_reducible refine (field_Right.calls k ar aC az ay aA au aw av aD ax am ag ac aq ab ao ak ai ae ah ap _ _ aa aj al _ _ af false _ ?side1 ?side2 ?side3 ?side4 A1.out).mono ?_); (case side1 => exact (Kd.C_below eA.out HB.out)); (case side2 => exact eB.out); (case side3 => exact (Kd.C_below dZ.out HB.out)); (case side4 => exact cX.out); rintro e w6 ⟨rfl, hb⟩; refine ⟨_, rfl, ?_⟩; replace aY := Aside0.mk (blk_below (g := gm) Z17 hb); replace HB := Aside0.mk (below_step Z2 hb); clear hb))
  go_ret2
  exact ⟨rfl, Z2⟩
 replace h := (if_pos rfl).symm.trans h
 obtain ⟨xs, g2, h⟩ := Option.bind_eq_some_iff.mp h
 have A2 := Aside0.mk g2
 have HA := Aside0.mk h
 clear g2 h
 go_enter Tryz.func131, Tryz.ntmps131
 go_upto_block 0 with (first | ((with_reducible refine gate_dst (N := 1) rfl ?_); (try (refine gate_guard Z16 ?_; dsimp only)); refine Sq.box 1 #[.int .i64 ar, .int .i64 aC, .int .i64 az, .string ay, .int .i64 aA, .int .i64 au, .string aw, .int .i64 av, .int .i64 aD, .string ax, .int .i64 am, .string ag, .int .i64 ac, .int .i64 aq, .int .i64 ab, .int .i64 ao, .int .i64 ak, .int .i64 ai, .int .i64 ae, .string ah, .string ap, .slice aJ aa.length aK, .int .i64 aj, .string al, .slice aH af.length aI] 32 ?_; intro gm hg w1 hbox hb; have aY := Aside0.mk hbox; replace HB := Aside0.mk (below_step Z2 hb); clear hb hbox hg) | ((with_reducible refine Pre.gate_load 32 rfl ?_); (try (refine gate_guard Z16 ?_; dsimp only)); refine Pre.load_event rfl rfl rfl Z16 Z17 Tryz.underlying32 rfl Z12 ?_) | ((with_reducible refine gate_callee (f := 66) rfl ?_); refine goesL_ (some 10) rfl rfl Tryz.func66 Z12 rfl #[.agg #[.int .i64 ar, .int .i64 aC, .int .i64 az, .string ay, .int .i64 aA, .int .i64 au, .string aw, .int .i64 av, .int .i64 aD, .string ax, .int .i64 am, .string ag, .int .i64 ac, .int .i64 aq, .int .i64 ab, .int .i64 ao, .int .i64 ak, .int .i64 ai, .int .i64 ae, .string ah, .string ap, .slice aJ aa.length aK, .int .i64 aj, .string al, .slice aH af.length aI]] rfl Z3 ?_; (with_reducible refine (field_Right.calls k ar aC az ay aA au aw av aD ax am ag ac aq ab ao ak ai ae ah ap _ _ aa aj al _ _ af true _ ?side1 ?side2 ?side3 ?side4 A1.out).mono ?_); (case side1 => exact (Kd.C_below eA.out HB.out)); (case side2 => exact eB.out); (case side3 => exact (Kd.C_below dZ.out HB.out)); (case side4 => exact cX.out); rintro e w6 ⟨rfl, hb⟩; refine ⟨_, rfl, ?_⟩; replace aY := Aside0.mk (blk_below (g := gm) Z17 hb); replace HB := Aside0.mk (below_step Z2 hb); clear hb; have hm0 := (blk_cell aY.out 0).trans rfl; have hm5 := (blk_cell aY.out 5).trans rfl; have hm12 := (blk_cell aY.out 12).trans rfl; have hm14 := (blk_cell aY.out 14).trans rfl; have hm15 := (blk_cell aY.out 15).trans rfl; have hm17 := (blk_cell aY.out 17).trans rfl; have hm18 := (blk_cell aY.out 18).trans rfl; have hm19 := (blk_cell aY.out 19).trans rfl; have hm24 := (blk_cell aY.out 24).trans rfl) | ((with_reducible refine gate_dst (N := 13) rfl ?_); refine Sq.box 13 #[.slice none 0 0] 171 ?_; intro g hg w7 hbox hb; have bC := Aside0.mk hbox; have dW := Aside0.mk (Sq.ge hg HB.out); have NB := Aside0.mk (show gm ≠ g from by rw [hg]; exact Nat.ne_of_lt (blk_lt aY.out)); replace aY := Aside0.mk (blk_below (g := gm) aY.out hb); replace HB := Aside0.mk (below_step HB.out hb); clear hbox hg hb hm0 hm5 hm12 hm14 hm15 hm17 hm18 hm19 hm24; have hm0 := (blk_cell aY.out 0).trans rfl; have hm5 := (blk_cell aY.out 5).trans rfl; have hm12 := (blk_cell aY.out 12).trans rfl; have hm14 := (blk_cell aY.out 14).trans rfl; have hm15 := (blk_cell aY.out 15).trans rfl; have hm17 := (blk_cell aY.out 17).trans rfl; have hm18 := (blk_cell aY.out 18).trans rfl; have hm19 := (blk_cell aY.out 19).trans rfl; have hm24 := (blk_cell aY.out 24).trans rfl))
 go_cut [] (fun wc => ∃ (u : Value), Aside0 (wc.heap[g]? = some (.cells #[u] 171 (0, 0))) ∧ Aside0 (Kd.R (Kd.int .u8) 5 wc w.heap.size (fun _ => True) u xs) ∧ Aside0 (wc.heap[gm]? = some (.cells #[.int .i64 ar, .int .i64 aC, .int .i64 az, .string ay, .int .i64 aA, .int .i64 au, .string aw, .int .i64 av, .int .i64 aD, .string ax, .int .i64 am, .string ag, .int .i64 ac, .int .i64 aq, .int .i64 ab, .int .i64 ao, .int .i64 ak, .int .i64 ai, .int .i64 ae, .string ah, .string ap, .slice aJ aa.length aK, .int .i64 aj, .string al, .slice aH af.length aI] 32 (0, 0))) ∧ Aside0 (Below w.heap.size w wc))
 case first =>
  have h := A2.out
  clear A2 HA
  unfold field_Put.w at h
  by_cases c : ar = 7
  ·subst c
   rw [if_pos rfl] at h
   have A2 := Aside0.mk h
   clear h
   go_wp2_with (first | ((with_reducible refine gate_dst (N := 23) rfl ?_); refine Kd.R_lit (Kd.int .i64) _ 3 ?hg (N := 23) ?hd (xs := ([0, ai, ab] : List Int)) (inner := [.int .i64 (0), .int .i64 (ai), .int .i64 (ab)]) (ok := fun q => q ≠ g) (okp := fun q => q ≠ g) ?hr ?hp (fun _ hk => hk) (Nat.ne_of_gt (blk_lt bC.out)) (Below.refl _ _) (Nat.le_refl _) Z27 ?_; (case hd => rfl); (case hg => rfl); (case hr => first | (go_simp; done) | (go_simp; rfl)); (case hp => exact (Reps.one (show Kd.M (Kd.int .i64) _ _ _ (0) [.int .i64 (0)] from rfl) (Reps.one (show Kd.M (Kd.int .i64) _ _ _ (ai) [.int .i64 (ai)] from rfl) (Reps.one (show Kd.M (Kd.int .i64) _ _ _ (ab) [.int .i64 (ab)] from rfl) (Reps.none _ _))))); intro v4 w4 ho19 hb hg_ hnew_; clear hg_ hnew_; have RL := Aside0.mk ho19; replace bC := Aside0.mk (blk_below (g := g) bC.out hb); replace aY := Aside0.mk (blk_below (g := gm) aY.out hb); replace HB := Aside0.mk (below_step HB.out hb); clear hb ho19 hm0 hm5 hm12 hm14 hm15 hm17 hm18 hm19 hm24; obtain ⟨sc, sd, eo21⟩ := Kd.R_slice RL.out; subst eo21) | ((with_reducible refine gate_callee (f := 170) rfl ?_); refine goesL_ (some 24) rfl rfl Tryz.func170 Z12 rfl #[.pointer (some ⟨g, 0, none⟩), .slice sc ([0, ai, ab] : List Int).length sd] rfl Z3 ?_; (with_reducible refine (field_writer_two.calls k g sc sd ([0, ai, ab] : List Int) _ w _ HB.out dW.out bC.out (Kd.C_foot_own RL.out (fun _ h_ => h_)) A2.out).mono ?_); rintro e dL ⟨rfl, u1, hk, hr, hb, hkb⟩; refine ⟨_, rfl, ?_⟩; replace aY := Aside0.mk (KeepBut.blk hkb (g' := gm) aY.out NB.out Z27); replace bC := Aside0.mk hk; have HO := Aside0.mk hr; replace HB := Aside0.mk hb; clear RL hk hr hb hkb))
   go_meet
   case rel => exact ⟨_, bC, HO, aY, HB⟩
  rw [if_neg c] at h
  clear c
  by_cases c : ar = 8
  ·subst c
   rw [if_pos rfl] at h
   have A2 := Aside0.mk h
   clear h
   go_wp2_with (first | ((with_reducible refine gate_dst (N := 30) rfl ?_); refine Kd.R_lit (Kd.int .i64) _ 3 ?hg (N := 30) ?hd (xs := ([ai] : List Int)) (inner := [.int .i64 (ai)]) (ok := fun q => q ≠ g) (okp := fun q => q ≠ g) ?hr ?hp (fun _ hk => hk) (Nat.ne_of_gt (blk_lt bC.out)) (Below.refl _ _) (Nat.le_refl _) Z27 ?_; (case hd => rfl); (case hg => rfl); (case hr => first | (go_simp; done) | (go_simp; rfl)); (case hp => exact (Reps.one (show Kd.M (Kd.int .i64) _ _ _ (ai) [.int .i64 (ai)] from rfl) (Reps.none _ _))); intro v4 w4 ho19 hb hg_ hnew_; clear hg_ hnew_; have RL := Aside0.mk ho19; replace bC := Aside0.mk (blk_below (g := g) bC.out hb); replace aY := Aside0.mk (blk_below (g := gm) aY.out hb); replace HB := Aside0.mk (below_step HB.out hb); clear hb ho19 hm0 hm5 hm12 hm14 hm15 hm17 hm18 hm19 hm24; obtain ⟨sc, sd, eo21⟩ := Kd.R_slice RL.out; subst eo21) | ((with_reducible refine gate_callee (f := 170) rfl ?_); refine goesL_ (some 31) rfl rfl Tryz.func170 Z12 rfl #[.pointer (some ⟨g, 0, none⟩), .slice sc ([ai] : List Int).length sd] rfl Z3 ?_; (with_reducible refine (field_writer_two.calls k g sc sd ([ai] : List Int) _ w _ HB.out dW.out bC.out (Kd.C_foot_own RL.out (fun _ h_ => h_)) A2.out).mono ?_); rintro e dL ⟨rfl, u1, hk, hr, hb, hkb⟩; refine ⟨_, rfl, ?_⟩; replace aY := Aside0.mk (KeepBut.blk hkb (g' := gm) aY.out NB.out Z27); replace bC := Aside0.mk hk; have HO := Aside0.mk hr; replace HB := Aside0.mk hb; clear RL hk hr hb hkb))
   go_meet
   case rel => exact ⟨_, bC, HO, aY, HB⟩
  rw [if_neg c] at h
  clear c
  by_cases c : ar = 9
  ·subst c
   rw [if_pos rfl] at h
   have A2 := Aside0.mk h
   clear h
   go_wp2_with (first | ((with_reducible refine gate_dst (N := 42) rfl ?_); refine Kd.R_lit (Kd.int .i64) _ 3 ?hg (N := 42) ?hd (xs := ([wrap64 (ao * 32768), ac, ab] : List Int)) (inner := [.int .i64 (wrap64 (ao * 32768)), .int .i64 (ac), .int .i64 (ab)]) (ok := fun q => q ≠ g) (okp := fun q => q ≠ g) ?hr ?hp (fun _ hk => hk) (Nat.ne_of_gt (blk_lt bC.out)) (Below.refl _ _) (Nat.le_refl _) Z27 ?_; (case hd => rfl); (case hg => rfl); (case hr => first | (go_simp; done) | (go_simp; rfl)); (case hp => exact (Reps.one (show Kd.M (Kd.int .i64) _ _ _ (wrap64 (ao * 32768)) [.int .i64 (wrap64 (ao * 32768))] from rfl) (Reps.one (show Kd.M (Kd.int .i64) _ _ _ (ac) [.int .i64 (ac)] from rfl) (Reps.one (show Kd.M (Kd.int .i64) _ _ _ (ab) [.int .i64 (ab)] from rfl) (Reps.none _ _))))); intro v4 w4 ho19 hb hg_ hnew_; clear hg_ hnew_; have RL := Aside0.mk ho19; replace bC := Aside0.mk (blk_below (g := g) bC.out hb); replace aY := Aside0.mk (blk_below (g := gm) aY.out hb); replace HB := Aside0.mk (below_step HB.out hb); clear hb ho19 hm0 hm5 hm12 hm14 hm15 hm17 hm18 hm19 hm24; obtain ⟨sc, sd, eo21⟩ := Kd.R_slice RL.out; subst eo21) | ((with_reducible refine gate_callee (f := 170) rfl ?_); refine goesL_ (some 43) rfl rfl Tryz.func170 Z12 rfl #[.pointer (some ⟨g, 0, none⟩), .slice sc ([wrap64 (ao * 32768), ac, ab] : List Int).length sd] rfl Z3 ?_; (with_reducible refine (field_writer_two.calls k g sc sd ([wrap64 (ao * 32768), ac, ab] : List Int) _ w _ HB.out dW.out bC.out (Kd.C_foot_own RL.out (fun _ h_ => h_)) A2.out).mono ?_); rintro e dL ⟨rfl, u1, hk, hr, hb, hkb⟩; refine ⟨_, rfl, ?_⟩; replace aY := Aside0.mk (KeepBut.blk hkb (g' := gm) aY.out NB.out Z27); replace bC := Aside0.mk hk; have HO := Aside0.mk hr; replace HB := Aside0.mk hb; clear RL hk hr hb hkb))
   go_meet
   case rel => exact ⟨_, bC, HO, aY, HB⟩
  rw [if_neg c] at h
  clear c
  by_cases c : ar = 10
  rotate_left
  ·rw [if_neg c] at h; exact absurd h Z27
  subst c
  rw [if_pos rfl] at h
  obtain ⟨x2, g3, h⟩ := Option.bind_eq_some_iff.mp h
  obtain ⟨⟨s1, s2⟩, g4, h⟩ := Option.bind_eq_some_iff.mp h
  dsimp only at h
  have A2 := Aside0.mk g3
  have A4 := Aside0.mk g4
  clear g3 g4
  have K10 : ∀ T : ByteArray, (if s2 = true ∧ au = 3 then s1 else ah) = T → x2.length + T.size < 140737488355328 ∧ xs = x2 ++ bytesOf T := by
   intro T hT
   rw [hT] at h
   by_cases z : x2.length + T.size < 140737488355328
   ·rw [if_pos z] at h; exact ⟨z, (Option.some.inj h).symm⟩
   ·rw [if_neg z] at h; exact absurd h Z27
  clear h
  cases s2
  ·obtain ⟨lm, ny⟩ := K10 ah (if_neg (fun z => Bool.false_ne_true z.1))
   have LM := Aside0.mk lm
   have Ny := Aside0.mk ny
   clear K10 lm ny
   go_upto_region 16 with (first | ((with_reducible refine gate_dst (N := 54) rfl ?_); refine Kd.R_lit (Kd.int .i64) _ 3 ?hg (N := 54) ?hd (xs := ([wrap64 (au * 256), ae, ab] : List Int)) (inner := [.int .i64 (wrap64 (au * 256)), .int .i64 (ae), .int .i64 (ab)]) (ok := fun q => q ≠ g) (okp := fun q => q ≠ g) ?hr ?hp (fun _ hk => hk) (Nat.ne_of_gt (blk_lt bC.out)) (Below.refl _ _) (Nat.le_refl _) Z27 ?_; (case hd => rfl); (case hg => rfl); (case hr => first | (go_simp; done) | (go_simp; rfl)); (case hp => exact (Reps.one (show Kd.M (Kd.int .i64) _ _ _ (wrap64 (au * 256)) [.int .i64 (wrap64 (au * 256))] from rfl) (Reps.one (show Kd.M (Kd.int .i64) _ _ _ (ae) [.int .i64 (ae)] from rfl) (Reps.one (show Kd.M (Kd.int .i64) _ _ _ (ab) [.int .i64 (ab)] from rfl) (Reps.none _ _))))); intro v4 w4 ho19 hb hg_ hnew_; clear hg_ hnew_; have RL := Aside0.mk ho19; replace bC := Aside0.mk (blk_below (g := g) bC.out hb); replace aY := Aside0.mk (blk_below (g := gm) aY.out hb); replace HB := Aside0.mk (below_step HB.out hb); clear hb ho19 hm0 hm5 hm12 hm14 hm15 hm17 hm18 hm19 hm24; obtain ⟨sc, sd, eo21⟩ := Kd.R_slice RL.out; subst eo21) | ((with_reducible refine gate_callee (f := 170) rfl ?_); refine goesL_ (some 55) rfl rfl Tryz.func170 Z12 rfl #[.pointer (some ⟨g, 0, none⟩), .slice sc ([wrap64 (au * 256), ae, ab] : List Int).length sd] rfl Z3 ?_; (with_reducible refine (field_writer_two.calls k g sc sd ([wrap64 (au * 256), ae, ab] : List Int) _ w _ HB.out dW.out bC.out (Kd.C_foot_own RL.out (fun _ h_ => h_)) A2.out).mono ?_); rintro e dL ⟨rfl, u1, hk, hr, hb, hkb⟩; refine ⟨_, rfl, ?_⟩; replace aY := Aside0.mk (KeepBut.blk hkb (g' := gm) aY.out NB.out Z27); replace bC := Aside0.mk hk; have HO := Aside0.mk hr; replace HB := Aside0.mk hb; clear RL hk hr hb hkb; have hm5 := (blk_cell aY.out 5).trans rfl; have hm19 := (blk_cell aY.out 19).trans rfl; have hz0 := (blk_cell bC.out 0).trans rfl) | ((with_reducible refine gate_callee (f := 133) rfl ?_); refine goesL_ (some 59) rfl rfl Tryz.func133 Z12 rfl #[.string ah] rfl Z3 ?_; (with_reducible refine (addr_Short.calls ah s1 false _ A4.out).mono ?_); rintro e w' ⟨rfl, ⟨nd, rfl⟩⟩; refine ⟨_, rfl, ?_⟩; replace bC := Aside0.mk (blk_drewN bC.out nd); replace aY := Aside0.mk (blk_drewN aY.out nd); replace HO := Aside0.mk (Kd.R_drewN HO.out nd); replace HB := Aside0.mk (pw_below_drewN HB.out nd); clear hz0 hm5 hm19; have hm5 := (blk_cell aY.out 5).trans rfl; have hm19 := (blk_cell aY.out 19).trans rfl; have hz0 := (blk_cell bC.out 0).trans rfl))
   generalize World.drewN _ _ = w8 at bC aY HO HB hz0 hm5 hm19 ⊢
   replace bC := Aside0.mk (blk_drew bC.out)
   replace aY := Aside0.mk (blk_drew aY.out)
   replace HO := Aside0.mk (Kd.R_drew HO.out)
   replace HB := Aside0.mk (below_drew1 HB.out)
   clear hz0 hm5 hm19
   refine start_ (n := 11) (S := fun w' => w'.cell? ⟨g, 0, none⟩ = some u1 ∧ w'.cell? ⟨gm, 19, none⟩ = some (.string ah)) (ds := [10]) (Sq.b 11 0) Z12 rfl rfl ⟨Sq.bc bC 0, Sq.bc aY 19⟩ (fun hHeld => ?_)
   refine with_tabW field_Put.tab16 field_Put.bits16 (fun HT_ HW_ => ?_)
   generalize World.drew _ = w9 at bC aY HO HB hHeld ⊢
   refine Sq.pur 0 (some 77) (Sq.b 11 1) HT_.out ?_
   refine Sq.pur 1 (some 78) (Sq.b 11 3) HT_.out ?_
   refine Sq.pur 2 (some 79) (Sq.b 11 7) HT_.out ?_
   refine Sq.pur 3 (some 80) (Sq.b 11 15) HT_.out ?_
   refine Sq.pur 5 (some 82) (Sq.b 11 47) HT_.out ?_
   refine Sq.tak 4 (some 81) (Sq.b 11 63) HT_.out HW_.out hHeld (v := ?_) (a' := ?_) ?_ ?_ ?_
   rotate_left
   ·rintro w' ⟨s0, s1⟩
    (go_simp; with_reducible rfl)
   rotate_left
   ·simp only [Act.put, Sq.s1, Sq.s2, Sq.s3, i64_w, i32_w]
    rfl
   refine Sq.tak 6 (some 83) (Sq.b 11 127) HT_.out HW_.out hHeld (v := ?_) (a' := ?_) ?_ ?_ ?_
   rotate_left
   ·rintro w' ⟨s0, s1⟩
    (go_simp; with_reducible rfl)
   rotate_left
   ·simp only [Act.put, Sq.s1, Sq.s2, Sq.s3, i64_w, i32_w]
    rfl
   refine one_ (i := 7) (N := some 84) (Sq.b 11 255) rfl rfl (one_of HT_.out Z12) Z34 (fun K hK => ?_)
   refine Pre.append_str_step (w0 := w) w.heap.size Z16 (.tmp 81) (.tmp 83) 64 9 5 rfl Tryz.underlying64 Tryz.underlying9 info5 u1 x2 ah rfl rfl (Kd.own_of_R HO.out) HB.out (below_size HB.out) (by have := LM.out; omega) (fun v2 ep ho0 hb hg => ?_)
   have ho := Kd.R_of_own (h1 := fun _ => rfl) (ok := fun _ => True) ho0 (fun _ _ => trivial)
   clear ho0
   rw [← Ny.out] at ho
   replace bC := Aside0.mk (blk_grown (g := g) bC.out hg (Kd.R_ne HO.out bC.out Z34))
   replace aY := Aside0.mk (blk_grown (g := gm) aY.out hg (Kd.R_ne HO.out aY.out Z34))
   replace HO := Aside0.mk (show Kd.R (Kd.int .u8) 5 ep w.heap.size (fun _ => True) v2 xs from ho)
   replace HB := Aside0.mk hb
   clear ho hb hg
   refine hK.out _ _ ⟨Sq.bc bC 0, Sq.bc aY 19⟩ (fun hHeld => ?_)
   clear hK K
   refine norm_ (a' := ?_) ?_ ?_
   rotate_left
   ·show Act.put _ (some 84) _ = _
    simp only [Act.put, Sq.s1, Sq.s2, Sq.s3, i64_w, i32_w]
    rfl
   refine Sq.pur 8 (some 85) (Sq.b 11 511) HT_.out ?_
   refine Sq.pur 9 (some 86) (Sq.b 11 1023) HT_.out ?_
   refine last_ (i := 10) (N := none) (Sq.b 11 2047) rfl rfl (one_of HT_.out Z12) Z34 (fun K hK => ?_)
   have hs_ := (blk_cell bC.out 0).trans (c := some u1) rfl
   have hf_ := blk_frozen bC.out 0
   obtain ⟨gc, gg, eo2⟩ := Kd.R_slice HO.out
   subst eo2
   refine skip_ (w1 := ?_) Z16 rfl ?_ ?_
   rotate_left
   ·go_simp
    rfl
   refine hK.out _ _ ?_
   clear hK K
   refine done_ (done_of HT_.out Z12) ?_
   go_wp2
   go_meet
   case rel => exact ⟨_, ⟨blk_put (cs := #[u1]) bC.out 0 _ rfl⟩, ⟨Kd.R_mono (Kd.R_far (p := ⟨g, 0, none⟩) (Kd.R_types HO.out bC.out Z34) (fun _ hk => hk.2) _) (fun _ _ => trivial)⟩, ⟨blk_far (p := ⟨g, 0, none⟩) aY.out NB.out _⟩, ⟨Z10⟩⟩
  by_cases c : au = 3
  ·obtain ⟨lm, ny⟩ := K10 s1 (if_pos ⟨rfl, c⟩)
   have LM := Aside0.mk lm
   have Ny := Aside0.mk ny
   have e5 : (au == 3) = true := beq_iff_eq.mpr c
   clear K10 lm ny c
   go_wp2_with (first | ((with_reducible refine gate_dst (N := 54) rfl ?_); refine Kd.R_lit (Kd.int .i64) _ 3 ?hg (N := 54) ?hd (xs := ([wrap64 (au * 256), ae, ab] : List Int)) (inner := [.int .i64 (wrap64 (au * 256)), .int .i64 (ae), .int .i64 (ab)]) (ok := fun q => q ≠ g) (okp := fun q => q ≠ g) ?hr ?hp (fun _ hk => hk) (Nat.ne_of_gt (blk_lt bC.out)) (Below.refl _ _) (Nat.le_refl _) Z27 ?_; (case hd => rfl); (case hg => rfl); (case hr => first | (go_simp; done) | (go_simp; rfl)); (case hp => exact (Reps.one (show Kd.M (Kd.int .i64) _ _ _ (wrap64 (au * 256)) [.int .i64 (wrap64 (au * 256))] from rfl) (Reps.one (show Kd.M (Kd.int .i64) _ _ _ (ae) [.int .i64 (ae)] from rfl) (Reps.one (show Kd.M (Kd.int .i64) _ _ _ (ab) [.int .i64 (ab)] from rfl) (Reps.none _ _))))); intro v4 w4 ho19 hb hg_ hnew_; clear hg_ hnew_; have RL := Aside0.mk ho19; replace bC := Aside0.mk (blk_below (g := g) bC.out hb); replace aY := Aside0.mk (blk_below (g := gm) aY.out hb); replace HB := Aside0.mk (below_step HB.out hb); clear hb ho19 hm0 hm5 hm12 hm14 hm15 hm17 hm18 hm19 hm24; obtain ⟨sc, sd, eo21⟩ := Kd.R_slice RL.out; subst eo21) | ((with_reducible refine gate_callee (f := 170) rfl ?_); refine goesL_ (some 55) rfl rfl Tryz.func170 Z12 rfl #[.pointer (some ⟨g, 0, none⟩), .slice sc ([wrap64 (au * 256), ae, ab] : List Int).length sd] rfl Z3 ?_; (with_reducible refine (field_writer_two.calls k g sc sd ([wrap64 (au * 256), ae, ab] : List Int) _ w _ HB.out dW.out bC.out (Kd.C_foot_own RL.out (fun _ h_ => h_)) A2.out).mono ?_); rintro e dL ⟨rfl, u1, hk, hr, hb, hkb⟩; refine ⟨_, rfl, ?_⟩; replace aY := Aside0.mk (KeepBut.blk hkb (g' := gm) aY.out NB.out Z27); replace bC := Aside0.mk hk; have HO := Aside0.mk hr; replace HB := Aside0.mk hb; clear RL hk hr hb hkb; have hm5 := (blk_cell aY.out 5).trans rfl; have hm19 := (blk_cell aY.out 19).trans rfl; have hz0 := (blk_cell bC.out 0).trans rfl) | ((with_reducible refine gate_callee (f := 133) rfl ?_); refine goesL_ (some 59) rfl rfl Tryz.func133 Z12 rfl #[.string ah] rfl Z3 ?_; (with_reducible refine (addr_Short.calls ah s1 true _ A4.out).mono ?_); rintro e w' ⟨rfl, ⟨nd, rfl⟩⟩; refine ⟨_, rfl, ?_⟩; replace bC := Aside0.mk (blk_drewN bC.out nd); replace aY := Aside0.mk (blk_drewN aY.out nd); replace HO := Aside0.mk (Kd.R_drewN HO.out nd); replace HB := Aside0.mk (pw_below_drewN HB.out nd); clear hz0 hm5 hm19; have hm5 := (blk_cell aY.out 5).trans rfl; have hm19 := (blk_cell aY.out 19).trans rfl; have hz0 := (blk_cell bC.out 0).trans rfl) | (at_builtin; refine print_append_str (w0 := w) w.heap.size rfl (.tmp 72) _ 64 9 5 rfl Tryz.underlying64 Tryz.underlying9 info5 u1 x2 s1 rfl rfl ?aO ?aB ?aS ?aL ?_; (case aB => exact Z10); (case aO => exact (Kd.own_of_R Z15)); (case aS => exact (below_size Z10)); (case aL => have := LM.out; omega); intro v2 ep ho0 hb hg; have ho := Kd.R_of_own (h1 := fun _ => rfl) (ok := fun _ => True) ho0 (fun _ _ => trivial); clear ho0; rw [← Ny.out] at ho; have bL := Aside0.mk (show Kd.R (Kd.int .u8) 5 ep w.heap.size (fun _ => True) v2 xs from ho); have bM := Aside0.mk (blk_grown (g := g) Z14 hg (Kd.R_ne HO.out bC.out Z34)); have il := Aside0.mk (blk_grown (g := gm) aY.out hg (Kd.R_ne HO.out aY.out Z34)); have cf := Aside0.mk hb; clear HO bC aY HB hz0 ho hb hg; have HO := bL; have bC := bM; have aY := il; have HB := cf; clear bL bM cf il; have hz0 := (blk_cell bC.out 0).trans rfl; have hf0 := blk_frozen bC.out 0; obtain ⟨gc, gg, eo2⟩ := Kd.R_slice HO.out; subst eo2))
   go_meet
   case rel => exact ⟨_, ⟨blk_put (cs := #[u1]) bC.out 0 _ rfl⟩, ⟨Kd.R_mono (Kd.R_far (p := ⟨g, 0, none⟩) (Kd.R_types HO.out bC.out Z34) (fun _ hk => hk.2) _) (fun _ _ => trivial)⟩, ⟨blk_far (p := ⟨g, 0, none⟩) aY.out NB.out _⟩, ⟨Z10⟩⟩
  ·obtain ⟨lm, ny⟩ := K10 ah (if_neg (fun z => c z.2))
   have LM := Aside0.mk lm
   have Ny := Aside0.mk ny
   have e5 : (au == 3) = false := beq_eq_false_iff_ne.mpr c
   clear K10 lm ny c
   go_upto_region 16 with (first | ((with_reducible refine gate_dst (N := 54) rfl ?_); refine Kd.R_lit (Kd.int .i64) _ 3 ?hg (N := 54) ?hd (xs := ([wrap64 (au * 256), ae, ab] : List Int)) (inner := [.int .i64 (wrap64 (au * 256)), .int .i64 (ae), .int .i64 (ab)]) (ok := fun q => q ≠ g) (okp := fun q => q ≠ g) ?hr ?hp (fun _ hk => hk) (Nat.ne_of_gt (blk_lt bC.out)) (Below.refl _ _) (Nat.le_refl _) Z27 ?_; (case hd => rfl); (case hg => rfl); (case hr => first | (go_simp; done) | (go_simp; rfl)); (case hp => exact (Reps.one (show Kd.M (Kd.int .i64) _ _ _ (wrap64 (au * 256)) [.int .i64 (wrap64 (au * 256))] from rfl) (Reps.one (show Kd.M (Kd.int .i64) _ _ _ (ae) [.int .i64 (ae)] from rfl) (Reps.one (show Kd.M (Kd.int .i64) _ _ _ (ab) [.int .i64 (ab)] from rfl) (Reps.none _ _))))); intro v4 w4 ho19 hb hg_ hnew_; clear hg_ hnew_; have RL := Aside0.mk ho19; replace bC := Aside0.mk (blk_below (g := g) bC.out hb); replace aY := Aside0.mk (blk_below (g := gm) aY.out hb); replace HB := Aside0.mk (below_step HB.out hb); clear hb ho19 hm0 hm5 hm12 hm14 hm15 hm17 hm18 hm19 hm24; obtain ⟨sc, sd, eo21⟩ := Kd.R_slice RL.out; subst eo21) | ((with_reducible refine gate_callee (f := 170) rfl ?_); refine goesL_ (some 55) rfl rfl Tryz.func170 Z12 rfl #[.pointer (some ⟨g, 0, none⟩), .slice sc ([wrap64 (au * 256), ae, ab] : List Int).length sd] rfl Z3 ?_; (with_reducible refine (field_writer_two.calls k g sc sd ([wrap64 (au * 256), ae, ab] : List Int) _ w _ HB.out dW.out bC.out (Kd.C_foot_own RL.out (fun _ h_ => h_)) A2.out).mono ?_); rintro e dL ⟨rfl, u1, hk, hr, hb, hkb⟩; refine ⟨_, rfl, ?_⟩; replace aY := Aside0.mk (KeepBut.blk hkb (g' := gm) aY.out NB.out Z27); replace bC := Aside0.mk hk; have HO := Aside0.mk hr; replace HB := Aside0.mk hb; clear RL hk hr hb hkb; have hm5 := (blk_cell aY.out 5).trans rfl; have hm19 := (blk_cell aY.out 19).trans rfl; have hz0 := (blk_cell bC.out 0).trans rfl) | ((with_reducible refine gate_callee (f := 133) rfl ?_); refine goesL_ (some 59) rfl rfl Tryz.func133 Z12 rfl #[.string ah] rfl Z3 ?_; (with_reducible refine (addr_Short.calls ah s1 true _ A4.out).mono ?_); rintro e w' ⟨rfl, ⟨nd, rfl⟩⟩; refine ⟨_, rfl, ?_⟩; replace bC := Aside0.mk (blk_drewN bC.out nd); replace aY := Aside0.mk (blk_drewN aY.out nd); replace HO := Aside0.mk (Kd.R_drewN HO.out nd); replace HB := Aside0.mk (pw_below_drewN HB.out nd); clear hz0 hm5 hm19; have hm5 := (blk_cell aY.out 5).trans rfl; have hm19 := (blk_cell aY.out 19).trans rfl; have hz0 := (blk_cell bC.out 0).trans rfl))
   generalize World.drewN _ _ = w8 at bC aY HO HB hz0 hm5 hm19 ⊢
   replace bC := Aside0.mk (blk_drew bC.out)
   replace aY := Aside0.mk (blk_drew aY.out)
   replace HO := Aside0.mk (Kd.R_drew HO.out)
   replace HB := Aside0.mk (below_drew1 HB.out)
   clear hz0 hm5 hm19
   refine start_ (n := 11) (S := fun w' => w'.cell? ⟨g, 0, none⟩ = some u1 ∧ w'.cell? ⟨gm, 19, none⟩ = some (.string ah)) (ds := [10]) (Sq.b 11 0) Z12 rfl rfl ⟨Sq.bc bC 0, Sq.bc aY 19⟩ (fun hHeld => ?_)
   refine with_tabW field_Put.tab16 field_Put.bits16 (fun HT_ HW_ => ?_)
   generalize World.drew _ = w9 at bC aY HO HB hHeld ⊢
   refine Sq.pur 0 (some 77) (Sq.b 11 1) HT_.out ?_
   refine Sq.pur 1 (some 78) (Sq.b 11 3) HT_.out ?_
   refine Sq.pur 2 (some 79) (Sq.b 11 7) HT_.out ?_
   refine Sq.pur 3 (some 80) (Sq.b 11 15) HT_.out ?_
   refine Sq.pur 5 (some 82) (Sq.b 11 47) HT_.out ?_
   refine Sq.tak 4 (some 81) (Sq.b 11 63) HT_.out HW_.out hHeld (v := ?_) (a' := ?_) ?_ ?_ ?_
   rotate_left
   ·rintro w' ⟨s0, s1⟩
    (go_simp; with_reducible rfl)
   rotate_left
   ·simp only [Act.put, Sq.s1, Sq.s2, Sq.s3, i64_w, i32_w]
    rfl
   refine Sq.tak 6 (some 83) (Sq.b 11 127) HT_.out HW_.out hHeld (v := ?_) (a' := ?_) ?_ ?_ ?_
   rotate_left
   ·rintro w' ⟨s0, s1⟩
    (go_simp; with_reducible rfl)
   rotate_left
   ·simp only [Act.put, Sq.s1, Sq.s2, Sq.s3, i64_w, i32_w]
    rfl
   refine one_ (i := 7) (N := some 84) (Sq.b 11 255) rfl rfl (one_of HT_.out Z12) Z34 (fun K hK => ?_)
   refine Pre.append_str_step (w0 := w) w.heap.size Z16 (.tmp 81) (.tmp 83) 64 9 5 rfl Tryz.underlying64 Tryz.underlying9 info5 u1 x2 ah rfl rfl (Kd.own_of_R HO.out) HB.out (below_size HB.out) (by have := LM.out; omega) (fun v2 ep ho0 hb hg => ?_)
   have ho := Kd.R_of_own (h1 := fun _ => rfl) (ok := fun _ => True) ho0 (fun _ _ => trivial)
   clear ho0
   rw [← Ny.out] at ho
   replace bC := Aside0.mk (blk_grown (g := g) bC.out hg (Kd.R_ne HO.out bC.out Z34))
   replace aY := Aside0.mk (blk_grown (g := gm) aY.out hg (Kd.R_ne HO.out aY.out Z34))
   replace HO := Aside0.mk (show Kd.R (Kd.int .u8) 5 ep w.heap.size (fun _ => True) v2 xs from ho)
   replace HB := Aside0.mk hb
   clear ho hb hg
   refine hK.out _ _ ⟨Sq.bc bC 0, Sq.bc aY 19⟩ (fun hHeld => ?_)
   clear hK K
   refine norm_ (a' := ?_) ?_ ?_
   rotate_left
   ·show Act.put _ (some 84) _ = _
    simp only [Act.put, Sq.s1, Sq.s2, Sq.s3, i64_w, i32_w]
    rfl
   refine Sq.pur 8 (some 85) (Sq.b 11 511) HT_.out ?_
   refine Sq.pur 9 (some 86) (Sq.b 11 1023) HT_.out ?_
   refine last_ (i := 10) (N := none) (Sq.b 11 2047) rfl rfl (one_of HT_.out Z12) Z34 (fun K hK => ?_)
   have hs_ := (blk_cell bC.out 0).trans (c := some u1) rfl
   have hf_ := blk_frozen bC.out 0
   obtain ⟨gc, gg, eo2⟩ := Kd.R_slice HO.out
   subst eo2
   refine skip_ (w1 := ?_) Z16 rfl ?_ ?_
   rotate_left
   ·go_simp
    rfl
   refine hK.out _ _ ?_
   clear hK K
   refine done_ (done_of HT_.out Z12) ?_
   go_wp2
   go_meet
   case rel => exact ⟨_, ⟨blk_put (cs := #[u1]) bC.out 0 _ rfl⟩, ⟨Kd.R_mono (Kd.R_far (p := ⟨g, 0, none⟩) (Kd.R_types HO.out bC.out Z34) (fun _ hk => hk.2) _) (fun _ _ => trivial)⟩, ⟨blk_far (p := ⟨g, 0, none⟩) aY.out NB.out _⟩, ⟨Z10⟩⟩
 case rest =>
  clear A2 HB aY
  obtain ⟨u1, bC, HO, aY, HB⟩ := hcut
  have h := HA.out
  clear HA
  unfold field_Put.c at h
  obtain ⟨⟨s1, s2⟩, g3, h⟩ := Option.bind_eq_some_iff.mp h
  dsimp only at h
  have A3 := Aside0.mk g3
  clear g3
  by_cases cz : xs.length + s1.size ≤ 9223372036854775807
  rotate_left
  ·rw [if_neg cz] at h; exact absurd h Z27
  rw [if_pos cz] at h
  have A4 := Aside0.mk h
  clear h
  have g0 := eq_true cz
  have gd : decide (xs.length + s1.size ≤ 9223372036854775807) = true := decide_eq_true cz
  have gf : (9223372036854775807 < xs.length + s1.size) = False := eq_false (Nat.not_lt.2 cz)
  have zn := Pre.size_nums_ xs
  clear cz
  have hm24 := (blk_cell aY.out 24).trans rfl
  go_upto_region 18 with (first | ((with_reducible refine gate_callee (f := 134) rfl ?_); refine goesL_ (some 90) rfl rfl Tryz.func134 Z12 rfl #[.slice aH af.length aI] rfl Z3 ?_; (with_reducible refine (sub_Put.calls k _ _ af s1 s2 _ (Kd.C_below dZ.out HB.out) cX.out A3.out).mono ?_); rintro e dL ⟨rfl, hb⟩; refine ⟨_, rfl, ?_⟩; replace HO := Aside0.mk (Kd.R_below HO.out hb); replace bC := Aside0.mk (blk_below (g := g) bC.out hb); replace aY := Aside0.mk (blk_below (g := gm) aY.out hb); replace HB := Aside0.mk (below_step HB.out hb); clear hm24 hb))
  obtain ⟨Ao, co, eo⟩ := Kd.R_slice HO.out
  subst eo
  replace bC := Aside0.mk (blk_drew bC.out)
  replace aY := Aside0.mk (blk_drew aY.out)
  replace HO := Aside0.mk (Kd.R_drew HO.out)
  replace HB := Aside0.mk (below_drew1 HB.out)
  refine start_ (n := 16) (S := fun w' => w'.cell? ⟨gm, 0, none⟩ = some (.int .i64 ar) ∧ w'.cell? ⟨g, 0, none⟩ = some (.slice Ao xs.length co) ∧ w'.ownsRow w.heap.size 5 1 (.slice Ao xs.length co) xs.length (nums .u8 xs)) (ds := []) (Sq.b 16 0) Z12 rfl rfl ⟨Sq.bc aY 0, Sq.bc bC 0, Kd.own_of_R HO.out⟩ (fun hHeld => ?_)
  refine with_tabW field_Put.tab18 field_Put.bits18 (fun HT_ HW_ => ?_)
  generalize World.drew _ = w9 at bC aY HO HB hHeld ⊢
  refine Sq.pur 0 (some 93) (Sq.b 16 1) HT_.out ?_
  refine Sq.pur 4 (some 97) (Sq.b 16 17) HT_.out ?_
  refine Sq.pur 5 (some 98) (Sq.b 16 49) HT_.out ?_
  refine Sq.pur 6 (some 99) (Sq.b 16 113) HT_.out ?_
  refine Sq.pur 9 (some 102) (Sq.b 16 625) HT_.out ?_
  refine Sq.tak 1 (some 94) (Sq.b 16 627) HT_.out HW_.out hHeld (v := ?_) (a' := ?_) ?_ ?_ ?_
  rotate_left
  ·rintro w' ⟨s0, s1, s2⟩
   (go_simp; with_reducible rfl)
  rotate_left
  ·simp only [Act.put, Sq.s1, Sq.s2, Sq.s3, i64_w, i32_w]
   rfl
  refine Sq.pur 2 (some 95) (Sq.b 16 631) HT_.out ?_
  refine Sq.pur 3 (some 96) (Sq.b 16 639) HT_.out ?_
  refine Sq.tak 7 (some 100) (Sq.b 16 767) HT_.out HW_.out hHeld (v := ?_) (a' := ?_) ?_ ?_ ?_
  rotate_left
  ·rintro w' ⟨s0, s1, s2⟩
   (go_simp; with_reducible rfl)
  rotate_left
  ·simp only [Act.put, Sq.s1, Sq.s2, Sq.s3, i64_w, i32_w]
   rfl
  refine Sq.tak 8 (some 101) (Sq.b 16 1023) HT_.out HW_.out hHeld (v := ?_) (a' := ?_) ?_ ?_ ?_
  rotate_left
  ·rintro w' ⟨s0, s1, s2⟩
   have hcv := own_string (P := Tryz.prog) Tryz.underlying64 Tryz.underlying5 Tryz.underlying9 s2
   (go_simp; with_reducible rfl)
  rotate_left
  ·simp only [Act.put, Sq.s1, Sq.s2, Sq.s3, i64_w, i32_w]
   rfl
  refine Sq.pur 10 (some 103) (Sq.b 16 2047) HT_.out ?_
  refine one_ (i := 11) (N := some 104) (Sq.b 16 4095) rfl rfl (one_of HT_.out Z12) Z34 (fun K hK => ?_)
  refine goes_ Tryz.func130 Z12 rfl #[.int .i64 (wrap64 (wrap64 (ar - 7) + 2)), .string (strOfNums xs ++ s1)] Z16 rfl rfl Z3 ?_
  with_reducible refine (frame_Put.calls (wrap64 (wrap64 (ar - 7) + 2)) (strOfNums xs ++ s1) r1 r2 _ A4.out).mono ?_
  rintro e fg ⟨rfl, hb⟩
  refine ⟨_, rfl, ?_⟩
  replace bC := Aside0.mk (blk_below (g := g) bC.out hb)
  replace aY := Aside0.mk (blk_below (g := gm) aY.out hb)
  replace HO := Aside0.mk (Kd.R_below HO.out hb)
  replace HB := Aside0.mk (below_step HB.out hb)
  clear hb
  refine hK.out _ _ ⟨Sq.bc aY 0, Sq.bc bC 0, Kd.own_of_R HO.out⟩ (fun hHeld => ?_)
  clear hK K
  refine norm_ (a' := ?_) ?_ ?_
  rotate_left
  ·show Act.put _ (some 104) _ = _
   simp only [Act.put, Sq.s1, Sq.s2, Sq.s3, i64_w, i32_w]
   rfl
  refine Sq.pur 12 (some 105) (Sq.b 16 8191) HT_.out ?_
  refine Sq.pur 13 (some 106) (Sq.b 16 16383) HT_.out ?_
  refine Sq.pur 14 (some 2) (Sq.b 16 32767) HT_.out ?_
  refine Sq.pur 15 (some 3) (Sq.b 16 65535) HT_.out ?_
  refine done_ (done_of HT_.out Z12) ?_
  go_wp2
  go_ret2
  exact ⟨rfl, HB.out⟩

end Go.Proofs.YtnllanjoebjeiaaGreat.PV
