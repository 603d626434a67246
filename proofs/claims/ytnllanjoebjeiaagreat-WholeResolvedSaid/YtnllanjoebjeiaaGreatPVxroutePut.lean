-- Written by mp.py, a program of this work (wip/tools), out of the translation; Lean checks it.
import Derived.Test.YtnllanjoebjeiaaGreatPVxZ
import Derived.Test.YtnllanjoebjeiaaGreatPVxframe
import Derived.Test.YtnllanjoebjeiaaGreatPVxprefix
import Derived.Test.YtnllanjoebjeiaaGreatPVxrouteIn
import Derived.Test.YtnllanjoebjeiaaGreatPVxrouteRight
import Derived.Test.YtnllanjoebjeiaaGreatPVxsub
import Derived.Test.YtnllanjoebjeiaaGreatStore
namespace Go.Proofs.YtnllanjoebjeiaaGreat.PV
open Go.RowKit Go.Proofs.YtnllanjoebjeiaaGreatW.PrintWords Go.Proofs.YtnllanjoebjeiaaGreatW.PrintLast Go.Proofs.YtnllanjoebjeiaaGreatW.PrintMore
attribute [local go_sem] max2_int min2_int max_two min_two max_three min_three max_four min_four   -- for this text's walks alone
set_option linter.unusedVariables false
set_option linter.unusedSimpArgs false

/-! ### route_Put: function 129 -/
/-- The first bytes: its numbers, and those of a request for a number. -/
def route_Put.w (ar au av ac ak : Int) (ag : ByteArray) : Option (List Int) := if ar = 13 then (if ag.size < 140737488355300 then some (([au % 256, av % 256] ++ [ac / 256 % 256, ac % 256, ak % 256, 0]) ++ bytesOf ag) else none) else some [au % 256, av % 256]
def route_Put.b (au : Int) : Option Int := if au = 0 then some 0 else if au = 1 then some 0 else if au = 2 then some 0 else if au = 3 then some 8 else none
theorem route_Put.fx (sz b lo hi : Int) (w : World) : (Instr.field 166 (.agg #[.int .i64 sz, .int .i64 b, .int .i64 lo, .int .i64 hi]) 1).run Tryz.prog w = .ok (.int .i64 b) w := by kernel_rfl
theorem route_Put.ix (a b : Int) (h : route_Put.b a = some b) : ∃ sz lo hi : Int, 0 ≤ b ∧ ∀ w : World, (Instr.index 167 (.agg #[.int .i64 0, .int .i64 0, .int .i64 0, .int .i64 0, .int .i64 4, .int .i64 0, .int .i64 0, .int .i64 32, .int .i64 16, .int .i64 0, .int .i64 0, .int .i64 128, .int .i64 16, .int .i64 8, .int .i64 64, .int .i64 128]) (.int .i64 a)).run Tryz.prog w = .ok (.agg #[.int .i64 sz, .int .i64 b, .int .i64 lo, .int .i64 hi]) w := by
 unfold route_Put.b at h
 by_cases c0 : a = 0
 ·subst c0; rw [if_pos rfl] at h; obtain rfl := Option.some.inj h; exact ⟨_, _, _, Z23, route_shapes.at0⟩
 rw [if_neg c0] at h
 by_cases c1 : a = 1
 ·subst c1; rw [if_pos rfl] at h; obtain rfl := Option.some.inj h; exact ⟨_, _, _, Z23, route_shapes.at1⟩
 rw [if_neg c1] at h
 by_cases c2 : a = 2
 ·subst c2; rw [if_pos rfl] at h; obtain rfl := Option.some.inj h; exact ⟨_, _, _, Z23, route_shapes.at2⟩
 rw [if_neg c2] at h
 by_cases c3 : a = 3
 ·subst c3; rw [if_pos rfl] at h; obtain rfl := Option.some.inj h; exact ⟨_, _, _, Z23, route_shapes.at3⟩
 ·rw [if_neg c3] at h; exact absurd h Z27
def route_Put.c (ar au : Int) (aw : ByteArray) (av : Int) (tail : ByteArray) (xs : List Int) : Option (ByteArray × Bool) := (prefix_Cut.f aw av).bind fun q => (route_Put.b au).bind fun b => (if b ≤ (q.size : Int) then (if xs.length + (q.extract b.toNat q.size).size < 140737488355328 then (if (xs ++ bytesOf (q.extract b.toNat q.size)).length + tail.size ≤ 9223372036854775807 then frame_Put.f (if ar = 13 then 10 else 9) (strOfNums (xs ++ bytesOf (q.extract b.toNat q.size)) ++ tail) else none) else none) else none)
def route_Put.f (k : Nat) (ar : Int) (aC : Int) (az : Int) (ay : ByteArray) (aA : Int) (au : Int) (aw : ByteArray) (av : Int) (aD : Int) (ax : ByteArray) (am : Int) (ag : ByteArray) (ac : Int) (aq : Int) (ab : Int) (ao : Int) (ak : Int) (ai : Int) (ae : Int) (ah : ByteArray) (ap : ByteArray) (aa : List S78) (aj : Int) (al : ByteArray) (af : List S80) : Option (ByteArray × Bool) := (route_Right.f k ar aC az ay aA au aw av aD ax am ag ac aq ab ao ak ai ae ah ap aa aj al af).bind fun t => (if t = true then (sub_Put.f k af).bind fun s => (route_Put.w ar au av ac ak ag).bind fun xs => route_Put.c ar au aw av s.1 xs else some (⟨#[]⟩, false))
theorem route_Put.mono : ∀ ar aC az ay aA au aw av aD ax am ag ac aq ab ao ak ai ae ah ap aa aj al af k, LeO (route_Put.f k ar aC az ay aA au aw av aD ax am ag ac aq ab ao ak ai ae ah ap aa aj al af) (route_Put.f (k + 1) ar aC az ay aA au aw av aD ax am ag ac aq ab ao ak ai ae ah ap aa aj al af) := by
 intros
 rename_i k
 unfold route_Put.f
 have m0 := route_Right.mono
 have m1 := sub_Put.mono
 exact Sq.mo
def route_Put.T10 : Bool × List (List Nat × List Nat) := (true, [([], []), ([], []), ([1], [1]), ([], []), ([3], [3]), ([2, 4], [2, 4]), ([5], []), ([], []), ([7], [7]), ([6, 8], [6, 8]), ([9], [9]), ([5, 10], [5, 10]), ([0, 11, 6], [0, 11]), ([12, 12, 0, 1, 2, 3, 4, 5, 6, 7, 8, 9, 10, 11, 12], [0, 12])])
def route_Put.B10 : List Nat := [0, 0, 2, 0, 8, 30, 62, 0, 128, 510, 1022, 2046, 4095, 8191]
theorem route_Put.tab10 : rtab .any (opsOf Tryz.f129 10) = route_Put.T10 := by kernel_rfl
theorem route_Put.bits10 : waitsOk route_Put.T10.2 route_Put.B10 = true := by kernel_rfl
set_option maxHeartbeats 8000000 in
set_option maxRecDepth 100000 in
theorem route_Put.calls (k : Nat) (ar : Int) (aC : Int) (az : Int) (ay : ByteArray) (aA : Int) (au : Int) (aw : ByteArray) (av : Int) (aD : Int) (ax : ByteArray) (am : Int) (ag : ByteArray) (ac : Int) (aq : Int) (ab : Int) (ao : Int) (ak : Int) (ai : Int) (ae : Int) (ah : ByteArray) (ap : ByteArray) (aJ : Option Addr) (aK : Nat) (aa : List S78) (aj : Int) (al : ByteArray) (aH : Option Addr) (aI : Nat) (af : List S80) (r1 : ByteArray) (r2 : Bool) (w : World) (bD : Kd.C k78 w aJ aa.length aa) (bE : aa.length ≤ aK) (bF : Kd.C k80 w aH af.length af) (bG : af.length ≤ aI) (h : route_Put.f k ar aC az ay aA au aw av aD ax am ag ac aq ab ao ak ai ae ah ap aa aj al af = some (r1, r2)) :
  Calls Tryz.prog 129 #[.agg #[.int .i64 ar, .int .i64 aC, .int .i64 az, .string ay, .int .i64 aA, .int .i64 au, .string aw, .int .i64 av, .int .i64 aD, .string ax, .int .i64 am, .string ag, .int .i64 ac, .int .i64 aq, .int .i64 ab, .int .i64 ao, .int .i64 ak, .int .i64 ai, .int .i64 ae, .string ah, .string ap, .slice aJ aa.length aK, .int .i64 aj, .string al, .slice aH af.length aI]] w fun e w' => e = .returned (.tuple #[.string r1, .bool r2]) ∧ Below w.heap.size w w' := by
 have hu := Tryz.underlying32
 have eA := Aside0.mk bD
 have eB := Aside0.mk bE
 have dZ := Aside0.mk bF
 have cX := Aside0.mk bG
 have HB := Aside0.mk (Below.refl w.heap.size w)
 clear bD bE bF bG
 unfold route_Put.f at h
 obtain ⟨t, g1, h⟩ := Option.bind_eq_some_iff.mp h
 have A1 := Aside0.mk g1
 clear g1
 cases t
 ·replace h := (if_neg Bool.false_ne_true).symm.trans h
  simp only [Option.some.injEq, Prod.mk.injEq] at h
  obtain ⟨rfl, rfl⟩ := h
  go_enter Tryz.func129, Tryz.ntmps129
  go_wp2_with (first | ((with_reducible refine gate_dst (N := 1) rfl ?_); (try (refine gate_guard Z16 ?_; dsimp only)); refine Sq.box 1 #[.int .i64 ar, .int .i64 aC, .int .i64 az, .string ay, .int .i64 aA, .int .i64 au, .string aw, .int .i64 av, .int .i64 aD, .string ax, .int .i64 am, .string ag, .int .i64 ac, .int .i64 aq, .int .i64 ab, .int .i64 ao, .int .i64 ak, .int .i64 ai, .int .i64 ae, .string ah, .string ap, .slice aJ aa.length aK, .int .i64 aj, .string al, .slice aH af.length aI] 32 ?_; intro gm hg w1 hbox hb; have aY := Aside0.mk hbox; replace HB := Aside0.mk (below_step Z2 hb); clear hb hbox hg) | ((with_reducible refine Pre.gate_load 32 rfl ?_); (try (refine gate_guard Z16 ?_; dsimp only)); refine Pre.load_event rfl rfl rfl Z16 Z17 Tryz.underlying32 rfl Z12 ?_) | ((with_reducible refine gate_callee (f := 64) rfl ?_); refine goesL_ (some 9) rfl rfl Tryz.func64 Z12 rfl #[.agg #[.int .i64 ar, .int .i64 aC, .int .i64 az, .string ay, .int .i64 aA, .int .i64 au, .string aw, .int .i64 av, .int .i64 aD, .string ax, .int .i64 am, .string ag, .int .i64 ac, .int .i64 aq, .int .i64 ab, .int .i64 ao, .int .i64 ak, .int .i64 ai, .int .i64 ae, .string ah, .string ap, .slice aJ aa.length aK, .int .i64 aj, .string al, .slice aH af.length aI]] rfl Z3 ?_; (with_reducible refine (route_Right.calls k ar aC az ay aA au aw av aD ax am ag ac aq ab ao ak ai ae ah ap _ _ aa aj al _ _ af false _ ?side1 ?side2 ?side3 ?side4 A1.out).mono ?_); (case side1 => exact (Kd.C_below eA.out HB.out)); (case side2 => exact eB.out); (case side3 => exact (Kd.C_below dZ.out HB.out)); (case side4 => exact cX.out); rintro e w6 ⟨rfl, hb⟩; refine ⟨_, rfl, ?_⟩; replace aY := Aside0.mk (blk_below (g := gm) Z17 hb); replace HB := Aside0.mk (below_step Z2 hb); clear hb))
  go_ret2
  exact ⟨rfl, Z2⟩
 replace h := (if_pos rfl).symm.trans h
 obtain ⟨⟨s1, s2⟩, g3, h⟩ := Option.bind_eq_some_iff.mp h
 obtain ⟨xs, g2, h⟩ := Option.bind_eq_some_iff.mp h
 dsimp only at h
 have A2 := Aside0.mk g2
 have A3 := Aside0.mk g3
 have HA := Aside0.mk h
 clear g2 g3 h
 go_enter Tryz.func129, Tryz.ntmps129
 go_upto_if 26 with (first | ((with_reducible refine gate_dst (N := 1) rfl ?_); (try (refine gate_guard Z16 ?_; dsimp only)); refine Sq.box 1 #[.int .i64 ar, .int .i64 aC, .int .i64 az, .string ay, .int .i64 aA, .int .i64 au, .string aw, .int .i64 av, .int .i64 aD, .string ax, .int .i64 am, .string ag, .int .i64 ac, .int .i64 aq, .int .i64 ab, .int .i64 ao, .int .i64 ak, .int .i64 ai, .int .i64 ae, .string ah, .string ap, .slice aJ aa.length aK, .int .i64 aj, .string al, .slice aH af.length aI] 32 ?_; intro gm hg w1 hbox hb; have aY := Aside0.mk hbox; replace HB := Aside0.mk (below_step Z2 hb); clear hb hbox hg) | ((with_reducible refine Pre.gate_load 32 rfl ?_); (try (refine gate_guard Z16 ?_; dsimp only)); refine Pre.load_event rfl rfl rfl Z16 Z17 Tryz.underlying32 rfl Z12 ?_) | ((with_reducible refine gate_callee (f := 64) rfl ?_); refine goesL_ (some 9) rfl rfl Tryz.func64 Z12 rfl #[.agg #[.int .i64 ar, .int .i64 aC, .int .i64 az, .string ay, .int .i64 aA, .int .i64 au, .string aw, .int .i64 av, .int .i64 aD, .string ax, .int .i64 am, .string ag, .int .i64 ac, .int .i64 aq, .int .i64 ab, .int .i64 ao, .int .i64 ak, .int .i64 ai, .int .i64 ae, .string ah, .string ap, .slice aJ aa.length aK, .int .i64 aj, .string al, .slice aH af.length aI]] rfl Z3 ?_; (with_reducible refine (route_Right.calls k ar aC az ay aA au aw av aD ax am ag ac aq ab ao ak ai ae ah ap _ _ aa aj al _ _ af true _ ?side1 ?side2 ?side3 ?side4 A1.out).mono ?_); (case side1 => exact (Kd.C_below eA.out HB.out)); (case side2 => exact eB.out); (case side3 => exact (Kd.C_below dZ.out HB.out)); (case side4 => exact cX.out); rintro e w6 ⟨rfl, hb⟩; refine ⟨_, rfl, ?_⟩; replace aY := Aside0.mk (blk_below (g := gm) Z17 hb); replace HB := Aside0.mk (below_step Z2 hb); clear hb; have hm5 := (blk_cell aY.out 5).trans rfl; have hm7 := (blk_cell aY.out 7).trans rfl; have hm24 := (blk_cell aY.out 24).trans rfl) | ((with_reducible refine gate_callee (f := 134) rfl ?_); refine goesL_ (some 14) rfl rfl Tryz.func134 Z12 rfl #[.slice aH af.length aI] rfl Z3 ?_; (with_reducible refine (sub_Put.calls k _ _ af s1 s2 _ (Kd.C_below dZ.out HB.out) cX.out A3.out).mono ?_); rintro e dL ⟨rfl, hb⟩; refine ⟨_, rfl, ?_⟩; replace aY := Aside0.mk (blk_below (g := gm) aY.out hb); replace HB := Aside0.mk (below_step HB.out hb); clear hm24 hm5 hm7 hb; have hm5 := (blk_cell aY.out 5).trans rfl; have hm7 := (blk_cell aY.out 7).trans rfl) | ((with_reducible refine gate_dst (N := 23) rfl ?_); refine Kd.R_lit (Kd.int .u8) _ 5 ?hg (N := 23) ?hd (xs := ([au % 256, av % 256] : List Int)) (inner := [.int .u8 (au % 256), .int .u8 (av % 256)]) (ok := fun _ => True) (okp := fun _ => True) ?hr ?hp (fun _ hk => hk) trivial (Below.refl _ _) (Nat.le_refl _) Z27 ?_; (case hd => rfl); (case hg => rfl); (case hr => first | (go_simp; done) | (go_simp; rfl)); (case hp => exact (Reps.one (show Kd.M (Kd.int .u8) _ _ _ (au % 256) [.int .u8 (au % 256)] from rfl) (Reps.one (show Kd.M (Kd.int .u8) _ _ _ (av % 256) [.int .u8 (av % 256)] from rfl) (Reps.none _ _)))); intro v4 w4 ho19 hb hg_ hnew_; clear hg_ hnew_; have HO := Aside0.mk (Kd.R_lower ho19 (below_size HB.out)); replace aY := Aside0.mk (blk_below (g := gm) aY.out hb); replace HB := Aside0.mk (below_step HB.out hb); clear hb ho19; obtain ⟨Ao, co, eo⟩ := Kd.R_slice HO.out; subst eo; have hm0 := (blk_cell aY.out 0).trans rfl; have hm11 := (blk_cell aY.out 11).trans rfl; have hm12 := (blk_cell aY.out 12).trans rfl; have hm16 := (blk_cell aY.out 16).trans rfl))
 go_cut [6, 7] (fun v6 v7 wc => ∃ (Ao : Option Addr) (co : Nat), v6 = .slice Ao xs.length co ∧ v7 = .int .i64 (if ar = 13 then 10 else 9) ∧ Aside0 (Kd.R (Kd.int .u8) 5 wc w.heap.size (fun _ => True) (.slice Ao xs.length co) xs) ∧ Aside0 (wc.heap[gm]? = some (.cells #[.int .i64 ar, .int .i64 aC, .int .i64 az, .string ay, .int .i64 aA, .int .i64 au, .string aw, .int .i64 av, .int .i64 aD, .string ax, .int .i64 am, .string ag, .int .i64 ac, .int .i64 aq, .int .i64 ab, .int .i64 ao, .int .i64 ak, .int .i64 ai, .int .i64 ae, .string ah, .string ap, .slice aJ aa.length aK, .int .i64 aj, .string al, .slice aH af.length aI] 32 (0, 0))) ∧ Aside0 (Below w.heap.size w wc))
 case first =>
  have h := A2.out
  clear A2 HA
  unfold route_Put.w at h
  by_cases c : ar = 13
  ·rw [if_pos c] at h
   have e0 : (ar == 13) = true := beq_iff_eq.mpr c
   have e00 : (if ar = 13 then (10 : Int) else 9) = 10 := if_pos c
   have CC := Aside0.mk e00
   clear e00 c
   by_cases lm : ag.size < 140737488355300
   rotate_left
   ·rw [if_neg lm] at h; exact absurd h Z27
   rw [if_pos lm] at h
   obtain ⟨ys, hy⟩ : ∃ ys, ys = [au % 256, av % 256] ++ [ac / 256 % 256, ac % 256, ak % 256, 0] := ⟨_, rfl⟩
   rw [← hy] at h
   have LM := Aside0.mk (show ys.length + ag.size < 140737488355328 by rw [hy]; simp only [List.length_append, List.length_cons, List.length_nil]; omega)
   have Ny := Aside0.mk hy
   have Nz := Aside0.mk (Option.some.inj h).symm
   clear h hy lm
   go_wp2_with (first | ((with_reducible refine gate_dst (N := 38) rfl ?_); refine Kd.R_lit (Kd.int .u8) _ 5 ?hg (N := 38) ?hd (xs := ([ac / 256 % 256, ac % 256, ak % 256, 0] : List Int)) (inner := [.int .u8 (ac / 256 % 256), .int .u8 (ac % 256), .int .u8 (ak % 256), .int .u8 (0)]) (ok := fun _ => True) (okp := fun _ => True) ?hr ?hp (fun _ hk => hk) trivial (Below.refl _ _) (Nat.le_refl _) Z27 ?_; (case hd => rfl); (case hg => rfl); (case hr => first | (go_simp; done) | (go_simp; rfl)); (case hp => exact (Reps.one (show Kd.M (Kd.int .u8) _ _ _ (ac / 256 % 256) [.int .u8 (ac / 256 % 256)] from rfl) (Reps.one (show Kd.M (Kd.int .u8) _ _ _ (ac % 256) [.int .u8 (ac % 256)] from rfl) (Reps.one (show Kd.M (Kd.int .u8) _ _ _ (ak % 256) [.int .u8 (ak % 256)] from rfl) (Reps.one (show Kd.M (Kd.int .u8) _ _ _ (0) [.int .u8 (0)] from rfl) (Reps.none _ _)))))); intro v4 w4 ho19 hb hg_ hnew_; clear hg_ hnew_; have RL := Aside0.mk (Kd.R_lower (Kd.R_new' ho19 (Kd.R_lt HO.out)) (below_size HB.out)); replace HO := Aside0.mk (Kd.R_elder' HO.out (Kd.R_base ho19) hb); replace aY := Aside0.mk (blk_below (g := gm) aY.out hb); replace HB := Aside0.mk (below_step HB.out hb); clear hb ho19 hm0 hm11 hm12 hm16; have hm11 := (blk_cell aY.out 11).trans rfl; obtain ⟨sc, sd, eo21⟩ := Kd.R_slice RL.out; subst eo21) | ((with_reducible refine gate_builtin (b := .append) (xs := #[.tmp 27, .tmp 38]) rfl ?_); at_builtin; refine Kd.R_append_rows (Kd.int .u8) (w0 := w) w.heap.size rfl (.tmp 27) (.tmp 38) 64 5 (.int .u8 0) 1 rfl Tryz.underlying64 info5 rfl Z34 Z23 _ ([au % 256, av % 256] : List Int) ([ac / 256 % 256, ac % 256, ak % 256, 0] : List Int) _ _ _ (fun k_ => some k_ ≠ (.slice sc ([ac / 256 % 256, ac % 256, ak % 256, 0] : List Int).length sd : Value).ownBlock) (fun _ => False) rfl rfl ?aO ?aR (fun _ _ h => h) (fun _ h => h.elim) ?aF ?aB ?aS ?aL ?_; (case aR => exact (Kd.R_reads' RL.out).2.2); (case aB => exact HB.out); (case aF => exact (fun k_ hk => Kd.fresh' (Kd.R_lt RL.out) k_ hk)); (case aO => exact (Kd.R_mono HO.out (fun _ hk => hk.2))); (case aS => exact (below_size HB.out)); (case aL => simp only [List.length_cons, List.length_nil]; omega); intro xb w8 ho hb hg hat; rw [← Ny.out] at ho; replace aY := Aside0.mk (blk_grown (g := gm) aY.out hg (Kd.R_ne HO.out aY.out Z34)); replace HO := Aside0.mk (Kd.R_mono (ok' := fun _ => True) ho (fun _ _ => trivial)); replace HB := Aside0.mk hb; clear RL ho hb hg hat hm11; have hm11 := (blk_cell aY.out 11).trans rfl; obtain ⟨gc, gg, eo2⟩ := Kd.R_slice HO.out; subst eo2) | (at_builtin; refine print_append_str (w0 := w) w.heap.size rfl (.tmp 40) _ 64 9 5 rfl Tryz.underlying64 Tryz.underlying9 info5 _ ys ag rfl rfl ?aO ?aB ?aS ?aL ?_; (case aB => exact HB.out); (case aO => exact (Kd.own_of_R HO.out)); (case aS => exact (below_size HB.out)); (case aL => have := LM.out; omega); intro v2 ep ho0 hb hg; have ho := Kd.R_of_own (h1 := fun _ => rfl) (ok := fun _ => True) ho0 (fun _ _ => trivial); clear ho0; rw [← Nz.out] at ho; replace aY := Aside0.mk (blk_grown (g := gm) aY.out hg (Kd.R_ne HO.out aY.out Z34)); replace HO := Aside0.mk (show Kd.R (Kd.int .u8) 5 ep w.heap.size (fun _ => True) v2 xs from ho); replace HB := Aside0.mk hb; clear ho hb hg hm11; obtain ⟨Ao3, co3, eo3⟩ := Kd.R_slice HO.out; subst eo3))
   go_meet
   case rel => exact ⟨_, _, rfl, by rw [CC.out], HO, aY, HB⟩
  ·rw [if_neg c] at h
   have e0 : (ar == 13) = false := beq_eq_false_iff_ne.mpr c
   have e00 : (if ar = 13 then (10 : Int) else 9) = 9 := if_neg c
   have CC := Aside0.mk e00
   clear e00 c
   obtain rfl := Option.some.inj h
   clear h
   go_wp2
   go_meet
   case rel => exact ⟨_, _, rfl, by rw [CC.out], HO, aY, HB⟩
 case rest =>
  clear A2 HB aY
  obtain ⟨Ao, co, rfl, rfl, HO, aY, HB⟩ := hcut
  have h := HA.out
  clear HA
  unfold route_Put.c at h
  generalize (if ar = 13 then (10 : Int) else 9) = ty at h ⊢
  obtain ⟨q, g5, h⟩ := Option.bind_eq_some_iff.mp h
  obtain ⟨b, g6, h⟩ := Option.bind_eq_some_iff.mp h
  obtain ⟨sz, lo, hi, b0, ix⟩ := route_Put.ix au b g6
  have fx := route_Put.fx sz b lo hi
  have A5 := Aside0.mk g5
  clear g5 g6
  by_cases c1 : b ≤ (q.size : Int)
  rotate_left
  ·rw [if_neg c1] at h; exact absurd h Z27
  rw [if_pos c1] at h
  by_cases c2 : xs.length + (q.extract b.toNat q.size).size < 140737488355328
  rotate_left
  ·rw [if_neg c2] at h; exact absurd h Z27
  rw [if_pos c2] at h
  have LM := Aside0.mk c2
  obtain ⟨zs, hz⟩ : ∃ zs, zs = xs ++ bytesOf (q.extract b.toNat q.size) := ⟨_, rfl⟩
  rw [← hz] at h
  have Nz := Aside0.mk hz
  by_cases cz : zs.length + s1.size ≤ 9223372036854775807
  rotate_left
  ·rw [if_neg cz] at h; exact absurd h Z27
  rw [if_pos cz] at h
  have A6 := Aside0.mk h
  have p0 := eq_true b0
  have p1 : decide (0 ≤ b) = true := decide_eq_true b0
  have q0 := eq_true c1
  have q1 : decide (b ≤ (q.size : Int)) = true := decide_eq_true c1
  have g0 := eq_true cz
  have gd : decide (zs.length + s1.size ≤ 9223372036854775807) = true := decide_eq_true cz
  have gf : (9223372036854775807 < zs.length + s1.size) = False := eq_false (Nat.not_lt.2 cz)
  have zn := Pre.size_nums_ zs
  clear h hz c1 c2 cz b0
  go_upto_region 10 with (first | (fail))
  replace aY := Aside0.mk (blk_drew aY.out)
  replace HO := Aside0.mk (Kd.R_drew HO.out)
  replace HB := Aside0.mk (below_drew1 HB.out)
  refine start_ (n := 14) (S := fun w' => w'.cell? ⟨gm, 5, none⟩ = some (.int .i64 au) ∧ w'.cell? ⟨gm, 6, none⟩ = some (.string aw) ∧ w'.cell? ⟨gm, 7, none⟩ = some (.int .i64 av)) (ds := []) (Sq.b 14 0) Z12 rfl rfl ⟨Sq.bc aY 5, Sq.bc aY 6, Sq.bc aY 7⟩ (fun hHeld => ?_)
  refine with_tabW route_Put.tab10 route_Put.bits10 (fun HT_ HW_ => ?_)
  generalize World.drew _ = w9 at aY HO HB hHeld ⊢
  refine Sq.pur 0 (some 44) (Sq.b 14 1) HT_.out ?_
  refine Sq.pur 1 (some 45) (Sq.b 14 3) HT_.out ?_
  refine Sq.pur 3 (some 47) (Sq.b 14 11) HT_.out ?_
  refine Sq.pur 7 (some 51) (Sq.b 14 139) HT_.out ?_
  refine Sq.tak 2 (some 46) (Sq.b 14 143) HT_.out HW_.out hHeld (v := ?_) (a' := ?_) ?_ ?_ ?_
  rotate_left
  ·rintro w' ⟨s0, s1, s2⟩
   (go_simp; with_reducible rfl)
  rotate_left
  ·simp only [Act.put, Sq.s1, Sq.s2, Sq.s3, i64_w, i32_w]
   rfl
  refine Sq.tak 4 (some 48) (Sq.b 14 159) HT_.out HW_.out hHeld (v := ?_) (a' := ?_) ?_ ?_ ?_
  rotate_left
  ·rintro w' ⟨s0, s1, s2⟩
   (go_simp; with_reducible rfl)
  rotate_left
  ·simp only [Act.put, Sq.s1, Sq.s2, Sq.s3, i64_w, i32_w]
   rfl
  refine Sq.tak 8 (some 52) (Sq.b 14 415) HT_.out HW_.out hHeld (v := ?_) (a' := ?_) ?_ ?_ ?_
  rotate_left
  ·rintro w' ⟨s0, s1, s2⟩
   (go_simp; with_reducible rfl)
  rotate_left
  ·simp only [Act.put, Sq.s1, Sq.s2, Sq.s3, i64_w, i32_w]
   rfl
  refine one_ (i := 5) (N := some 49) (Sq.b 14 447) rfl rfl (one_of HT_.out Z12) Z34 (fun K hK => ?_)
  refine goes_ Tryz.func169 Z12 rfl #[.string aw, .int .i64 av] Z16 rfl rfl Z3 ?_
  with_reducible refine (prefix_Cut.calls aw av q _ A5.out).mono ?_
  rintro e fg ⟨rfl, hb⟩
  refine ⟨_, rfl, ?_⟩
  replace aY := Aside0.mk (blk_below (g := gm) aY.out hb)
  replace HO := Aside0.mk (Kd.R_below HO.out hb)
  replace HB := Aside0.mk (below_step HB.out hb)
  clear hb
  refine hK.out _ _ ⟨Sq.bc aY 5, Sq.bc aY 6, Sq.bc aY 7⟩ (fun hHeld => ?_)
  clear hK K
  refine norm_ (a' := ?_) ?_ ?_
  rotate_left
  ·show Act.put _ (some 49) _ = _
   simp only [Act.put, Sq.s1, Sq.s2, Sq.s3, i64_w, i32_w]
   rfl
  refine one_ (i := 6) (N := some 50) (Sq.b 14 511) rfl rfl (one_of HT_.out Z12) Z34 (fun K hK => ?_)
  refine goes_ Tryz.func168 Z12 rfl #[] Z16 rfl rfl Z3 ?_
  with_reducible refine (route_shapes.calls _).mono ?_
  rintro e fg ⟨rfl, hb⟩
  unfold route_shapes.v
  refine ⟨_, rfl, ?_⟩
  replace aY := Aside0.mk (blk_below (g := gm) aY.out hb)
  replace HO := Aside0.mk (Kd.R_below HO.out hb)
  replace HB := Aside0.mk (below_step HB.out hb)
  clear hb
  refine hK.out _ _ ⟨Sq.bc aY 5, Sq.bc aY 6, Sq.bc aY 7⟩ (fun hHeld => ?_)
  clear hK K
  refine norm_ (a' := ?_) ?_ ?_
  rotate_left
  ·show Act.put _ (some 50) _ = _
   simp only [Act.put, Sq.s1, Sq.s2, Sq.s3, i64_w, i32_w]
   rfl
  refine Sq.pur 9 (some 53) (Sq.b 14 1023) HT_.out ?_
  refine Sq.pur 10 (some 54) (Sq.b 14 2047) HT_.out ?_
  refine Sq.pur 11 (some 55) (Sq.b 14 4095) HT_.out ?_
  refine one_ (i := 12) (N := some 56) (Sq.b 14 8191) rfl rfl (one_of HT_.out Z12) Z34 (fun K hK => ?_)
  refine Pre.append_str_step (w0 := w) w.heap.size Z16 (.tmp 44) (.tmp 55) 64 9 5 rfl Tryz.underlying64 Tryz.underlying9 info5 (.slice Ao xs.length co) xs (q.extract b.toNat q.size) rfl rfl (Kd.own_of_R HO.out) HB.out (below_size HB.out) (by have := LM.out; omega) (fun v2 ep ho0 hb hg => ?_)
  have ho := Kd.R_of_own (h1 := fun _ => rfl) (ok := fun _ => True) ho0 (fun _ _ => trivial)
  clear ho0
  rw [← Nz.out] at ho
  replace aY := Aside0.mk (blk_grown (g := gm) aY.out hg (Kd.R_ne HO.out aY.out Z34))
  replace HO := Aside0.mk (show Kd.R (Kd.int .u8) 5 ep w.heap.size (fun _ => True) v2 zs from ho)
  replace HB := Aside0.mk hb
  clear ho hb hg
  refine hK.out _ _ ⟨Sq.bc aY 5, Sq.bc aY 6, Sq.bc aY 7⟩ (fun hHeld => ?_)
  clear hK K
  refine norm_ (a' := ?_) ?_ ?_
  rotate_left
  ·show Act.put _ (some 56) _ = _
   simp only [Act.put, Sq.s1, Sq.s2, Sq.s3, i64_w, i32_w]
   rfl
  refine Sq.pur 13 (some 6) (Sq.b 14 16383) HT_.out ?_
  refine done_ (done_of HT_.out Z12) ?_
  obtain ⟨Az, cz_, eo⟩ := Kd.R_slice HO.out
  subst eo
  have hcv := own_string (P := Tryz.prog) Tryz.underlying64 Tryz.underlying5 Tryz.underlying9 (Kd.own_of_R HO.out)
  go_wp2_with (first | ((with_reducible refine gate_callee (f := 130) rfl ?_); refine goesL_ (some 62) rfl rfl Tryz.func130 Z12 rfl #[.int .i64 ty, .string (strOfNums zs ++ s1)] rfl Z3 ?_; (with_reducible refine (frame_Put.calls ty (strOfNums zs ++ s1) r1 r2 _ A6.out).mono ?_); rintro e dL ⟨rfl, hb⟩; refine ⟨_, rfl, ?_⟩; replace HB := Aside0.mk (below_step HB.out hb); clear hcv hb))
  go_ret2
  exact ⟨rfl, HB.out⟩

end Go.Proofs.YtnllanjoebjeiaaGreat.PV
