-- Written by mp.py, a program of this work (wip/tools), out of the translation; Lean checks it.
import Derived.Test.YtnllanjoebjeiaaGreatPVxZ
import Derived.Test.YtnllanjoebjeiaaGreatPVxctx
import Derived.Test.YtnllanjoebjeiaaGreatPVxlean
import Derived.Test.YtnllanjoebjeiaaGreatStore
namespace Go.Proofs.YtnllanjoebjeiaaGreat.PV
open Go.RowKit Go.Proofs.YtnllanjoebjeiaaGreatW.PrintWords Go.Proofs.YtnllanjoebjeiaaGreatW.PrintLast Go.Proofs.YtnllanjoebjeiaaGreatW.PrintMore
attribute [local go_sem] max2_int min2_int max_two min_two max_three min_three max_four min_four   -- for this text's walks alone
set_option linter.unusedVariables false
set_option linter.unusedSimpArgs false

/-! ### lean_Put: function 30 -/
/-- What is known behind an Update's router-id and next hop, and their bytes; true: the next hop can't be told. -/
def lean_Put.m (h0 h1 id : ByteArray) (au : Int) (ax : ByteArray) (am : Int) (ag : ByteArray) : Option (Bool × List Int × ByteArray × ByteArray × ByteArray) := if am = 65535 then some (false, [], h0, h1, id) else (ctx_Family.f au).bind fun fam => (if fam = 0 then some h0 else if fam = 1 then some h1 else none).bind fun hp => if ax.toList = [] ∧ hp.toList ≠ [] then some (true, [], h0, h1, id) else (if ag.toList = id.toList then some (([] : List Int), id) else (lean_writer_id.f [] ag).bind fun x => some (x, ag)).bind fun xs => (if ax.toList = hp.toList then some (xs.1, h0, h1) else lean_writer_hop.f xs.1 h0 h1 fam ax).bind fun q => some (false, q.1, q.2.1, q.2.2, xs.2)
def lean_Put.t (k : Nat) (p0 p1 p2 p3 : ByteArray) (xs : List Int) (h0 h1 id : ByteArray) (ar : Int) (aC : Int) (az : Int) (ay : ByteArray) (aA : Int) (au : Int) (aw : ByteArray) (av : Int) (aD : Int) (ax : ByteArray) (am : Int) (ag : ByteArray) (ac : Int) (aq : Int) (ab : Int) (ao : Int) (ak : Int) (ai : Int) (ae : Int) (ah : ByteArray) (ap : ByteArray) (aa : List S78) (aj : Int) (al : ByteArray) (af : List S80) : Option (ByteArray × (ByteArray × ByteArray × ByteArray × ByteArray × ByteArray × ByteArray × ByteArray) × Int) := (lean_writer_omitted.f k p0 p1 p2 p3 ar aC az ay aA au aw av aD ax am ag ac aq ab ao ak ai ae ah ap aa aj al af).bind fun n => (lean_writer_update.f k xs p1 p2 p3 ar aC az ay aA au aw av aD ax am ag ac aq ab ao ak ai ae ah ap aa aj al af n).bind fun q => some (strOfNums q.1, (p0, q.2.1, q.2.2.1, q.2.2.2, h0, h1, id), 0)
def lean_Put.f (k : Nat) (p0 : ByteArray) (p1 : ByteArray) (p2 : ByteArray) (p3 : ByteArray) (h0 : ByteArray) (h1 : ByteArray) (id : ByteArray) (ar : Int) (aC : Int) (az : Int) (ay : ByteArray) (aA : Int) (au : Int) (aw : ByteArray) (av : Int) (aD : Int) (ax : ByteArray) (am : Int) (ag : ByteArray) (ac : Int) (aq : Int) (ab : Int) (ao : Int) (ak : Int) (ai : Int) (ae : Int) (ah : ByteArray) (ap : ByteArray) (aa : List S78) (aj : Int) (al : ByteArray) (af : List S80) : Option (ByteArray × (ByteArray × ByteArray × ByteArray × ByteArray × ByteArray × ByteArray × ByteArray) × Int) := (lean_Right.f k ar aC az ay aA au aw av aD ax am ag ac aq ab ao ak ai ae ah ap aa aj al af).bind fun t => if t = true then (if ar = 11 then (lean_Put.m h0 h1 id au ax am ag).bind fun q => (if q.1 = true then some (⟨#[]⟩, (p0, p1, p2, p3, h0, h1, id), 9) else lean_Put.t k p0 p1 p2 p3 q.2.1 q.2.2.1 q.2.2.2.1 q.2.2.2.2 ar aC az ay aA au aw av aD ax am ag ac aq ab ao ak ai ae ah ap aa aj al af) else (lean_other.f k ar aC az ay aA au aw av aD ax am ag ac aq ab ao ak ai ae ah ap aa aj al af).bind fun s => some (s, (p0, p1, p2, p3, h0, h1, id), 0)) else some (⟨#[]⟩, (p0, p1, p2, p3, h0, h1, id), 1)
theorem lean_Put.mono : ∀ p0 p1 p2 p3 h0 h1 id ar aC az ay aA au aw av aD ax am ag ac aq ab ao ak ai ae ah ap aa aj al af k, LeO (lean_Put.f k p0 p1 p2 p3 h0 h1 id ar aC az ay aA au aw av aD ax am ag ac aq ab ao ak ai ae ah ap aa aj al af) (lean_Put.f (k + 1) p0 p1 p2 p3 h0 h1 id ar aC az ay aA au aw av aD ax am ag ac aq ab ao ak ai ae ah ap aa aj al af) := by
 intros
 rename_i k
 unfold lean_Put.f lean_Put.t
 have m0 := lean_Right.mono
 have m1 := lean_other.mono
 have m2 := lean_writer_omitted.mono
 have m3 := lean_writer_update.mono
 exact Sq.mo
theorem lean_Put.store_step {P : Program} {ops : Array Oper} {Q : Exit → Act → World → Prop} {K : Act → World → Prop} {a : Act} {w : World} {o : Oper} {ty : TypeId} {x y : Operand} {g e : Nat} {cur cells : Array Value} (hw : Region.wanted o (yielded ops a.tmps) = true) (hd : o.dst = none) (ho : o.op = .store ty x y)
  (hx : a.eval x = .pointer (some ⟨g, 0, none⟩)) (hy : a.eval y = .agg cells) (hh : w.heap[g]? = some (.cells cur e (0, 0))) (ht : (P.info? ty).map (·.size) = some cells.size) (hfit : cells.toList.length = cur.toList.length) (h1 : cells.toList.all (·.oneCell') = true)
  (h : ∀ w', w'.heap[g]? = some (.cells cells e (0, 0)) → Pre.Sets g w w' → K a w') : if Region.wanted o (yielded ops a.tmps) = true then Oper.wp P o a w K Q else K (a.put none undef) w := by
 have hr := run_store_run (P := P) (w := w) (g := g) (o := 0) (e := e) (cur := cur) ty (.agg cells) cells.toList hh rfl (by rw [ht, Array.length_toList]) (by rw [hfit, Array.length_toList]; omega) (fun q hq => List.all_eq_true.1 h1 q hq)
 rw [if_pos hw]
 unfold Oper.wp execOp
 simp only [ho, hx, hy, Sem.run_bind, hr, Result.andThen_ok]
 show K (a.put o.dst undef) _
 rw [hd]
 exact h _ (Pre.setCells_allA hh (by simpa using hfit.symm)) (Pre.Sets.cells g _ _ _)
theorem lean_Put.range {w : World} {g t : Nat} {u v0 v1 v2 v3 v4 v5 v6 : Value} (h : w.heap[g]? = some (.cells #[u, v0, v1, v2, v3, v4, v5, v6] t (0, 0))) : ∀ j v, [v0, v1, v2, v3, v4, v5, v6][j]? = some v → w.cell? ((⟨g, 1, none⟩ : Addr).add j) = some v := by
 intro j v e
 have hp : (⟨g, 1, none⟩ : Addr).add j = ⟨g, j + 1, none⟩ := by unfold Addr.add; split <;> simp_all [Nat.add_comm]
 rw [hp, blk_cell h (j + 1)]
 simpa using e
def lean_Put.T2 : Bool × List (List Nat × List Nat) := (true, [([], []), ([], []), ([0, 1, 0, 1], [0]), ([2, 0, 1, 2], [])])
def lean_Put.B2 : List Nat := [0, 0, 3, 7]
theorem lean_Put.tab2 : rtab .any (opsOf Tryz.f30 2) = lean_Put.T2 := by kernel_rfl
theorem lean_Put.bits2 : waitsOk lean_Put.T2.2 lean_Put.B2 = true := by kernel_rfl
def lean_Put.T4 : Bool × List (List Nat × List Nat) := (true, [([], []), ([0], [0]), ([], []), ([1, 1, 0, 1], [1]), ([2, 3, 0, 1, 2, 3], [2]), ([4, 0, 1, 2, 3, 4], [])])
def lean_Put.B4 : List Nat := [0, 1, 0, 3, 15, 31]
theorem lean_Put.tab4 : rtab .any (opsOf Tryz.f30 4) = lean_Put.T4 := by kernel_rfl
theorem lean_Put.bits4 : waitsOk lean_Put.T4.2 lean_Put.B4 = true := by kernel_rfl
def lean_Put.T9 : Bool × List (List Nat × List Nat) := (true, [([], []), ([], []), ([0, 1, 0, 1], [0]), ([2, 0, 1, 2], [])])
def lean_Put.B9 : List Nat := [0, 0, 3, 7]
theorem lean_Put.tab9 : rtab .any (opsOf Tryz.f30 9) = lean_Put.T9 := by kernel_rfl
theorem lean_Put.bits9 : waitsOk lean_Put.T9.2 lean_Put.B9 = true := by kernel_rfl
def lean_Put.T12 : Bool × List (List Nat × List Nat) := (true, [([], []), ([0], [0]), ([], []), ([], []), ([3, 2], [2, 3]), ([4], [4]), ([1, 5], [1, 5])])
def lean_Put.B12 : List Nat := [0, 1, 0, 0, 12, 28, 63]
theorem lean_Put.tab12 : rtab .any (opsOf Tryz.f30 12) = lean_Put.T12 := by kernel_rfl
theorem lean_Put.bits12 : waitsOk lean_Put.T12.2 lean_Put.B12 = true := by kernel_rfl
def lean_Put.T14 : Bool × List (List Nat × List Nat) := (true, [([], []), ([], []), ([], []), ([], []), ([2, 3], [2, 3]), ([0, 1, 4, 4], [0, 1, 4])])
def lean_Put.B14 : List Nat := [0, 0, 0, 0, 12, 31]
theorem lean_Put.tab14 : rtab .any (opsOf Tryz.f30 14) = lean_Put.T14 := by kernel_rfl
theorem lean_Put.bits14 : waitsOk lean_Put.T14.2 lean_Put.B14 = true := by kernel_rfl
def lean_Put.T15 : Bool × List (List Nat × List Nat) := (true, [([], []), ([0], [0]), ([1], [1]), ([2], [2]), ([3], [3]), ([], []), ([5], [5]), ([6], [6]), ([7], [7]), ([4, 0, 1, 2, 3, 4], [4]), ([8, 9, 0, 1, 2, 3, 4, 5, 6, 7, 8, 9], [8]), ([10, 0, 1, 2, 3, 4, 5, 6, 7, 8, 9, 10], [])])
def lean_Put.B15 : List Nat := [0, 1, 3, 7, 15, 0, 32, 96, 224, 31, 1023, 2047]
theorem lean_Put.tab15 : rtab .any (opsOf Tryz.f30 15) = lean_Put.T15 := by kernel_rfl
theorem lean_Put.bits15 : waitsOk lean_Put.T15.2 lean_Put.B15 = true := by kernel_rfl
set_option maxHeartbeats 8000000 in
set_option maxRecDepth 100000 in
theorem lean_Put.calls (k : Nat) (p0 : ByteArray) (p1 : ByteArray) (p2 : ByteArray) (p3 : ByteArray) (h0 : ByteArray) (h1 : ByteArray) (id : ByteArray) (ar : Int) (aC : Int) (az : Int) (ay : ByteArray) (aA : Int) (au : Int) (aw : ByteArray) (av : Int) (aD : Int) (ax : ByteArray) (am : Int) (ag : ByteArray) (ac : Int) (aq : Int) (ab : Int) (ao : Int) (ak : Int) (ai : Int) (ae : Int) (ah : ByteArray) (ap : ByteArray) (aJ : Option Addr) (aK : Nat) (aa : List S78) (aj : Int) (al : ByteArray) (aH : Option Addr) (aI : Nat) (af : List S80) (r1 : ByteArray) (q0 q1 q2 q3 q4 q5 q6 : ByteArray) (r3 : Int) (w : World) (bD : Kd.C k78 w aJ aa.length aa) (bE : aa.length ≤ aK) (bF : Kd.C k80 w aH af.length af) (bG : af.length ≤ aI) (h : lean_Put.f k p0 p1 p2 p3 h0 h1 id ar aC az ay aA au aw av aD ax am ag ac aq ab ao ak ai ae ah ap aa aj al af = some (r1, (q0, q1, q2, q3, q4, q5, q6), r3)) :
  Calls Tryz.prog 30 #[.agg #[.string p0, .string p1, .string p2, .string p3, .string h0, .string h1, .string id], .agg #[.int .i64 ar, .int .i64 aC, .int .i64 az, .string ay, .int .i64 aA, .int .i64 au, .string aw, .int .i64 av, .int .i64 aD, .string ax, .int .i64 am, .string ag, .int .i64 ac, .int .i64 aq, .int .i64 ab, .int .i64 ao, .int .i64 ak, .int .i64 ai, .int .i64 ae, .string ah, .string ap, .slice aJ aa.length aK, .int .i64 aj, .string al, .slice aH af.length aI]] w fun e w' => e = .returned (.tuple #[.string r1, .agg #[.string q0, .string q1, .string q2, .string q3, .string q4, .string q5, .string q6], .int .i64 r3]) ∧ Below w.heap.size w w' := by
 have hu := Tryz.underlying32
 have gU := Tryz.underlying87
 have ic := Tryz.underlying46
 have hu43 := Tryz.underlying43
 have hu44 := Tryz.underlying44
 have eA := Aside0.mk bD
 have eB := Aside0.mk bE
 have dZ := Aside0.mk bF
 have cX := Aside0.mk bG
 have HB := Aside0.mk (Below.refl w.heap.size w)
 clear bD bE bF bG
 unfold lean_Put.f at h
 obtain ⟨t, g1, h⟩ := Option.bind_eq_some_iff.mp h
 have A1 := Aside0.mk g1
 have HA := Aside0.mk h
 clear g1 h
 go_enter Tryz.func30, Tryz.ntmps30
 go_upto_block 0 with (first | ((with_reducible refine gate_dst (N := 2) rfl ?_); refine Sq.box 2 #[.string p0, .string p1, .string p2, .string p3, .string h0, .string h1, .string id] 46 ?_; intro gc hg w1 hbox hb; have BC := Aside0.mk hbox; replace HB := Aside0.mk (below_step HB.out hb); clear hb hbox hg) | ((with_reducible refine gate_dst (N := 3) rfl ?_); refine Sq.box 3 #[.int .i64 ar, .int .i64 aC, .int .i64 az, .string ay, .int .i64 aA, .int .i64 au, .string aw, .int .i64 av, .int .i64 aD, .string ax, .int .i64 am, .string ag, .int .i64 ac, .int .i64 aq, .int .i64 ab, .int .i64 ao, .int .i64 ak, .int .i64 ai, .int .i64 ae, .string ah, .string ap, .slice aJ aa.length aK, .int .i64 aj, .string al, .slice aH af.length aI] 32 ?_; intro gm hg w2 hbox hb; have aY := Aside0.mk hbox; replace BC := Aside0.mk (blk_below (g := gc) BC.out hb); replace HB := Aside0.mk (below_step HB.out hb); clear hb hbox hg))
 obtain ⟨gr, hgr⟩ : ∃ gr, gr = w2.heap.size := ⟨_, rfl⟩
 have BR := Aside0.mk (heap_alloc_new w2 (.cells #[.string ⟨#[]⟩, .string ⟨#[]⟩, .string ⟨#[]⟩, .string ⟨#[]⟩, .string ⟨#[]⟩, .string ⟨#[]⟩, .string ⟨#[]⟩] 46 (0, 0)))
 have GR := Aside0.mk (show w.heap.size ≤ gr from hgr ▸ below_size HB.out)
 replace BC := Aside0.mk (blk_alloc BC.out (.cells #[.string ⟨#[]⟩, .string ⟨#[]⟩, .string ⟨#[]⟩, .string ⟨#[]⟩, .string ⟨#[]⟩, .string ⟨#[]⟩, .string ⟨#[]⟩] 46 (0, 0)))
 replace aY := Aside0.mk (blk_alloc aY.out (.cells #[.string ⟨#[]⟩, .string ⟨#[]⟩, .string ⟨#[]⟩, .string ⟨#[]⟩, .string ⟨#[]⟩, .string ⟨#[]⟩, .string ⟨#[]⟩] 46 (0, 0)))
 replace HB := Aside0.mk (below_alloc HB.out (.cells #[.string ⟨#[]⟩, .string ⟨#[]⟩, .string ⟨#[]⟩, .string ⟨#[]⟩, .string ⟨#[]⟩, .string ⟨#[]⟩, .string ⟨#[]⟩] 46 (0, 0)))
 rw [← hgr] at BR ⊢
 clear hgr
 generalize World.alloc _ _ = w3 at BC aY BR HB ⊢
 have h := HA.out
 clear HA
 cases t
 ·rw [if_neg Bool.false_ne_true] at h
  simp only [Option.some.injEq, Prod.mk.injEq] at h
  obtain ⟨rfl, ⟨rfl, rfl, rfl, rfl, rfl, rfl, rfl⟩, rfl⟩ := h
  go_upto_region 2 with (first | ((with_reducible refine Pre.gate_load 32 rfl ?_); refine Pre.load_event rfl rfl rfl Z16 aY.out Tryz.underlying32 rfl Z12 ?_) | ((with_reducible refine gate_callee (f := 29) rfl ?_); refine goesL_ (some 11) rfl rfl Tryz.func29 Z12 rfl #[.agg #[.int .i64 ar, .int .i64 aC, .int .i64 az, .string ay, .int .i64 aA, .int .i64 au, .string aw, .int .i64 av, .int .i64 aD, .string ax, .int .i64 am, .string ag, .int .i64 ac, .int .i64 aq, .int .i64 ab, .int .i64 ao, .int .i64 ak, .int .i64 ai, .int .i64 ae, .string ah, .string ap, .slice aJ aa.length aK, .int .i64 aj, .string al, .slice aH af.length aI]] rfl Z3 ?_; (with_reducible refine (lean_Right.calls k ar aC az ay aA au aw av aD ax am ag ac aq ab ao ak ai ae ah ap _ _ aa aj al _ _ af false _ ?side1 ?side2 ?side3 ?side4 A1.out).mono ?_); (case side1 => exact (Kd.C_below eA.out HB.out)); (case side2 => exact eB.out); (case side3 => exact (Kd.C_below dZ.out HB.out)); (case side4 => exact cX.out); rintro e w6 ⟨rfl, hb⟩; refine ⟨_, rfl, ?_⟩; replace BC := Aside0.mk (blk_below (g := gc) BC.out hb); replace aY := Aside0.mk (blk_below (g := gm) aY.out hb); replace BR := Aside0.mk (blk_below (g := gr) BR.out hb); replace HB := Aside0.mk (below_step HB.out hb); clear hb))
  replace BC := Aside0.mk (blk_drew BC.out)
  replace BR := Aside0.mk (blk_drew BR.out)
  replace HB := Aside0.mk (below_drew1 HB.out)
  refine start_ (n := 4) (S := fun w' => w'.heap[gc]? = some (.cells #[.string p0, .string p1, .string p2, .string p3, .string h0, .string h1, .string id] 46 (0, 0))) (ds := [2]) (Sq.b 4 0) Z12 rfl rfl BC.out (fun hHeld => ?_)
  refine with_tabW lean_Put.tab2 lean_Put.bits2 (fun HT_ HW_ => ?_)
  generalize World.drew _ = w9 at BC BR HB hHeld ⊢
  refine Sq.tak 0 (some 13) (Sq.b 4 1) HT_.out HW_.out hHeld (v := ?_) (a' := ?_) ?_ ?_ ?_
  rotate_left
  ·rintro w' s0
   (refine Eq.trans (Pre.load_run (ty := 46) rfl Z16 (by with_reducible assumption) Tryz.underlying46 rfl Z12) ?_; with_reducible rfl)
  rotate_left
  ·simp only [Act.put, Sq.s1, Sq.s2, Sq.s3, i64_w, i32_w]
   rfl
  refine Sq.pur 1 (some 4) (Sq.b 4 3) HT_.out ?_
  refine last_ (i := 2) (N := none) (Sq.b 4 7) rfl rfl (one_of HT_.out Z12) Z34 (fun K hK => ?_)
  refine lean_Put.store_step Z16 rfl rfl Z16 Z16 BR.out Z12 Z16 Z16 (fun w7 hr7 hs7 => ?_)
  refine hK.out _ _ ?_
  clear hK K
  replace BR := Aside0.mk hr7
  replace HB := Aside0.mk (hs7.below HB.out GR.out)
  clear hr7 hs7
  refine Sq.pur 3 (some 6) (Sq.b 4 15) HT_.out ?_
  refine done_ (done_of HT_.out Z12) ?_
  go_wp2
  refine bodyPost_ret (results_list (vs := [.string ⟨#[]⟩, .agg #[.string p0, .string p1, .string p2, .string p3, .string h0, .string h1, .string id], .int .i64 1]) rfl Z27 (.tmp (.cell gr 46 _ (0, 0) _ rfl BR.out Tryz.underlying46 rfl Z12 (.tmp .nil)))) rfl ⟨rfl, HB.out⟩
 rw [if_pos rfl] at h
 by_cases c : ar = 11
 rotate_left
 ·rw [if_neg c] at h
  obtain ⟨s, g2, h⟩ := Option.bind_eq_some_iff.mp h
  have A2 := Aside0.mk g2
  simp only [Option.some.injEq, Prod.mk.injEq] at h
  obtain ⟨rfl, ⟨rfl, rfl, rfl, rfl, rfl, rfl, rfl⟩, rfl⟩ := h
  have e0 : (ar == 11) = false := beq_eq_false_iff_ne.mpr c
  clear c g2
  go_upto_region 4 with (first | ((with_reducible refine Pre.gate_load 32 rfl ?_); refine Pre.load_event rfl rfl rfl Z16 aY.out Tryz.underlying32 rfl Z12 ?_) | ((with_reducible refine gate_callee (f := 29) rfl ?_); refine goesL_ (some 11) rfl rfl Tryz.func29 Z12 rfl #[.agg #[.int .i64 ar, .int .i64 aC, .int .i64 az, .string ay, .int .i64 aA, .int .i64 au, .string aw, .int .i64 av, .int .i64 aD, .string ax, .int .i64 am, .string ag, .int .i64 ac, .int .i64 aq, .int .i64 ab, .int .i64 ao, .int .i64 ak, .int .i64 ai, .int .i64 ae, .string ah, .string ap, .slice aJ aa.length aK, .int .i64 aj, .string al, .slice aH af.length aI]] rfl Z3 ?_; (with_reducible refine (lean_Right.calls k ar aC az ay aA au aw av aD ax am ag ac aq ab ao ak ai ae ah ap _ _ aa aj al _ _ af true _ ?side1 ?side2 ?side3 ?side4 A1.out).mono ?_); (case side1 => exact (Kd.C_below eA.out HB.out)); (case side2 => exact eB.out); (case side3 => exact (Kd.C_below dZ.out HB.out)); (case side4 => exact cX.out); rintro e w6 ⟨rfl, hb⟩; refine ⟨_, rfl, ?_⟩; replace BC := Aside0.mk (blk_below (g := gc) BC.out hb); replace aY := Aside0.mk (blk_below (g := gm) aY.out hb); replace BR := Aside0.mk (blk_below (g := gr) BR.out hb); replace HB := Aside0.mk (below_step HB.out hb); clear hb; have hm0 := (blk_cell aY.out 0).trans rfl))
  clear hm0
  replace BC := Aside0.mk (blk_drew BC.out)
  replace aY := Aside0.mk (blk_drew aY.out)
  replace BR := Aside0.mk (blk_drew BR.out)
  replace HB := Aside0.mk (below_drew1 HB.out)
  refine start_ (n := 6) (S := fun w' => w'.heap[gm]? = some (.cells #[.int .i64 ar, .int .i64 aC, .int .i64 az, .string ay, .int .i64 aA, .int .i64 au, .string aw, .int .i64 av, .int .i64 aD, .string ax, .int .i64 am, .string ag, .int .i64 ac, .int .i64 aq, .int .i64 ab, .int .i64 ao, .int .i64 ak, .int .i64 ai, .int .i64 ae, .string ah, .string ap, .slice aJ aa.length aK, .int .i64 aj, .string al, .slice aH af.length aI] 32 (0, 0)) ∧ w'.heap[gc]? = some (.cells #[.string p0, .string p1, .string p2, .string p3, .string h0, .string h1, .string id] 46 (0, 0))) (ds := [4]) (Sq.b 6 0) Z12 rfl rfl ⟨aY.out, BC.out⟩ (fun hHeld => ?_)
  refine with_tabW lean_Put.tab4 lean_Put.bits4 (fun HT_ HW_ => ?_)
  generalize World.drew _ = w9 at BC aY BR HB hHeld ⊢
  refine Sq.tak 0 (some 18) (Sq.b 6 1) HT_.out HW_.out hHeld (v := ?_) (a' := ?_) ?_ ?_ ?_
  rotate_left
  ·rintro w' ⟨s0, s1⟩
   (refine Eq.trans (Pre.load_run (ty := 32) rfl Z16 (by with_reducible assumption) Tryz.underlying32 rfl Z12) ?_; with_reducible rfl)
  rotate_left
  ·simp only [Act.put, Sq.s1, Sq.s2, Sq.s3, i64_w, i32_w]
   rfl
  refine Sq.tak 2 (some 20) (Sq.b 6 5) HT_.out HW_.out hHeld (v := ?_) (a' := ?_) ?_ ?_ ?_
  rotate_left
  ·rintro w' ⟨s0, s1⟩
   (refine Eq.trans (Pre.load_run (ty := 46) rfl Z16 (by with_reducible assumption) Tryz.underlying46 rfl Z12) ?_; with_reducible rfl)
  rotate_left
  ·simp only [Act.put, Sq.s1, Sq.s2, Sq.s3, i64_w, i32_w]
   rfl
  refine one_ (i := 1) (N := some 19) (Sq.b 6 7) rfl rfl (one_of HT_.out Z12) Z34 (fun K hK => ?_)
  refine goes_ Tryz.func67 Z12 rfl #[.agg #[.int .i64 ar, .int .i64 aC, .int .i64 az, .string ay, .int .i64 aA, .int .i64 au, .string aw, .int .i64 av, .int .i64 aD, .string ax, .int .i64 am, .string ag, .int .i64 ac, .int .i64 aq, .int .i64 ab, .int .i64 ao, .int .i64 ak, .int .i64 ai, .int .i64 ae, .string ah, .string ap, .slice aJ aa.length aK, .int .i64 aj, .string al, .slice aH af.length aI]] Z16 rfl rfl Z3 ?_
  with_reducible refine (lean_other.calls k ar aC az ay aA au aw av aD ax am ag ac aq ab ao ak ai ae ah ap _ _ aa aj al _ _ af s _ ?side1 ?side2 ?side3 ?side4 A2.out).mono ?_
  (case side1 => exact (Kd.C_below eA.out HB.out))
  (case side2 => exact eB.out)
  (case side3 => exact (Kd.C_below dZ.out HB.out))
  (case side4 => exact cX.out)
  rintro e fg ⟨rfl, hb⟩
  refine ⟨_, rfl, ?_⟩
  replace BC := Aside0.mk (blk_below (g := gc) BC.out hb)
  replace aY := Aside0.mk (blk_below (g := gm) aY.out hb)
  replace BR := Aside0.mk (blk_below (g := gr) BR.out hb)
  replace HB := Aside0.mk (below_step HB.out hb)
  clear hb
  refine hK.out _ _ ⟨aY.out, BC.out⟩ (fun hHeld => ?_)
  clear hK K
  refine norm_ (a' := ?_) ?_ ?_
  rotate_left
  ·show Act.put _ (some 19) _ = _
   simp only [Act.put, Sq.s1, Sq.s2, Sq.s3, i64_w, i32_w]
   rfl
  refine Sq.pur 3 (some 4) (Sq.b 6 15) HT_.out ?_
  refine last_ (i := 4) (N := none) (Sq.b 6 31) rfl rfl (one_of HT_.out Z12) Z34 (fun K hK => ?_)
  refine lean_Put.store_step Z16 rfl rfl Z16 Z16 BR.out Z12 Z16 Z16 (fun w7 hr7 hs7 => ?_)
  refine hK.out _ _ ?_
  clear hK K
  replace BR := Aside0.mk hr7
  replace HB := Aside0.mk (hs7.below HB.out GR.out)
  clear hr7 hs7
  refine Sq.pur 5 (some 6) (Sq.b 6 63) HT_.out ?_
  refine done_ (done_of HT_.out Z12) ?_
  go_wp2
  refine bodyPost_ret (results_list (vs := [.string s, .agg #[.string p0, .string p1, .string p2, .string p3, .string h0, .string h1, .string id], .int .i64 0]) rfl Z27 (.tmp (.cell gr 46 _ (0, 0) _ rfl BR.out Tryz.underlying46 rfl Z12 (.tmp .nil)))) rfl ⟨rfl, HB.out⟩
 rw [if_pos c] at h
 have e0 : (ar == 11) = true := beq_iff_eq.mpr c
 clear c
 obtain ⟨⟨b, xs, j0, j1, j2⟩, g2, h⟩ := Option.bind_eq_some_iff.mp h
 dsimp only at h
 have A2 := Aside0.mk g2
 have HA := Aside0.mk h
 clear g2 h
 go_upto_if 26 with (first | ((with_reducible refine Pre.gate_load 32 rfl ?_); refine Pre.load_event rfl rfl rfl Z16 aY.out Tryz.underlying32 rfl Z12 ?_) | ((with_reducible refine gate_callee (f := 29) rfl ?_); refine goesL_ (some 11) rfl rfl Tryz.func29 Z12 rfl #[.agg #[.int .i64 ar, .int .i64 aC, .int .i64 az, .string ay, .int .i64 aA, .int .i64 au, .string aw, .int .i64 av, .int .i64 aD, .string ax, .int .i64 am, .string ag, .int .i64 ac, .int .i64 aq, .int .i64 ab, .int .i64 ao, .int .i64 ak, .int .i64 ai, .int .i64 ae, .string ah, .string ap, .slice aJ aa.length aK, .int .i64 aj, .string al, .slice aH af.length aI]] rfl Z3 ?_; (with_reducible refine (lean_Right.calls k ar aC az ay aA au aw av aD ax am ag ac aq ab ao ak ai ae ah ap _ _ aa aj al _ _ af true _ ?side1 ?side2 ?side3 ?side4 A1.out).mono ?_); (case side1 => exact (Kd.C_below eA.out HB.out)); (case side2 => exact eB.out); (case side3 => exact (Kd.C_below dZ.out HB.out)); (case side4 => exact cX.out); rintro e w6 ⟨rfl, hb⟩; refine ⟨_, rfl, ?_⟩; replace BC := Aside0.mk (blk_below (g := gc) BC.out hb); replace aY := Aside0.mk (blk_below (g := gm) aY.out hb); replace BR := Aside0.mk (blk_below (g := gr) BR.out hb); replace HB := Aside0.mk (below_step HB.out hb); clear hb; have hm0 := (blk_cell aY.out 0).trans rfl; have hm10 := (blk_cell aY.out 10).trans rfl) | ((with_reducible refine Pre.gate_load 46 rfl ?_); refine Pre.load_event rfl rfl rfl Z16 BC.out Tryz.underlying46 rfl Z12 ?_) | ((with_reducible refine gate_dst (N := 23) rfl ?_); refine Sq.box 23 #[.slice none 0 0, .string p0, .string p1, .string p2, .string p3, .string h0, .string h1, .string id] 87 ?_; intro g hg w8 hbox hb; have bC := Aside0.mk hbox; have dW := Aside0.mk (Sq.ge hg HB.out); have NB1 := Aside0.mk (show gm ≠ g from by rw [hg]; exact Nat.ne_of_lt (blk_lt aY.out)); have NBR := Aside0.mk (show gr ≠ g from by rw [hg]; exact Nat.ne_of_lt (blk_lt BR.out)); have NBC := Aside0.mk (show gc ≠ g from by rw [hg]; exact Nat.ne_of_lt (blk_lt BC.out)); replace BC := Aside0.mk (blk_below (g := gc) BC.out hb); replace aY := Aside0.mk (blk_below (g := gm) aY.out hb); replace BR := Aside0.mk (blk_below (g := gr) BR.out hb); replace HB := Aside0.mk (below_step HB.out hb); clear hb; clear hbox hg hm0 hm10; have hm10 := (blk_cell aY.out 10).trans rfl))
 go_cut [] (fun wc => ∃ (u : Value), Aside0 (b = false) ∧ Aside0 (wc.heap[g]? = some (.cells #[u, .string p0, .string p1, .string p2, .string p3, .string j0, .string j1, .string j2] 87 (0, 0))) ∧ Aside0 (Kd.R (Kd.int .u8) 5 wc w.heap.size (fun _ => True) u xs) ∧ Aside0 (wc.heap[gm]? = some (.cells #[.int .i64 ar, .int .i64 aC, .int .i64 az, .string ay, .int .i64 aA, .int .i64 au, .string aw, .int .i64 av, .int .i64 aD, .string ax, .int .i64 am, .string ag, .int .i64 ac, .int .i64 aq, .int .i64 ab, .int .i64 ao, .int .i64 ak, .int .i64 ai, .int .i64 ae, .string ah, .string ap, .slice aJ aa.length aK, .int .i64 aj, .string al, .slice aH af.length aI] 32 (0, 0))) ∧ Aside0 (wc.heap[gr]? = some (.cells #[.string ⟨#[]⟩, .string ⟨#[]⟩, .string ⟨#[]⟩, .string ⟨#[]⟩, .string ⟨#[]⟩, .string ⟨#[]⟩, .string ⟨#[]⟩] 46 (0, 0))) ∧ Aside0 (Below w.heap.size w wc))
 case first =>
  have h := A2.out
  clear A2 e0
  unfold lean_Put.m at h
  by_cases c : am = 65535
  ·rw [if_pos c] at h
   simp only [Option.some.injEq, Prod.mk.injEq] at h
   obtain ⟨rfl, rfl, rfl, rfl, rfl⟩ := h
   have e1 : (am == 65535) = true := beq_iff_eq.mpr c
   clear c
   go_wp2
   go_meet
   case rel => exact ⟨_, ⟨by first | rfl | trivial⟩, bC, ⟨Kd.R_nil _ _ _ _ _⟩, aY, BR, HB⟩
  rw [if_neg c] at h
  have e1 : (am == 65535) = false := beq_eq_false_iff_ne.mpr c
  clear c
  obtain ⟨fam, g3, h⟩ := Option.bind_eq_some_iff.mp h
  by_cases c : fam = 0
  ·subst c
   have A3 := Aside0.mk g3
   clear g3
   rw [if_pos rfl] at h
   obtain ⟨hp, g4, h⟩ := Option.bind_eq_some_iff.mp h
   obtain rfl := Option.some.inj g4
   clear g4
   have H := Aside0.mk h
   clear h hm10
   have hm5 := (blk_cell aY.out 5).trans rfl
   go_upto_region 8 with (first | ((with_reducible refine gate_callee (f := 68) rfl ?_); refine goesL_ (some 29) rfl rfl Tryz.func68 Z12 rfl #[.int .i64 au] rfl Z3 ?_; (with_reducible refine (ctx_Family.calls au 0 _ A3.out).mono ?_); rintro e w' ⟨rfl, ⟨nd, rfl⟩⟩; refine ⟨_, rfl, ?_⟩; replace bC := Aside0.mk (blk_drewN bC.out nd); replace aY := Aside0.mk (blk_drewN aY.out nd); replace BC := Aside0.mk (blk_drewN BC.out nd); replace BR := Aside0.mk (blk_drewN BR.out nd); replace HB := Aside0.mk (pw_below_drewN HB.out nd); clear hm5; have hm9 := (blk_cell aY.out 9).trans rfl; have hc4 := (blk_cell BC.out 4).trans rfl))
   go_cut [39] (fun v39 wc => v39 = .bool (decide (ax.toList = [] ∧ h0.toList ≠ [])) ∧ Aside0 (wc.heap[g]? = some (.cells #[.slice none 0 0, .string p0, .string p1, .string p2, .string p3, .string h0, .string h1, .string id] 87 (0, 0))) ∧ Aside0 (wc.heap[gm]? = some (.cells #[.int .i64 ar, .int .i64 aC, .int .i64 az, .string ay, .int .i64 aA, .int .i64 au, .string aw, .int .i64 av, .int .i64 aD, .string ax, .int .i64 am, .string ag, .int .i64 ac, .int .i64 aq, .int .i64 ab, .int .i64 ao, .int .i64 ak, .int .i64 ai, .int .i64 ae, .string ah, .string ap, .slice aJ aa.length aK, .int .i64 aj, .string al, .slice aH af.length aI] 32 (0, 0))) ∧ Aside0 (wc.heap[gc]? = some (.cells #[.string p0, .string p1, .string p2, .string p3, .string h0, .string h1, .string id] 46 (0, 0))) ∧ Aside0 (wc.heap[gr]? = some (.cells #[.string ⟨#[]⟩, .string ⟨#[]⟩, .string ⟨#[]⟩, .string ⟨#[]⟩, .string ⟨#[]⟩, .string ⟨#[]⟩, .string ⟨#[]⟩] 46 (0, 0))) ∧ Aside0 (Below w.heap.size w wc))
   case first =>
    clear HA
    by_cases c1 : ax.toList = []
    ·have e2 : (ax.toList == ([] : List UInt8)) = true := beq_iff_eq.mpr c1
     have e3 : (ax.toList == (⟨#[]⟩ : ByteArray).toList) = true := by rw [show (⟨#[]⟩ : ByteArray).toList = [] from by rw [ByteArray.toList_eq]]; exact e2
     by_cases c2 : h0.toList = []
     ·have e4 : (h0.toList == ([] : List UInt8)) = true := beq_iff_eq.mpr c2
      have e5 : (h0.toList == (⟨#[]⟩ : ByteArray).toList) = true := by rw [show (⟨#[]⟩ : ByteArray).toList = [] from by rw [ByteArray.toList_eq]]; exact e4
      have e6 : decide (ax.toList = [] ∧ h0.toList ≠ []) = false := decide_eq_false (fun z => z.2 c2)
      clear c1 c2
      go_wp2
      go_meet
      case rel => exact ⟨by rw [e6], bC, aY, BC, BR, HB⟩
     ·have e4 : (h0.toList == ([] : List UInt8)) = false := beq_eq_false_iff_ne.mpr c2
      have e5 : (h0.toList == (⟨#[]⟩ : ByteArray).toList) = false := by rw [show (⟨#[]⟩ : ByteArray).toList = [] from by rw [ByteArray.toList_eq]]; exact e4
      have e6 : decide (ax.toList = [] ∧ h0.toList ≠ []) = true := decide_eq_true ⟨c1, c2⟩
      clear c1 c2
      go_wp2
      go_meet
      case rel => exact ⟨by rw [e6], bC, aY, BC, BR, HB⟩
    ·have e2 : (ax.toList == ([] : List UInt8)) = false := beq_eq_false_iff_ne.mpr c1
     have e3 : (ax.toList == (⟨#[]⟩ : ByteArray).toList) = false := by rw [show (⟨#[]⟩ : ByteArray).toList = [] from by rw [ByteArray.toList_eq]]; exact e2
     have e6 : decide (ax.toList = [] ∧ h0.toList ≠ []) = false := decide_eq_false (fun z => c1 z.1)
     clear c1
     go_wp2
     go_meet
     case rel => exact ⟨by rw [e6], bC, aY, BC, BR, HB⟩
   case rest =>
    clear bC aY BC BR HB hm9 hc4
    obtain ⟨rfl, bC, aY, BC, BR, HB⟩ := hcut
    have h := H.out
    clear H
    by_cases c1 : ax.toList = [] ∧ h0.toList ≠ []
    ·rw [if_pos c1] at h
     simp only [Option.some.injEq, Prod.mk.injEq] at h
     obtain ⟨rfl, rfl, rfl, rfl, rfl⟩ := h
     have h := HA.out
     clear HA
     rw [if_pos rfl] at h
     simp only [Option.some.injEq, Prod.mk.injEq] at h
     obtain ⟨rfl, ⟨rfl, rfl, rfl, rfl, rfl, rfl, rfl⟩, rfl⟩ := h
     rw [decide_eq_true c1]
     clear c1
     go_upto_region 9 with (first | (fail))
     replace BC := Aside0.mk (blk_drew BC.out)
     replace BR := Aside0.mk (blk_drew BR.out)
     replace HB := Aside0.mk (below_drew1 HB.out)
     refine start_ (n := 4) (S := fun w' => w'.heap[gc]? = some (.cells #[.string p0, .string p1, .string p2, .string p3, .string h0, .string h1, .string id] 46 (0, 0))) (ds := [2]) (Sq.b 4 0) Z12 rfl rfl BC.out (fun hHeld => ?_)
     refine with_tabW lean_Put.tab9 lean_Put.bits9 (fun HT_ HW_ => ?_)
     generalize World.drew _ = w9 at BC BR HB hHeld ⊢
     refine Sq.tak 0 (some 40) (Sq.b 4 1) HT_.out HW_.out hHeld (v := ?_) (a' := ?_) ?_ ?_ ?_
     rotate_left
     ·rintro w' s0
      (refine Eq.trans (Pre.load_run (ty := 46) rfl Z16 (by with_reducible assumption) Tryz.underlying46 rfl Z12) ?_; with_reducible rfl)
     rotate_left
     ·simp only [Act.put, Sq.s1, Sq.s2, Sq.s3, i64_w, i32_w]
      rfl
     refine Sq.pur 1 (some 4) (Sq.b 4 3) HT_.out ?_
     refine last_ (i := 2) (N := none) (Sq.b 4 7) rfl rfl (one_of HT_.out Z12) Z34 (fun K hK => ?_)
     refine lean_Put.store_step Z16 rfl rfl Z16 Z16 BR.out Z12 Z16 Z16 (fun w7 hr7 hs7 => ?_)
     refine hK.out _ _ ?_
     clear hK K
     replace BR := Aside0.mk hr7
     replace HB := Aside0.mk (hs7.below HB.out GR.out)
     clear hr7 hs7
     refine Sq.pur 3 (some 6) (Sq.b 4 15) HT_.out ?_
     refine done_ (done_of HT_.out Z12) ?_
     go_wp2
     refine bodyPost_ret (results_list (vs := [.string ⟨#[]⟩, .agg #[.string p0, .string p1, .string p2, .string p3, .string h0, .string h1, .string id], .int .i64 9]) rfl Z27 (.tmp (.cell gr 46 _ (0, 0) _ rfl BR.out Tryz.underlying46 rfl Z12 (.tmp .nil)))) rfl ⟨rfl, HB.out⟩
    rw [if_neg c1] at h
    rw [decide_eq_false c1]
    clear c1 HA
    obtain ⟨⟨x1, d1⟩, g5, h⟩ := Option.bind_eq_some_iff.mp h
    obtain ⟨⟨x2, i0, i1⟩, g6, h⟩ := Option.bind_eq_some_iff.mp h
    simp only [Option.some.injEq, Prod.mk.injEq] at h
    obtain ⟨rfl, rfl, rfl, rfl, rfl⟩ := h
    dsimp only at g6
    have A5 := Aside0.mk g5
    have A6 := Aside0.mk g6
    clear g5 g6
    have hm11 := (blk_cell aY.out 11).trans rfl
    have hc6 := (blk_cell BC.out 6).trans rfl
    go_upto_if 45 with (first | (fail))
    go_cut [] (fun wc => ∃ (u1 : Value), Aside0 (wc.heap[g]? = some (.cells #[u1, .string p0, .string p1, .string p2, .string p3, .string h0, .string h1, .string d1] 87 (0, 0))) ∧ Aside0 (Kd.R (Kd.int .u8) 5 wc w.heap.size (fun _ => True) u1 x1) ∧ Aside0 (wc.heap[gm]? = some (.cells #[.int .i64 ar, .int .i64 aC, .int .i64 az, .string ay, .int .i64 aA, .int .i64 au, .string aw, .int .i64 av, .int .i64 aD, .string ax, .int .i64 am, .string ag, .int .i64 ac, .int .i64 aq, .int .i64 ab, .int .i64 ao, .int .i64 ak, .int .i64 ai, .int .i64 ae, .string ah, .string ap, .slice aJ aa.length aK, .int .i64 aj, .string al, .slice aH af.length aI] 32 (0, 0))) ∧ Aside0 (wc.heap[gc]? = some (.cells #[.string p0, .string p1, .string p2, .string p3, .string h0, .string h1, .string id] 46 (0, 0))) ∧ Aside0 (wc.heap[gr]? = some (.cells #[.string ⟨#[]⟩, .string ⟨#[]⟩, .string ⟨#[]⟩, .string ⟨#[]⟩, .string ⟨#[]⟩, .string ⟨#[]⟩, .string ⟨#[]⟩] 46 (0, 0))) ∧ Aside0 (Below w.heap.size w wc))
    case first =>
     have h := A5.out
     clear A5 A6
     by_cases ci : ag.toList = id.toList
     ·rw [if_pos ci] at h
      simp only [Option.some.injEq, Prod.mk.injEq] at h
      obtain ⟨rfl, rfl⟩ := h
      rw [beq_iff_eq.mpr ci]
      clear ci
      go_wp2
      go_meet
      case rel => exact ⟨_, bC, ⟨Kd.R_nil _ _ _ _ _⟩, aY, BC, BR, HB⟩
     ·rw [if_neg ci] at h
      obtain ⟨x3, g5, h⟩ := Option.bind_eq_some_iff.mp h
      simp only [Option.some.injEq, Prod.mk.injEq] at h
      obtain ⟨rfl, rfl⟩ := h
      have A5 := Aside0.mk g5
      rw [beq_eq_false_iff_ne.mpr ci]
      clear ci g5
      go_wp2_with (first | ((with_reducible refine gate_callee (f := 69) rfl ?_); refine goesL_ (some 49) rfl rfl Tryz.func69 Z12 rfl #[.pointer (some ⟨g, 0, none⟩), .string ag] rfl Z3 ?_; (with_reducible refine (lean_writer_id.calls g (.slice none 0 0) p0 p1 p2 p3 h0 h1 id [] ag x3 w _ HB.out dW.out bC.out (Kd.R_nil _ _ _ _ _) A5.out).mono ?_); rintro e dL ⟨rfl, u1, hk, hr, hb, hkb⟩; refine ⟨_, rfl, ?_⟩; replace aY := Aside0.mk (KeepBut.blk hkb (g' := gm) aY.out NB1.out (by exact Option.some_ne_none _)); replace BC := Aside0.mk (KeepBut.blk hkb (g' := gc) BC.out NBC.out (by exact Option.some_ne_none _)); replace BR := Aside0.mk (KeepBut.blk hkb (g' := gr) BR.out NBR.out (by exact Option.some_ne_none _)); replace bC := Aside0.mk hk; have HO := Aside0.mk hr; replace HB := Aside0.mk hb; clear hk hr hb hkb hm11 hc6))
      go_meet
      case rel => exact ⟨_, bC, HO, aY, BC, BR, HB⟩
    case rest =>
     clear A5 bC aY BC BR HB hm11 hc6
     obtain ⟨u1, bC, HO, aY, BC, BR, HB⟩ := hcut
     go_upto_region 12 with (first | (fail))
     replace HO := Aside0.mk (Kd.R_drew HO.out)
     replace BC := Aside0.mk (blk_drew BC.out)
     replace aY := Aside0.mk (blk_drew aY.out)
     replace BR := Aside0.mk (blk_drew BR.out)
     replace bC := Aside0.mk (blk_drew bC.out)
     replace HB := Aside0.mk (below_drew1 HB.out)
     refine start_ (n := 7) (S := fun w' => w'.cell? ⟨gm, 9, none⟩ = some (.string ax) ∧ w'.cell? ⟨gc, 4, none⟩ = some (.string h0)) (ds := []) (Sq.b 7 0) Z12 rfl rfl ⟨Sq.bc aY 9, Sq.bc BC 4⟩ (fun hHeld => ?_)
     refine with_tabW lean_Put.tab12 lean_Put.bits12 (fun HT_ HW_ => ?_)
     generalize World.drew _ = w9 at BC aY BR bC HB HO hHeld ⊢
     refine Sq.pur 0 (some 50) (Sq.b 7 1) HT_.out ?_
     refine Sq.pur 2 (some 52) (Sq.b 7 5) HT_.out ?_
     refine Sq.pur 3 (some 53) (Sq.b 7 13) HT_.out ?_
     refine Sq.tak 1 (some 51) (Sq.b 7 15) HT_.out HW_.out hHeld (v := ?_) (a' := ?_) ?_ ?_ ?_
     rotate_left
     ·rintro w' ⟨s0, s1⟩
      (go_simp; with_reducible rfl)
     rotate_left
     ·simp only [Act.put, Sq.s1, Sq.s2, Sq.s3, i64_w, i32_w]
      rfl
     refine Sq.pur 4 (some 54) (Sq.b 7 31) HT_.out ?_
     refine Sq.tak 5 (some 55) (Sq.b 7 63) HT_.out HW_.out hHeld (v := ?_) (a' := ?_) ?_ ?_ ?_
     rotate_left
     ·rintro w' ⟨s0, s1⟩
      (go_simp; with_reducible rfl)
     rotate_left
     ·simp only [Act.put, Sq.s1, Sq.s2, Sq.s3, i64_w, i32_w]
      rfl
     refine Sq.pur 6 (some 56) (Sq.b 7 127) HT_.out ?_
     refine done_ (done_of HT_.out Z12) ?_
     go_upto_if 56 with (first | (fail))
     have h := A6.out
     clear A6
     by_cases ci : ax.toList = h0.toList
     ·rw [if_pos ci] at h
      simp only [Option.some.injEq, Prod.mk.injEq] at h
      obtain ⟨rfl, rfl, rfl⟩ := h
      rw [beq_iff_eq.mpr ci]
      clear ci
      go_wp2
      go_meet
      case rel => exact ⟨_, ⟨by first | rfl | trivial⟩, bC, HO, aY, BR, HB⟩
     ·rw [if_neg ci] at h
      have A6 := Aside0.mk h
      have hm9 := (blk_cell aY.out 9).trans rfl
      rw [beq_eq_false_iff_ne.mpr ci]
      clear ci h
      go_wp2_with (first | ((with_reducible refine gate_callee (f := 70) rfl ?_); refine goesL_ (some 61) rfl rfl Tryz.func70 Z12 rfl #[.pointer (some ⟨g, 0, none⟩), .int .i64 0, .string ax] rfl Z3 ?_; (with_reducible refine (lean_writer_hop.calls g u1 p0 p1 p2 p3 h0 h1 d1 x1 0 ax x2 i0 i1 w _ HB.out dW.out bC.out HO.out A6.out).mono ?_); rintro e dL ⟨rfl, u2, hk, hr, hb, hkb⟩; refine ⟨_, rfl, ?_⟩; replace aY := Aside0.mk (KeepBut.blk hkb (g' := gm) aY.out NB1.out (Kd.R_ne HO.out aY.out Z34)); replace BC := Aside0.mk (KeepBut.blk hkb (g' := gc) BC.out NBC.out (Kd.R_ne HO.out BC.out Z34)); replace BR := Aside0.mk (KeepBut.blk hkb (g' := gr) BR.out NBR.out (Kd.R_ne HO.out BR.out Z34)); replace bC := Aside0.mk hk; have HO := Aside0.mk hr; replace HB := Aside0.mk hb; clear hk hr hb hkb hm9))
      go_meet
      case rel => exact ⟨_, ⟨by first | rfl | trivial⟩, bC, HO, aY, BR, HB⟩
  rw [if_neg c] at h
  clear c
  by_cases c : fam = 1
  ·subst c
   have A3 := Aside0.mk g3
   clear g3
   rw [if_pos rfl] at h
   obtain ⟨hp, g4, h⟩ := Option.bind_eq_some_iff.mp h
   obtain rfl := Option.some.inj g4
   clear g4
   have H := Aside0.mk h
   clear h hm10
   have hm5 := (blk_cell aY.out 5).trans rfl
   go_upto_region 8 with (first | ((with_reducible refine gate_callee (f := 68) rfl ?_); refine goesL_ (some 29) rfl rfl Tryz.func68 Z12 rfl #[.int .i64 au] rfl Z3 ?_; (with_reducible refine (ctx_Family.calls au 1 _ A3.out).mono ?_); rintro e w' ⟨rfl, ⟨nd, rfl⟩⟩; refine ⟨_, rfl, ?_⟩; replace bC := Aside0.mk (blk_drewN bC.out nd); replace aY := Aside0.mk (blk_drewN aY.out nd); replace BC := Aside0.mk (blk_drewN BC.out nd); replace BR := Aside0.mk (blk_drewN BR.out nd); replace HB := Aside0.mk (pw_below_drewN HB.out nd); clear hm5; have hm9 := (blk_cell aY.out 9).trans rfl; have hc4 := (blk_cell BC.out 5).trans rfl))
   go_cut [39] (fun v39 wc => v39 = .bool (decide (ax.toList = [] ∧ h1.toList ≠ [])) ∧ Aside0 (wc.heap[g]? = some (.cells #[.slice none 0 0, .string p0, .string p1, .string p2, .string p3, .string h0, .string h1, .string id] 87 (0, 0))) ∧ Aside0 (wc.heap[gm]? = some (.cells #[.int .i64 ar, .int .i64 aC, .int .i64 az, .string ay, .int .i64 aA, .int .i64 au, .string aw, .int .i64 av, .int .i64 aD, .string ax, .int .i64 am, .string ag, .int .i64 ac, .int .i64 aq, .int .i64 ab, .int .i64 ao, .int .i64 ak, .int .i64 ai, .int .i64 ae, .string ah, .string ap, .slice aJ aa.length aK, .int .i64 aj, .string al, .slice aH af.length aI] 32 (0, 0))) ∧ Aside0 (wc.heap[gc]? = some (.cells #[.string p0, .string p1, .string p2, .string p3, .string h0, .string h1, .string id] 46 (0, 0))) ∧ Aside0 (wc.heap[gr]? = some (.cells #[.string ⟨#[]⟩, .string ⟨#[]⟩, .string ⟨#[]⟩, .string ⟨#[]⟩, .string ⟨#[]⟩, .string ⟨#[]⟩, .string ⟨#[]⟩] 46 (0, 0))) ∧ Aside0 (Below w.heap.size w wc))
   case first =>
    clear HA
    by_cases c1 : ax.toList = []
    ·have e2 : (ax.toList == ([] : List UInt8)) = true := beq_iff_eq.mpr c1
     have e3 : (ax.toList == (⟨#[]⟩ : ByteArray).toList) = true := by rw [show (⟨#[]⟩ : ByteArray).toList = [] from by rw [ByteArray.toList_eq]]; exact e2
     by_cases c2 : h1.toList = []
     ·have e4 : (h1.toList == ([] : List UInt8)) = true := beq_iff_eq.mpr c2
      have e5 : (h1.toList == (⟨#[]⟩ : ByteArray).toList) = true := by rw [show (⟨#[]⟩ : ByteArray).toList = [] from by rw [ByteArray.toList_eq]]; exact e4
      have e6 : decide (ax.toList = [] ∧ h1.toList ≠ []) = false := decide_eq_false (fun z => z.2 c2)
      clear c1 c2
      go_wp2
      go_meet
      case rel => exact ⟨by rw [e6], bC, aY, BC, BR, HB⟩
     ·have e4 : (h1.toList == ([] : List UInt8)) = false := beq_eq_false_iff_ne.mpr c2
      have e5 : (h1.toList == (⟨#[]⟩ : ByteArray).toList) = false := by rw [show (⟨#[]⟩ : ByteArray).toList = [] from by rw [ByteArray.toList_eq]]; exact e4
      have e6 : decide (ax.toList = [] ∧ h1.toList ≠ []) = true := decide_eq_true ⟨c1, c2⟩
      clear c1 c2
      go_wp2
      go_meet
      case rel => exact ⟨by rw [e6], bC, aY, BC, BR, HB⟩
    ·have e2 : (ax.toList == ([] : List UInt8)) = false := beq_eq_false_iff_ne.mpr c1
     have e3 : (ax.toList == (⟨#[]⟩ : ByteArray).toList) = false := by rw [show (⟨#[]⟩ : ByteArray).toList = [] from by rw [ByteArray.toList_eq]]; exact e2
     have e6 : decide (ax.toList = [] ∧ h1.toList ≠ []) = false := decide_eq_false (fun z => c1 z.1)
     clear c1
     go_wp2
     go_meet
     case rel => exact ⟨by rw [e6], bC, aY, BC, BR, HB⟩
   case rest =>
    clear bC aY BC BR HB hm9 hc4
    obtain ⟨rfl, bC, aY, BC, BR, HB⟩ := hcut
    have h := H.out
    clear H
    by_cases c1 : ax.toList = [] ∧ h1.toList ≠ []
    ·rw [if_pos c1] at h
     simp only [Option.some.injEq, Prod.mk.injEq] at h
     obtain ⟨rfl, rfl, rfl, rfl, rfl⟩ := h
     have h := HA.out
     clear HA
     rw [if_pos rfl] at h
     simp only [Option.some.injEq, Prod.mk.injEq] at h
     obtain ⟨rfl, ⟨rfl, rfl, rfl, rfl, rfl, rfl, rfl⟩, rfl⟩ := h
     rw [decide_eq_true c1]
     clear c1
     go_upto_region 9 with (first | (fail))
     replace BC := Aside0.mk (blk_drew BC.out)
     replace BR := Aside0.mk (blk_drew BR.out)
     replace HB := Aside0.mk (below_drew1 HB.out)
     refine start_ (n := 4) (S := fun w' => w'.heap[gc]? = some (.cells #[.string p0, .string p1, .string p2, .string p3, .string h0, .string h1, .string id] 46 (0, 0))) (ds := [2]) (Sq.b 4 0) Z12 rfl rfl BC.out (fun hHeld => ?_)
     refine with_tabW lean_Put.tab9 lean_Put.bits9 (fun HT_ HW_ => ?_)
     generalize World.drew _ = w9 at BC BR HB hHeld ⊢
     refine Sq.tak 0 (some 40) (Sq.b 4 1) HT_.out HW_.out hHeld (v := ?_) (a' := ?_) ?_ ?_ ?_
     rotate_left
     ·rintro w' s0
      (refine Eq.trans (Pre.load_run (ty := 46) rfl Z16 (by with_reducible assumption) Tryz.underlying46 rfl Z12) ?_; with_reducible rfl)
     rotate_left
     ·simp only [Act.put, Sq.s1, Sq.s2, Sq.s3, i64_w, i32_w]
      rfl
     refine Sq.pur 1 (some 4) (Sq.b 4 3) HT_.out ?_
     refine last_ (i := 2) (N := none) (Sq.b 4 7) rfl rfl (one_of HT_.out Z12) Z34 (fun K hK => ?_)
     refine lean_Put.store_step Z16 rfl rfl Z16 Z16 BR.out Z12 Z16 Z16 (fun w7 hr7 hs7 => ?_)
     refine hK.out _ _ ?_
     clear hK K
     replace BR := Aside0.mk hr7
     replace HB := Aside0.mk (hs7.below HB.out GR.out)
     clear hr7 hs7
     refine Sq.pur 3 (some 6) (Sq.b 4 15) HT_.out ?_
     refine done_ (done_of HT_.out Z12) ?_
     go_wp2
     refine bodyPost_ret (results_list (vs := [.string ⟨#[]⟩, .agg #[.string p0, .string p1, .string p2, .string p3, .string h0, .string h1, .string id], .int .i64 9]) rfl Z27 (.tmp (.cell gr 46 _ (0, 0) _ rfl BR.out Tryz.underlying46 rfl Z12 (.tmp .nil)))) rfl ⟨rfl, HB.out⟩
    rw [if_neg c1] at h
    rw [decide_eq_false c1]
    clear c1 HA
    obtain ⟨⟨x1, d1⟩, g5, h⟩ := Option.bind_eq_some_iff.mp h
    obtain ⟨⟨x2, i0, i1⟩, g6, h⟩ := Option.bind_eq_some_iff.mp h
    simp only [Option.some.injEq, Prod.mk.injEq] at h
    obtain ⟨rfl, rfl, rfl, rfl, rfl⟩ := h
    dsimp only at g6
    have A5 := Aside0.mk g5
    have A6 := Aside0.mk g6
    clear g5 g6
    have hm11 := (blk_cell aY.out 11).trans rfl
    have hc6 := (blk_cell BC.out 6).trans rfl
    go_upto_if 45 with (first | (fail))
    go_cut [] (fun wc => ∃ (u1 : Value), Aside0 (wc.heap[g]? = some (.cells #[u1, .string p0, .string p1, .string p2, .string p3, .string h0, .string h1, .string d1] 87 (0, 0))) ∧ Aside0 (Kd.R (Kd.int .u8) 5 wc w.heap.size (fun _ => True) u1 x1) ∧ Aside0 (wc.heap[gm]? = some (.cells #[.int .i64 ar, .int .i64 aC, .int .i64 az, .string ay, .int .i64 aA, .int .i64 au, .string aw, .int .i64 av, .int .i64 aD, .string ax, .int .i64 am, .string ag, .int .i64 ac, .int .i64 aq, .int .i64 ab, .int .i64 ao, .int .i64 ak, .int .i64 ai, .int .i64 ae, .string ah, .string ap, .slice aJ aa.length aK, .int .i64 aj, .string al, .slice aH af.length aI] 32 (0, 0))) ∧ Aside0 (wc.heap[gc]? = some (.cells #[.string p0, .string p1, .string p2, .string p3, .string h0, .string h1, .string id] 46 (0, 0))) ∧ Aside0 (wc.heap[gr]? = some (.cells #[.string ⟨#[]⟩, .string ⟨#[]⟩, .string ⟨#[]⟩, .string ⟨#[]⟩, .string ⟨#[]⟩, .string ⟨#[]⟩, .string ⟨#[]⟩] 46 (0, 0))) ∧ Aside0 (Below w.heap.size w wc))
    case first =>
     have h := A5.out
     clear A5 A6
     by_cases ci : ag.toList = id.toList
     ·rw [if_pos ci] at h
      simp only [Option.some.injEq, Prod.mk.injEq] at h
      obtain ⟨rfl, rfl⟩ := h
      rw [beq_iff_eq.mpr ci]
      clear ci
      go_wp2
      go_meet
      case rel => exact ⟨_, bC, ⟨Kd.R_nil _ _ _ _ _⟩, aY, BC, BR, HB⟩
     ·rw [if_neg ci] at h
      obtain ⟨x3, g5, h⟩ := Option.bind_eq_some_iff.mp h
      simp only [Option.some.injEq, Prod.mk.injEq] at h
      obtain ⟨rfl, rfl⟩ := h
      have A5 := Aside0.mk g5
      rw [beq_eq_false_iff_ne.mpr ci]
      clear ci g5
      go_wp2_with (first | ((with_reducible refine gate_callee (f := 69) rfl ?_); refine goesL_ (some 49) rfl rfl Tryz.func69 Z12 rfl #[.pointer (some ⟨g, 0, none⟩), .string ag] rfl Z3 ?_; (with_reducible refine (lean_writer_id.calls g (.slice none 0 0) p0 p1 p2 p3 h0 h1 id [] ag x3 w _ HB.out dW.out bC.out (Kd.R_nil _ _ _ _ _) A5.out).mono ?_); rintro e dL ⟨rfl, u1, hk, hr, hb, hkb⟩; refine ⟨_, rfl, ?_⟩; replace aY := Aside0.mk (KeepBut.blk hkb (g' := gm) aY.out NB1.out (by exact Option.some_ne_none _)); replace BC := Aside0.mk (KeepBut.blk hkb (g' := gc) BC.out NBC.out (by exact Option.some_ne_none _)); replace BR := Aside0.mk (KeepBut.blk hkb (g' := gr) BR.out NBR.out (by exact Option.some_ne_none _)); replace bC := Aside0.mk hk; have HO := Aside0.mk hr; replace HB := Aside0.mk hb; clear hk hr hb hkb hm11 hc6))
      go_meet
      case rel => exact ⟨_, bC, HO, aY, BC, BR, HB⟩
    case rest =>
     clear A5 bC aY BC BR HB hm11 hc6
     obtain ⟨u1, bC, HO, aY, BC, BR, HB⟩ := hcut
     go_upto_region 12 with (first | (fail))
     replace HO := Aside0.mk (Kd.R_drew HO.out)
     replace BC := Aside0.mk (blk_drew BC.out)
     replace aY := Aside0.mk (blk_drew aY.out)
     replace BR := Aside0.mk (blk_drew BR.out)
     replace bC := Aside0.mk (blk_drew bC.out)
     replace HB := Aside0.mk (below_drew1 HB.out)
     refine start_ (n := 7) (S := fun w' => w'.cell? ⟨gm, 9, none⟩ = some (.string ax) ∧ w'.cell? ⟨gc, 5, none⟩ = some (.string h1)) (ds := []) (Sq.b 7 0) Z12 rfl rfl ⟨Sq.bc aY 9, Sq.bc BC 5⟩ (fun hHeld => ?_)
     refine with_tabW lean_Put.tab12 lean_Put.bits12 (fun HT_ HW_ => ?_)
     generalize World.drew _ = w9 at BC aY BR bC HB HO hHeld ⊢
     refine Sq.pur 0 (some 50) (Sq.b 7 1) HT_.out ?_
     refine Sq.pur 2 (some 52) (Sq.b 7 5) HT_.out ?_
     refine Sq.pur 3 (some 53) (Sq.b 7 13) HT_.out ?_
     refine Sq.tak 1 (some 51) (Sq.b 7 15) HT_.out HW_.out hHeld (v := ?_) (a' := ?_) ?_ ?_ ?_
     rotate_left
     ·rintro w' ⟨s0, s1⟩
      (go_simp; with_reducible rfl)
     rotate_left
     ·simp only [Act.put, Sq.s1, Sq.s2, Sq.s3, i64_w, i32_w]
      rfl
     refine Sq.pur 4 (some 54) (Sq.b 7 31) HT_.out ?_
     refine Sq.tak 5 (some 55) (Sq.b 7 63) HT_.out HW_.out hHeld (v := ?_) (a' := ?_) ?_ ?_ ?_
     rotate_left
     ·rintro w' ⟨s0, s1⟩
      (go_simp; with_reducible rfl)
     rotate_left
     ·simp only [Act.put, Sq.s1, Sq.s2, Sq.s3, i64_w, i32_w]
      rfl
     refine Sq.pur 6 (some 56) (Sq.b 7 127) HT_.out ?_
     refine done_ (done_of HT_.out Z12) ?_
     go_upto_if 56 with (first | (fail))
     have h := A6.out
     clear A6
     by_cases ci : ax.toList = h1.toList
     ·rw [if_pos ci] at h
      simp only [Option.some.injEq, Prod.mk.injEq] at h
      obtain ⟨rfl, rfl, rfl⟩ := h
      rw [beq_iff_eq.mpr ci]
      clear ci
      go_wp2
      go_meet
      case rel => exact ⟨_, ⟨by first | rfl | trivial⟩, bC, HO, aY, BR, HB⟩
     ·rw [if_neg ci] at h
      have A6 := Aside0.mk h
      have hm9 := (blk_cell aY.out 9).trans rfl
      rw [beq_eq_false_iff_ne.mpr ci]
      clear ci h
      go_wp2_with (first | ((with_reducible refine gate_callee (f := 70) rfl ?_); refine goesL_ (some 61) rfl rfl Tryz.func70 Z12 rfl #[.pointer (some ⟨g, 0, none⟩), .int .i64 1, .string ax] rfl Z3 ?_; (with_reducible refine (lean_writer_hop.calls g u1 p0 p1 p2 p3 h0 h1 d1 x1 1 ax x2 i0 i1 w _ HB.out dW.out bC.out HO.out A6.out).mono ?_); rintro e dL ⟨rfl, u2, hk, hr, hb, hkb⟩; refine ⟨_, rfl, ?_⟩; replace aY := Aside0.mk (KeepBut.blk hkb (g' := gm) aY.out NB1.out (Kd.R_ne HO.out aY.out Z34)); replace BC := Aside0.mk (KeepBut.blk hkb (g' := gc) BC.out NBC.out (Kd.R_ne HO.out BC.out Z34)); replace BR := Aside0.mk (KeepBut.blk hkb (g' := gr) BR.out NBR.out (Kd.R_ne HO.out BR.out Z34)); replace bC := Aside0.mk hk; have HO := Aside0.mk hr; replace HB := Aside0.mk hb; clear hk hr hb hkb hm9))
      go_meet
      case rel => exact ⟨_, ⟨by first | rfl | trivial⟩, bC, HO, aY, BR, HB⟩
  rw [if_neg c] at h
  clear c
  obtain ⟨hp, g4, h⟩ := Option.bind_eq_some_iff.mp h
  exact absurd g4 Z27
 case rest =>
  clear A2 HB bC aY BR BC hm10
  obtain ⟨u, bf, bC, HO, aY, BR, HB⟩ := hcut
  have h := HA.out
  clear HA
  rw [if_neg (by rw [bf.out]; exact Bool.false_ne_true)] at h
  unfold lean_Put.t at h
  obtain ⟨n, g3, h⟩ := Option.bind_eq_some_iff.mp h
  obtain ⟨⟨ys, z1, z2, z3⟩, g4, h⟩ := Option.bind_eq_some_iff.mp h
  simp only [Option.some.injEq, Prod.mk.injEq] at h
  obtain ⟨rfl, ⟨rfl, rfl, rfl, rfl, rfl, rfl, rfl⟩, rfl⟩ := h
  have A3 := Aside0.mk g3
  have A4 := Aside0.mk g4
  clear g3 g4 bf e0
  go_upto_region 14 with (first | (fail))
  replace HO := Aside0.mk (Kd.R_drew HO.out)
  replace bC := Aside0.mk (blk_drew bC.out)
  replace aY := Aside0.mk (blk_drew aY.out)
  replace BR := Aside0.mk (blk_drew BR.out)
  replace HB := Aside0.mk (below_drew1 HB.out)
  refine start_ (n := 6) (S := fun w' => w'.heap[gm]? = some (.cells #[.int .i64 ar, .int .i64 aC, .int .i64 az, .string ay, .int .i64 aA, .int .i64 au, .string aw, .int .i64 av, .int .i64 aD, .string ax, .int .i64 am, .string ag, .int .i64 ac, .int .i64 aq, .int .i64 ab, .int .i64 ao, .int .i64 ak, .int .i64 ai, .int .i64 ae, .string ah, .string ap, .slice aJ aa.length aK, .int .i64 aj, .string al, .slice aH af.length aI] 32 (0, 0))) (ds := [5]) (Sq.b 6 0) Z12 rfl rfl aY.out (fun hHeld => ?_)
  refine with_tabW lean_Put.tab14 lean_Put.bits14 (fun HT_ HW_ => ?_)
  generalize World.drew _ = w9 at bC aY BR HB HO hHeld ⊢
  refine Sq.pur 0 (some 62) (Sq.b 6 1) HT_.out ?_
  refine Sq.pur 2 (some 64) (Sq.b 6 5) HT_.out ?_
  refine Sq.tak 1 (some 63) (Sq.b 6 7) HT_.out HW_.out hHeld (v := ?_) (a' := ?_) ?_ ?_ ?_
  rotate_left
  ·rintro w' s0
   (refine Eq.trans (Pre.load_run (ty := 32) rfl Z16 (by with_reducible assumption) Tryz.underlying32 rfl Z12) ?_; with_reducible rfl)
  rotate_left
  ·simp only [Act.put, Sq.s1, Sq.s2, Sq.s3, i64_w, i32_w]
   rfl
  refine Sq.tak 3 (some 65) (Sq.b 6 15) HT_.out HW_.out hHeld (v := ?_) (a' := ?_) ?_ ?_ ?_
  rotate_left
  ·rintro w' s0
   (refine Eq.trans (Pre.load_run (ty := 32) rfl Z16 (by with_reducible assumption) Tryz.underlying32 rfl Z12) ?_; with_reducible rfl)
  rotate_left
  ·simp only [Act.put, Sq.s1, Sq.s2, Sq.s3, i64_w, i32_w]
   rfl
  refine one_ (i := 4) (N := some 66) (Sq.b 6 31) rfl rfl (one_of HT_.out Z12) Z34 (fun K hK => ?_)
  refine goes_ Tryz.func72 Z12 rfl #[.pointer (some ⟨g, 0, none⟩), .agg #[.int .i64 ar, .int .i64 aC, .int .i64 az, .string ay, .int .i64 aA, .int .i64 au, .string aw, .int .i64 av, .int .i64 aD, .string ax, .int .i64 am, .string ag, .int .i64 ac, .int .i64 aq, .int .i64 ab, .int .i64 ao, .int .i64 ak, .int .i64 ai, .int .i64 ae, .string ah, .string ap, .slice aJ aa.length aK, .int .i64 aj, .string al, .slice aH af.length aI]] Z16 rfl rfl Z3 ?_
  with_reducible refine (lean_writer_omitted.calls k g u p0 p1 p2 p3 j0 j1 j2 ar aC az ay aA au aw av aD ax am ag ac aq ab ao ak ai ae ah ap _ _ aa aj al _ _ af n _ ?side1 ?side2 ?side3 ?side4 bC.out A3.out).mono ?_
  (case side1 => exact (Kd.C_below eA.out HB.out))
  (case side2 => exact eB.out)
  (case side3 => exact (Kd.C_below dZ.out HB.out))
  (case side4 => exact cX.out)
  rintro e fg ⟨rfl, hb⟩
  refine ⟨_, rfl, ?_⟩
  replace HO := Aside0.mk (Kd.R_below HO.out hb)
  replace bC := Aside0.mk (blk_below (g := g) bC.out hb)
  replace aY := Aside0.mk (blk_below (g := gm) aY.out hb)
  replace BR := Aside0.mk (blk_below (g := gr) BR.out hb)
  replace HB := Aside0.mk (below_step HB.out hb)
  clear hb
  refine hK.out _ _ aY.out (fun hHeld => ?_)
  clear hK K
  refine norm_ (a' := ?_) ?_ ?_
  rotate_left
  ·show Act.put _ (some 66) _ = _
   simp only [Act.put, Sq.s1, Sq.s2, Sq.s3, i64_w, i32_w]
   rfl
  refine last_ (i := 5) (N := some 67) (Sq.b 6 63) rfl rfl (one_of HT_.out Z12) Z34 (fun K hK => ?_)
  refine goes_ Tryz.func71 Z12 rfl #[.pointer (some ⟨g, 0, none⟩), .agg #[.int .i64 ar, .int .i64 aC, .int .i64 az, .string ay, .int .i64 aA, .int .i64 au, .string aw, .int .i64 av, .int .i64 aD, .string ax, .int .i64 am, .string ag, .int .i64 ac, .int .i64 aq, .int .i64 ab, .int .i64 ao, .int .i64 ak, .int .i64 ai, .int .i64 ae, .string ah, .string ap, .slice aJ aa.length aK, .int .i64 aj, .string al, .slice aH af.length aI], .int .i64 n] Z16 rfl rfl Z3 ?_
  with_reducible refine (lean_writer_update.calls k g u p0 p1 p2 p3 j0 j1 j2 xs ar aC az ay aA au aw av aD ax am ag ac aq ab ao ak ai ae ah ap _ _ aa aj al _ _ af n ys z1 z2 z3 w _ HB.out dW.out bC.out HO.out eA.out eB.out dZ.out cX.out A4.out).mono ?_
  rintro e fg ⟨rfl, u2, hk2, hr2, hb2, hkb⟩
  refine ⟨_, rfl, ?_⟩
  replace BR := Aside0.mk (KeepBut.blk hkb (g' := gr) BR.out NBR.out (Kd.R_ne HO.out BR.out Z34))
  replace bC := Aside0.mk hk2
  replace HO := Aside0.mk hr2
  replace HB := Aside0.mk hb2
  clear hk2 hr2 hb2 hkb aY
  obtain ⟨Ab, cb, eo⟩ := Kd.R_slice HO.out
  subst eo
  refine hK.out _ _ ?_
  clear hK K
  refine done_ (done_of HT_.out Z12) ?_
  go_upto_region 15 with (first | (fail))
  replace HO := Aside0.mk (Kd.R_drew HO.out)
  replace bC := Aside0.mk (blk_drew bC.out)
  replace BR := Aside0.mk (blk_drew BR.out)
  replace HB := Aside0.mk (below_drew1 HB.out)
  refine start_ (n := 12) (S := fun w' => w'.heap[g]? = some (.cells #[.slice Ab ys.length cb, .string p0, .string z1, .string z2, .string z3, .string j0, .string j1, .string j2] 87 (0, 0)) ∧ w'.ownsRow w.heap.size 5 1 (.slice Ab ys.length cb) ys.length (nums .u8 ys)) (ds := [10]) (Sq.b 12 0) Z12 rfl rfl ⟨bC.out, Kd.own_of_R HO.out⟩ (fun hHeld => ?_)
  refine with_tabW lean_Put.tab15 lean_Put.bits15 (fun HT_ HW_ => ?_)
  generalize World.drew _ = w9 at bC BR HB HO hHeld ⊢
  refine Sq.pur 0 (some 68) (Sq.b 12 1) HT_.out ?_
  refine Sq.pur 1 (some 69) (Sq.b 12 3) HT_.out ?_
  refine Sq.pur 2 (some 70) (Sq.b 12 7) HT_.out ?_
  refine Sq.pur 5 (some 73) (Sq.b 12 39) HT_.out ?_
  refine Sq.pur 6 (some 74) (Sq.b 12 103) HT_.out ?_
  refine Sq.pur 7 (some 75) (Sq.b 12 231) HT_.out ?_
  refine Sq.tak 3 (some 71) (Sq.b 12 239) HT_.out HW_.out hHeld (v := ?_) (a' := ?_) ?_ ?_ ?_
  rotate_left
  ·rintro w' ⟨s0, s1⟩
   have hz_ := (blk_cell s0 0).trans (c := some (.slice Ab ys.length cb)) rfl
   (go_simp; with_reducible rfl)
  rotate_left
  ·simp only [Act.put, Sq.s1, Sq.s2, Sq.s3, i64_w, i32_w]
   rfl
  refine Sq.tak 4 (some 72) (Sq.b 12 255) HT_.out HW_.out hHeld (v := ?_) (a' := ?_) ?_ ?_ ?_
  rotate_left
  ·rintro w' ⟨s0, s1⟩
   have hcv := own_string (P := Tryz.prog) Tryz.underlying64 Tryz.underlying5 Tryz.underlying9 s1
   (go_simp; with_reducible rfl)
  rotate_left
  ·simp only [Act.put, Sq.s1, Sq.s2, Sq.s3, i64_w, i32_w]
   rfl
  refine Sq.tak 8 (some 76) (Sq.b 12 511) HT_.out HW_.out hHeld (v := ?_) (a' := ?_) ?_ ?_ ?_
  rotate_left
  ·rintro w' ⟨s0, s1⟩
   (refine Eq.trans (Pre.load_run_a (ty := 46) (cs := [.string p0, .string z1, .string z2, .string z3, .string j0, .string j1, .string j2]) rfl Z16 (lean_Put.range s0) Tryz.underlying46 rfl Z12) ?_; rfl)
  rotate_left
  ·simp only [Act.put, Sq.s1, Sq.s2, Sq.s3, i64_w, i32_w]
   rfl
  refine Sq.pur 9 (some 4) (Sq.b 12 1023) HT_.out ?_
  refine last_ (i := 10) (N := none) (Sq.b 12 2047) rfl rfl (one_of HT_.out Z12) Z34 (fun K hK => ?_)
  refine lean_Put.store_step Z16 rfl rfl Z16 Z16 BR.out Z12 Z16 Z16 (fun w7 hr7 hs7 => ?_)
  refine hK.out _ _ ?_
  clear hK K
  replace BR := Aside0.mk hr7
  replace HB := Aside0.mk (hs7.below HB.out GR.out)
  clear hr7 hs7
  refine Sq.pur 11 (some 6) (Sq.b 12 4095) HT_.out ?_
  refine done_ (done_of HT_.out Z12) ?_
  go_wp2
  refine bodyPost_ret (results_list (vs := [.string (strOfNums ys), .agg #[.string p0, .string z1, .string z2, .string z3, .string j0, .string j1, .string j2], .int .i64 0]) rfl Z27 (.tmp (.cell gr 46 _ (0, 0) _ rfl BR.out Tryz.underlying46 rfl Z12 (.tmp .nil)))) rfl ⟨rfl, HB.out⟩

end Go.Proofs.YtnllanjoebjeiaaGreat.PV
