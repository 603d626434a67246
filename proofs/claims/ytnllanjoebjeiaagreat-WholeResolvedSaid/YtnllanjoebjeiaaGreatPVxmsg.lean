-- Written by mp.py, a program of this work (wip/tools), out of the translation; Lean checks it.
import Derived.Test.YtnllanjoebjeiaaGreatPVxZ
namespace Go.Proofs.YtnllanjoebjeiaaGreat.PV
open Go.RowKit Go.Proofs.YtnllanjoebjeiaaGreatW.PrintWords Go.Proofs.YtnllanjoebjeiaaGreatW.PrintLast Go.Proofs.YtnllanjoebjeiaaGreatW.PrintMore
attribute [local go_sem] max2_int min2_int max_two min_two max_three min_three max_four min_four   -- for this text's walks alone
set_option linter.unusedVariables false
set_option linter.unusedSimpArgs false

/-! ### msg_strip: function 127 -/
def msg_strip.f (ar : Int) (aC : Int) (az : Int) (ay : ByteArray) (aA : Int) (au : Int) (aw : ByteArray) (av : Int) (aD : Int) (ax : ByteArray) (am : Int) (ag : ByteArray) (ac : Int) (aq : Int) (ab : Int) (ao : Int) (ak : Int) (ai : Int) (ae : Int) (ah : ByteArray) (ap : ByteArray) (aa : List (S78)) (aj : Int) (al : ByteArray) (af : List (S80)) : Option (Int × Int × Int × Int × Int × Int × Int × Int × Int × Int × Int × Int × Int × Int × Int × Int × ByteArray × ByteArray × ByteArray × ByteArray × ByteArray × ByteArray × ByteArray) := some (ar, aC, az, aA, au, av, aD, am, ac, aq, ab, ao, ak, ai, ae, aj, ay, aw, ax, ag, ah, ap, al)
set_option maxRecDepth 100000 in
theorem msg_strip.bd49 (v0 : Int) (v1 : Int) (v2 : Int) (v3 : Int) (v4 : Int) (v5 : Int) (v6 : Int) (v7 : Int) (v8 : Int) (v9 : Int) (fh : Int) (es : Int) (eR : Int) (fi : Int) (eQ : Int) (eS : Int) (fj : ByteArray) (fk : ByteArray) (fl : ByteArray) (fm : ByteArray) (fn : ByteArray) (eO : ByteArray) (fo : ByteArray) : Tryz.prog.built 140 [(0, .int .i64 v0), (1, .int .i64 v1), (2, .int .i64 v2), (3, .int .i64 v3), (4, .int .i64 v4), (5, .int .i64 v5), (6, .int .i64 v6), (7, .int .i64 v7), (8, .int .i64 v8), (9, .int .i64 v9), (10, .int .i64 fh), (11, .int .i64 es), (12, .int .i64 eR), (13, .int .i64 fi), (14, .int .i64 eQ), (15, .int .i64 eS), (16, .string fj), (17, .string fk), (18, .string fl), (19, .string fm), (20, .string fn), (21, .string eO), (22, .string fo)] = some #[.int .i64 v0, .int .i64 v1, .int .i64 v2, .int .i64 v3, .int .i64 v4, .int .i64 v5, .int .i64 v6, .int .i64 v7, .int .i64 v8, .int .i64 v9, .int .i64 fh, .int .i64 es, .int .i64 eR, .int .i64 fi, .int .i64 eQ, .int .i64 eS, .string fj, .string fk, .string fl, .string fm, .string fn, .string eO, .string fo] := by kernel_rfl
set_option maxHeartbeats 8000000 in
set_option maxRecDepth 100000 in
theorem msg_strip.calls (ar : Int) (aC : Int) (az : Int) (ay : ByteArray) (aA : Int) (au : Int) (aw : ByteArray) (av : Int) (aD : Int) (ax : ByteArray) (am : Int) (ag : ByteArray) (ac : Int) (aq : Int) (ab : Int) (ao : Int) (ak : Int) (ai : Int) (ae : Int) (ah : ByteArray) (ap : ByteArray) (aJ : Option Addr) (aK : Nat) (aa : List (S78)) (aj : Int) (al : ByteArray) (aH : Option Addr) (aI : Nat) (af : List (S80)) (r1 : Int) (r2 : Int) (r3 : Int) (r4 : Int) (r5 : Int) (r6 : Int) (r7 : Int) (r8 : Int) (r9 : Int) (r10 : Int) (r11 : Int) (r12 : Int) (r13 : Int) (r14 : Int) (r15 : Int) (r16 : Int) (r17 : ByteArray) (r18 : ByteArray) (r19 : ByteArray) (r20 : ByteArray) (r21 : ByteArray) (r22 : ByteArray) (r23 : ByteArray) (w : World) (bD : Kd.C k78 w aJ aa.length aa) (bE : aa.length ≤ aK) (bF : Kd.C k80 w aH af.length af) (bG : af.length ≤ aI) (h : msg_strip.f ar aC az ay aA au aw av aD ax am ag ac aq ab ao ak ai ae ah ap aa aj al af = some (r1, r2, r3, r4, r5, r6, r7, r8, r9, r10, r11, r12, r13, r14, r15, r16, r17, r18, r19, r20, r21, r22, r23)) :
  Calls Tryz.prog 127 #[.agg #[.int .i64 ar, .int .i64 aC, .int .i64 az, .string ay, .int .i64 aA, .int .i64 au, .string aw, .int .i64 av, .int .i64 aD, .string ax, .int .i64 am, .string ag, .int .i64 ac, .int .i64 aq, .int .i64 ab, .int .i64 ao, .int .i64 ak, .int .i64 ai, .int .i64 ae, .string ah, .string ap, .slice aJ aa.length aK, .int .i64 aj, .string al, .slice aH af.length aI]] w fun e w' => e = .returned (.agg #[.int .i64 r1, .int .i64 r2, .int .i64 r3, .int .i64 r4, .int .i64 r5, .int .i64 r6, .int .i64 r7, .int .i64 r8, .int .i64 r9, .int .i64 r10, .int .i64 r11, .int .i64 r12, .int .i64 r13, .int .i64 r14, .int .i64 r15, .int .i64 r16, .string r17, .string r18, .string r19, .string r20, .string r21, .string r22, .string r23]) ∧ Below w.heap.size w w' := by
 have dP := Tryz.underlying32
 have hu140 := Tryz.underlying140
 have bY := Aside0.mk bD
 have bH := Aside0.mk bE
 clear bD bE
 have bZ := Aside0.mk bF
 have aT := Aside0.mk bG
 clear bF bG
 have HB := Aside0.mk (Below.refl w.heap.size w)
 have H : (some (ar, aC, az, aA, au, av, aD, am, ac, aq, ab, ao, ak, ai, ae, aj, ay, aw, ax, ag, ah, ap, al)) = some (r1, r2, r3, r4, r5, r6, r7, r8, r9, r10, r11, r12, r13, r14, r15, r16, r17, r18, r19, r20, r21, r22, r23) := h
 clear h
 simp only [Option.some.injEq, Prod.mk.injEq] at H
 obtain ⟨rfl, rfl, rfl, rfl, rfl, rfl, rfl, rfl, rfl, rfl, rfl, rfl, rfl, rfl, rfl, rfl, rfl, rfl, rfl, rfl, rfl, rfl, rfl⟩ := H
 go_enter Tryz.func127, Tryz.ntmps127
 go_wp2_with (first | ((with_reducible refine gate_dst (N := 49) rfl ?_); refine Pre.build_event 49 140 [(0, Go.Operand.tmp 4), (1, Go.Operand.tmp 6), (2, Go.Operand.tmp 8), (3, Go.Operand.tmp 10), (4, Go.Operand.tmp 12), (5, Go.Operand.tmp 14), (6, Go.Operand.tmp 16), (7, Go.Operand.tmp 18), (8, Go.Operand.tmp 20), (9, Go.Operand.tmp 22), (10, Go.Operand.tmp 24), (11, Go.Operand.tmp 26), (12, Go.Operand.tmp 28), (13, Go.Operand.tmp 30), (14, Go.Operand.tmp 32), (15, Go.Operand.tmp 34), (16, Go.Operand.tmp 36), (17, Go.Operand.tmp 38), (18, Go.Operand.tmp 40), (19, Go.Operand.tmp 42), (20, Go.Operand.tmp 44), (21, Go.Operand.tmp 46), (22, Go.Operand.tmp 48)] rfl rfl rfl (msg_strip.bd49 _ _ _ _ _ _ _ _ _ _ _ _ _ _ _ _ _ _ _ _ _ _ _) ?_) | ((with_reducible refine gate_dst (N := 1) rfl ?_); refine Sq.box 1 #[.int .i64 ar, .int .i64 aC, .int .i64 az, .string ay, .int .i64 aA, .int .i64 au, .string aw, .int .i64 av, .int .i64 aD, .string ax, .int .i64 am, .string ag, .int .i64 ac, .int .i64 aq, .int .i64 ab, .int .i64 ao, .int .i64 ak, .int .i64 ai, .int .i64 ae, .string ah, .string ap, .slice aJ aa.length aK, .int .i64 aj, .string al, .slice aH af.length aI] 32 ?_; intro aN hg w2 hbox hb; have aE := Aside0.mk (hbox); have cG := Aside0.mk (Sq.ge hg Z2); have cg := Aside0.mk (Sq.ge hg Z2); replace HB := Aside0.mk (below_step Z2 hb); clear hb hbox hg) | ((with_reducible refine gate_dst (N := 2) rfl ?_); refine Sq.box 2 #[.int .i64 0, .int .i64 0, .int .i64 0, .int .i64 0, .int .i64 0, .int .i64 0, .int .i64 0, .int .i64 0, .int .i64 0, .int .i64 0, .int .i64 0, .int .i64 0, .int .i64 0, .int .i64 0, .int .i64 0, .int .i64 0, .string ⟨#[]⟩, .string ⟨#[]⟩, .string ⟨#[]⟩, .string ⟨#[]⟩, .string ⟨#[]⟩, .string ⟨#[]⟩, .string ⟨#[]⟩] 140 ?_; intro bV hg w3 hbox hb; have bN := Aside0.mk (hbox); have dS := Aside0.mk (Sq.ge hg Z1); have cP := Aside0.mk (Sq.ge hg Z1); have dy := Aside0.mk (Sq.nl hg (blk_lt (g := aN) Z4)); have em := Aside0.mk (Sq.ng hg (blk_lt (g := aN) Z4)); replace aE := Aside0.mk (blk_below (g := aN) Z4 hb); replace HB := Aside0.mk (below_step Z1 hb); clear hb hbox hg; have hnb4 := dy.out; have hnc4 := em.out; have eE := cells_25 aE.out; have hcz6 := cells_23 bN.out) | ((with_reducible refine Pre.gate_store 140 rfl ?_); refine Pre.store_abs (cur := #[.int .i64 0, .int .i64 0, .int .i64 0, .int .i64 0, .int .i64 0, .int .i64 0, .int .i64 0, .int .i64 0, .int .i64 0, .int .i64 0, .int .i64 0, .int .i64 0, .int .i64 0, .int .i64 0, .int .i64 0, .int .i64 0, .string ⟨#[]⟩, .string ⟨#[]⟩, .string ⟨#[]⟩, .string ⟨#[]⟩, .string ⟨#[]⟩, .string ⟨#[]⟩, .string ⟨#[]⟩]) (e := 140) rfl rfl rfl Z16 Z16 (by (with_reducible repeat (first | refine blk_drewN ?_ _ | refine blk_drew ?_ | refine blk_alloc ?_ _)); exact bN.out) Z12 Z16 Z16 ?_; intro w7 hbS_ sS_; have bL : Aside0 (w7.heap[aN]? = some (.cells #[.int .i64 ar, .int .i64 aC, .int .i64 az, .string ay, .int .i64 aA, .int .i64 au, .string aw, .int .i64 av, .int .i64 aD, .string ax, .int .i64 am, .string ag, .int .i64 ac, .int .i64 aq, .int .i64 ab, .int .i64 ao, .int .i64 ak, .int .i64 ai, .int .i64 ae, .string ah, .string ap, .slice aJ aa.length aK, .int .i64 aj, .string al, .slice aH af.length aI] 32 (0, 0))) := ⟨sS_.blk Z4 dy.out⟩; have bM : Aside0 (w7.heap[bV]? = some (.cells #[.int .i64 ar, .int .i64 aC, .int .i64 az, .int .i64 aA, .int .i64 au, .int .i64 av, .int .i64 aD, .int .i64 am, .int .i64 ac, .int .i64 aq, .int .i64 ab, .int .i64 ao, .int .i64 ak, .int .i64 ai, .int .i64 ae, .int .i64 aj, .string ay, .string aw, .string ax, .string ag, .string ah, .string ap, .string al] 140 (0, 0))) := ⟨hbS_⟩; have cf : Aside0 (Below w.heap.size w w7) := ⟨sS_.below Z41 cP.out⟩; clear hbS_ sS_; replace aE := bL; replace bN := bM; replace HB := cf; clear bL bM cf))
 refine bodyPost_ret (results_cell_row rfl _ _ bV 140 #[.int .i64 ar, .int .i64 aC, .int .i64 az, .int .i64 aA, .int .i64 au, .int .i64 av, .int .i64 aD, .int .i64 am, .int .i64 ac, .int .i64 aq, .int .i64 ab, .int .i64 ao, .int .i64 ak, .int .i64 ai, .int .i64 ae, .int .i64 aj, .string ay, .string aw, .string ax, .string ag, .string ah, .string ap, .string al] (0, 0) _ rfl (by (with_reducible repeat (first | refine blk_drewN ?_ _ | refine blk_drew ?_ | refine blk_alloc ?_ _)); exact bN.out) Tryz.underlying140 rfl Z12) rfl ?_
 exact ⟨Z5, Z41⟩

/-! ### msg_Subs: function 166 -/
def msg_Subs.l0 : Nat → Int → Int → List (S80) → Int → Int → Option (Bool)
 | 0, _, _, _, _, _ => none
 | k + 1, x1, x2, x9, ik, er => if er < ik then (if 0 ≤ er then (if er < (x9.length : Int) then (if ((rd_T80 x9 er).f0) < x1 then (some false) else (if ((rd_T80 x9 er).f0) > x2 then (some false) else (if (((rd_T80 x9 er).f1).size : Int) > 255 then (some false) else (msg_Subs.l0 k x1 x2 x9 ik (wrap64 (er + 1)))))) else (none)) else (none)) else (some true)
def msg_Subs.f (k : Nat) (l0 : List (S80)) (a1 : Int) (a2 : Int) : Option (Bool) := msg_Subs.l0 k a1 a2 l0 (l0.length : Int) 0
theorem msg_Subs.mono_l : ∀ k, (∀ y0 y1 y2 y3 y4, LeO (msg_Subs.l0 k y0 y1 y2 y3 y4) (msg_Subs.l0 (k + 1) y0 y1 y2 y3 y4))
 | 0 => Sq.mz
 | k + 1 => by
  have ih0 := msg_Subs.mono_l k
  ·intros
   unfold msg_Subs.l0
   exact Sq.mo
theorem msg_Subs.mono : ∀ a0 a1 a2 k, LeO (msg_Subs.f k a0 a1 a2) (msg_Subs.f (k + 1) a0 a1 a2) := by
 intro a0 a1 a2 k
 have ih0 := msg_Subs.mono_l k
 unfold msg_Subs.f
 exact Sq.mo
set_option maxHeartbeats 8000000 in
set_option maxRecDepth 100000 in
theorem msg_Subs.calls (k : Nat) (A0 : Option Addr) (c0 : Nat) (l0 : List (S80)) (a1 : Int) (a2 : Int) (r : Bool) (w : World) (du : Kd.C k80 w A0 l0.length l0) (cO : l0.length ≤ c0) (h : msg_Subs.f k l0 a1 a2 = some r) :
  Calls Tryz.prog 166 #[.slice A0 l0.length c0, .int .i64 a1, .int .i64 a2] w fun e w' => e = .returned (.bool r) ∧ Below w.heap.size w w' := by
 have fz := Tryz.underlying80
 have dv := Aside0.mk du
 have eC := Aside0.mk cO
 clear du cO
 have HB := Aside0.mk (Below.refl w.heap.size w)
 have H : (msg_Subs.l0 k a1 a2 l0 (l0.length : Int) 0) = some r := h
 clear h
 have H' := Aside0.mk H
 clear H
 go_enter Tryz.func166, Tryz.ntmps166
 go_wp2
 go_loopg [11] k (fun kq es w' => ∃ (bJ : Int), es = .int .i64 bJ ∧ Aside0 (msg_Subs.l0 kq a1 a2 l0 (l0.length : Int) bJ = some r) ∧ Aside0 (kq ≤ k) ∧ Aside0 (Below w.heap.size w w'))
 case atStart => exact ⟨(0), Z8, H', ⟨Nat.le_refl _⟩, ⟨Z2⟩⟩
 case round =>
  clear H'
  try clear c1
  try clear p2
  obtain ⟨bJ, rfl, HA, HK1, HB⟩ := hrel
  cases gk with
  | zero => exact absurd HA.out (by simp [msg_Subs.l0])
  | succ k1 =>
   have H := HA.out
   clear HA
   simp only [msg_Subs.l0] at H
   by_cases c4 : bJ < (l0.length : Int)
   ·rw [if_pos c4] at H
    have bP : decide (bJ < (l0.length : Int)) = true := decide_eq_true c4
    clear c4
    by_cases c5 : 0 ≤ bJ
    ·rw [if_pos c5] at H
     have ca : decide (0 ≤ bJ) = true := decide_eq_true c5
     clear c5
     by_cases c6 : bJ < (l0.length : Int)
     ·rw [if_pos c6] at H
      have ce : decide (bJ < (l0.length : Int)) = true := decide_eq_true c6
      clear c6
      by_cases c7 : ((rd_T80 l0 bJ).f0) < a1
      ·rw [if_pos c7] at H
       have cN : decide (((rd_T80 l0 bJ).f0) < a1) = true := decide_eq_true c7
       clear c7
       obtain rfl := Option.some.inj H
       have p101 : 0 ≤ (bJ : Int) := of_decide_eq_true Z7
       have q101 : bJ < (l0.length : Int) := of_decide_eq_true Z7
       obtain ⟨ad101, e101, hx101_0, hx101_1⟩ := at_T80 dv.out bJ p101 q101
       cases e101
       replace hx101_0 := Sq.up HB.out hx101_0
       replace hx101_1 := Sq.up HB.out hx101_1
       replace p101 := eq_true p101
       replace q101 := eq_true q101
       go_wp2_with (first | ((with_reducible refine gate_dst (N := 8) rfl ?_); (try (refine gate_guard Z16 ?_; dsimp only)); refine Sq.box 8 #[.int .i64 0, .string ⟨#[]⟩] 80 ?_; intro bV hg w8 hbox hb; have bN := Aside0.mk (hbox); have dS := Aside0.mk (Sq.ge hg Z2); have cP := Aside0.mk (Sq.ge hg Z2); replace HB := Aside0.mk (below_step Z2 hb); clear hb hbox hg; have hcz9_0 : w8.cell? ⟨bV, 0, none⟩ = some (.int .i64 0) := (blk_cell bN.out 0).trans rfl; have hcz9_1 : w8.cell? ⟨bV, 1, none⟩ = some (.string ⟨#[]⟩) := (blk_cell bN.out 1).trans rfl; have hfz9_0 := blk_frozen bN.out 0; have hfz9_1 := blk_frozen bN.out 1))
       go_ret
       exact ⟨Z5, Z19⟩
      ·rw [if_neg c7] at H
       have cN : decide (((rd_T80 l0 bJ).f0) < a1) = false := decide_eq_false c7
       clear c7
       by_cases bW : ((rd_T80 l0 bJ).f0) > a2
       ·rw [if_pos bW] at H
        have bX : decide (a2 < ((rd_T80 l0 bJ).f0)) = true := decide_eq_true bW
        clear bW
        obtain rfl := Option.some.inj H
        have p101 : 0 ≤ (bJ : Int) := of_decide_eq_true Z7
        have q101 : bJ < (l0.length : Int) := of_decide_eq_true Z7
        obtain ⟨ad101, e101, hx101_0, hx101_1⟩ := at_T80 dv.out bJ p101 q101
        cases e101
        replace hx101_0 := Sq.up HB.out hx101_0
        replace hx101_1 := Sq.up HB.out hx101_1
        replace p101 := eq_true p101
        replace q101 := eq_true q101
        go_wp2_with (first | ((with_reducible refine gate_dst (N := 8) rfl ?_); (try (refine gate_guard Z16 ?_; dsimp only)); refine Sq.box 8 #[.int .i64 0, .string ⟨#[]⟩] 80 ?_; intro bV hg fg hbox hb; have bN := Aside0.mk (hbox); have dS := Aside0.mk (Sq.ge hg Z2); have cP := Aside0.mk (Sq.ge hg Z2); replace HB := Aside0.mk (below_step Z2 hb); clear hb hbox hg; have hcz12_0 : fg.cell? ⟨bV, 0, none⟩ = some (.int .i64 0) := (blk_cell bN.out 0).trans rfl; have hcz12_1 : fg.cell? ⟨bV, 1, none⟩ = some (.string ⟨#[]⟩) := (blk_cell bN.out 1).trans rfl; have hfz12_0 := blk_frozen bN.out 0; have hfz12_1 := blk_frozen bN.out 1))
        go_ret
        exact ⟨Z5, Z19⟩
       ·rw [if_neg bW] at H
        have bX : decide (a2 < ((rd_T80 l0 bJ).f0)) = false := decide_eq_false bW
        clear bW
        by_cases eN : (((rd_T80 l0 bJ).f1).size : Int) > 255
        ·rw [if_pos eN] at H
         have gn : decide (255 < (((rd_T80 l0 bJ).f1).size : Int)) = true := decide_eq_true eN
         have gp : decide (255 < ((rd_T80 l0 bJ).f1).size) = true := decide_eq_true Z23
         clear eN
         obtain rfl := Option.some.inj H
         have p101 : 0 ≤ (bJ : Int) := of_decide_eq_true Z7
         have q101 : bJ < (l0.length : Int) := of_decide_eq_true Z7
         obtain ⟨ad101, e101, hx101_0, hx101_1⟩ := at_T80 dv.out bJ p101 q101
         cases e101
         replace hx101_0 := Sq.up HB.out hx101_0
         replace hx101_1 := Sq.up HB.out hx101_1
         replace p101 := eq_true p101
         replace q101 := eq_true q101
         go_wp2_with (first | ((with_reducible refine gate_dst (N := 8) rfl ?_); (try (refine gate_guard Z16 ?_; dsimp only)); refine Sq.box 8 #[.int .i64 0, .string ⟨#[]⟩] 80 ?_; intro bV hg fd hbox hb; have bN := Aside0.mk (hbox); have dS := Aside0.mk (Sq.ge hg Z2); have cP := Aside0.mk (Sq.ge hg Z2); replace HB := Aside0.mk (below_step Z2 hb); clear hb hbox hg; have hcz15_0 : fd.cell? ⟨bV, 0, none⟩ = some (.int .i64 0) := (blk_cell bN.out 0).trans rfl; have hcz15_1 : fd.cell? ⟨bV, 1, none⟩ = some (.string ⟨#[]⟩) := (blk_cell bN.out 1).trans rfl; have hfz15_0 := blk_frozen bN.out 0; have hfz15_1 := blk_frozen bN.out 1))
         go_ret
         exact ⟨Z5, Z19⟩
        ·rw [if_neg eN] at H
         have gn : decide (255 < (((rd_T80 l0 bJ).f1).size : Int)) = false := decide_eq_false eN
         have gp : decide (255 < ((rd_T80 l0 bJ).f1).size) = false := decide_eq_false Z23
         clear eN
         have H' := Aside0.mk H
         clear H
         have p101 : 0 ≤ (bJ : Int) := of_decide_eq_true Z7
         have q101 : bJ < (l0.length : Int) := of_decide_eq_true Z7
         obtain ⟨ad101, e101, hx101_0, hx101_1⟩ := at_T80 dv.out bJ p101 q101
         cases e101
         replace hx101_0 := Sq.up HB.out hx101_0
         replace hx101_1 := Sq.up HB.out hx101_1
         replace p101 := eq_true p101
         replace q101 := eq_true q101
         go_wp2_with (first | ((with_reducible refine gate_dst (N := 8) rfl ?_); (try (refine gate_guard Z16 ?_; dsimp only)); refine Sq.box 8 #[.int .i64 0, .string ⟨#[]⟩] 80 ?_; intro bV hg hD hbox hb; have bN := Aside0.mk (hbox); have dS := Aside0.mk (Sq.ge hg Z2); have cP := Aside0.mk (Sq.ge hg Z2); replace HB := Aside0.mk (below_step Z2 hb); clear hb hbox hg; have hcz17_0 : hD.cell? ⟨bV, 0, none⟩ = some (.int .i64 0) := (blk_cell bN.out 0).trans rfl; have hcz17_1 : hD.cell? ⟨bV, 1, none⟩ = some (.string ⟨#[]⟩) := (blk_cell bN.out 1).trans rfl; have hfz17_0 := blk_frozen bN.out 0; have hfz17_1 := blk_frozen bN.out 1))
         go_roundg k1
         case measure => have := HK1.out; omega
         case rel => exact ⟨(wrap64 (bJ + 1)), Z8, H', ⟨Z35⟩, ⟨Z19⟩⟩
     ·rw [if_neg c6] at H
      exact absurd H Z27
    ·rw [if_neg c5] at H
     exact absurd H Z27
   ·rw [if_neg c4] at H
    have bP : decide (bJ < (l0.length : Int)) = false := decide_eq_false c4
    clear c4
    obtain rfl := Option.some.inj H
    go_wp2
    go_ret
    exact ⟨Z5, Z2⟩

/-! ### msg_Bytes: function 167 -/
def msg_Bytes.l0 : Nat → Int → List (S80) → Int → Int → Option (Int)
 | 0, _, _, _, _ => none
 | k + 1, x3, x6, x7, x8 => if x8 < x7 then (if 0 ≤ x8 then (if x8 < (x6.length : Int) then (msg_Bytes.l0 k (wrap64 (x3 + (wrap64 (2 + (((rd_T80 x6 x8).f1).size : Int))))) x6 x7 (wrap64 (x8 + 1))) else (none)) else (none)) else (some x3)
def msg_Bytes.f (k : Nat) (l0 : List (S80)) : Option (Int) := msg_Bytes.l0 k 0 l0 (l0.length : Int) 0
theorem msg_Bytes.mono_l : ∀ k, (∀ y0 y1 y2 y3, LeO (msg_Bytes.l0 k y0 y1 y2 y3) (msg_Bytes.l0 (k + 1) y0 y1 y2 y3))
 | 0 => Sq.mz
 | k + 1 => by
  have ih0 := msg_Bytes.mono_l k
  ·intros
   unfold msg_Bytes.l0
   exact Sq.mo
theorem msg_Bytes.mono : ∀ a0 k, LeO (msg_Bytes.f k a0) (msg_Bytes.f (k + 1) a0) := by
 intro a0 k
 have ih0 := msg_Bytes.mono_l k
 unfold msg_Bytes.f
 exact Sq.mo
set_option maxHeartbeats 8000000 in
set_option maxRecDepth 100000 in
theorem msg_Bytes.calls (k : Nat) (A0 : Option Addr) (c0 : Nat) (l0 : List (S80)) (r : Int) (w : World) (du : Kd.C k80 w A0 l0.length l0) (cO : l0.length ≤ c0) (h : msg_Bytes.f k l0 = some r) :
  Calls Tryz.prog 167 #[.slice A0 l0.length c0] w fun e w' => e = .returned (.int .i64 r) ∧ Below w.heap.size w w' := by
 have fz := Tryz.underlying80
 have dv := Aside0.mk du
 have eC := Aside0.mk cO
 clear du cO
 have HB := Aside0.mk (Below.refl w.heap.size w)
 have H : (msg_Bytes.l0 k 0 l0 (l0.length : Int) 0) = some r := h
 clear h
 have H' := Aside0.mk H
 clear H
 go_enter Tryz.func167, Tryz.ntmps167
 go_wp2
 go_loopg [3, 8] k (fun kq v3 v8 w' => ∃ (dB : Int) (aX : Int), v3 = .int .i64 dB ∧ v8 = .int .i64 aX ∧ Aside0 (msg_Bytes.l0 kq dB l0 (l0.length : Int) aX = some r) ∧ Aside0 (kq ≤ k) ∧ Aside0 (Below w.heap.size w w'))
 case atStart => exact ⟨(0), (0), Z8, Z8, H', ⟨Nat.le_refl _⟩, ⟨Z2⟩⟩
 case round =>
  clear H'
  try clear c1
  obtain ⟨dB, aX, rfl, rfl, HA, HK1, HB⟩ := hrel
  cases gk with
  | zero => exact absurd HA.out (by simp [msg_Bytes.l0])
  | succ k1 =>
   have H := HA.out
   clear HA
   simp only [msg_Bytes.l0] at H
   by_cases c2 : aX < (l0.length : Int)
   ·rw [if_pos c2] at H
    have cK : decide (aX < (l0.length : Int)) = true := decide_eq_true c2
    clear c2
    by_cases c3 : 0 ≤ aX
    ·rw [if_pos c3] at H
     have bU : decide (0 ≤ aX) = true := decide_eq_true c3
     clear c3
     by_cases c4 : aX < (l0.length : Int)
     ·rw [if_pos c4] at H
      have bP : decide (aX < (l0.length : Int)) = true := decide_eq_true c4
      clear c4
      have H' := Aside0.mk H
      clear H
      have p101 : 0 ≤ (aX : Int) := of_decide_eq_true Z7
      have q101 : aX < (l0.length : Int) := of_decide_eq_true Z7
      obtain ⟨ad101, e101, hx101_0, hx101_1⟩ := at_T80 dv.out aX p101 q101
      cases e101
      replace hx101_0 := Sq.up HB.out hx101_0
      replace hx101_1 := Sq.up HB.out hx101_1
      replace p101 := eq_true p101
      replace q101 := eq_true q101
      go_wp2_with (first | ((with_reducible refine gate_dst (N := 5) rfl ?_); refine Sq.box 5 #[.int .i64 0, .string ⟨#[]⟩] 80 ?_; intro bV hg w5 hbox hb; have bN := Aside0.mk (hbox); have dS := Aside0.mk (Sq.ge hg Z2); have cP := Aside0.mk (Sq.ge hg Z2); replace HB := Aside0.mk (below_step Z2 hb); clear hb hbox hg; have hcz6_0 : w5.cell? ⟨bV, 0, none⟩ = some (.int .i64 0) := (blk_cell bN.out 0).trans rfl; have hcz6_1 : w5.cell? ⟨bV, 1, none⟩ = some (.string ⟨#[]⟩) := (blk_cell bN.out 1).trans rfl; have hfz6_0 := blk_frozen bN.out 0; have hfz6_1 := blk_frozen bN.out 1))
      go_roundg k1
      case measure => have := HK1.out; omega
      case rel => exact ⟨(wrap64 (dB + (wrap64 (2 + (((rd_T80 l0 aX).f1).size : Int))))), (wrap64 (aX + 1)), Z8, Z8, H', ⟨Z35⟩, ⟨Z19⟩⟩
     ·rw [if_neg c4] at H
      exact absurd H Z27
    ·rw [if_neg c3] at H
     exact absurd H Z27
   ·rw [if_neg c2] at H
    have cK : decide (aX < (l0.length : Int)) = false := decide_eq_false c2
    clear c2
    obtain rfl := Option.some.inj H
    go_wp2
    go_ret
    exact ⟨Z5, Z2⟩

end Go.Proofs.YtnllanjoebjeiaaGreat.PV
