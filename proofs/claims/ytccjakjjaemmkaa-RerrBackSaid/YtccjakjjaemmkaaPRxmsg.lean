-- Written by mp.py, a program of this work (wip/tools), out of the translation; Lean checks it.
import Derived.Test.YtccjakjjaemmkaaPRxZ
namespace Go.Proofs.Ytccjakjjaemmkaa.PR
open Go.RowKit Go.Proofs.YtccjakjjaemmkaaW.PrintWords Go.Proofs.YtccjakjjaemmkaaW.PrintLast Go.Proofs.YtccjakjjaemmkaaW.PrintMore
attribute [local go_sem] max2_int min2_int max_two min_two max_three min_three max_four min_four   -- for this text's walks alone
set_option linter.unusedVariables false
set_option linter.unusedSimpArgs false

/-! ### msg_strip: function 73 -/
def msg_strip.f (av : Int) (au : Int) (aw : Int) (ay : ByteArray) (aD : Int) (az : Int) (aA : ByteArray) (ax : Int) (aE : Int) (aC : ByteArray) (ap : Int) (an : ByteArray) (aj : Int) (am : Int) (ak : Int) (ah : Int) (ai : Int) (al : Int) (ao : Int) (ac : ByteArray) (af : ByteArray) (ae : List (S46)) (aq : Int) (ar : ByteArray) (ag : List (S48)) : Option (Int × Int × Int × Int × Int × Int × Int × Int × Int × Int × Int × Int × Int × Int × Int × Int × ByteArray × ByteArray × ByteArray × ByteArray × ByteArray × ByteArray × ByteArray) := some (av, au, aw, aD, az, ax, aE, ap, aj, am, ak, ah, ai, al, ao, aq, ay, aA, aC, an, ac, af, ar)
set_option maxRecDepth 100000 in
theorem msg_strip.bd49 (v0 : Int) (v1 : Int) (v2 : Int) (v3 : Int) (v4 : Int) (v5 : Int) (v6 : Int) (v7 : Int) (v8 : Int) (v9 : Int) (nc : Int) (nf : Int) (mZ : Int) (og : Int) (oa : Int) (kd : Int) (kx : ByteArray) (nz : ByteArray) (qq : ByteArray) (mY : ByteArray) (na : ByteArray) (iU : ByteArray) (kF : ByteArray) : Try.prog.built 71 [(0, .int .i64 v0), (1, .int .i64 v1), (2, .int .i64 v2), (3, .int .i64 v3), (4, .int .i64 v4), (5, .int .i64 v5), (6, .int .i64 v6), (7, .int .i64 v7), (8, .int .i64 v8), (9, .int .i64 v9), (10, .int .i64 nc), (11, .int .i64 nf), (12, .int .i64 mZ), (13, .int .i64 og), (14, .int .i64 oa), (15, .int .i64 kd), (16, .string kx), (17, .string nz), (18, .string qq), (19, .string mY), (20, .string na), (21, .string iU), (22, .string kF)] = some #[.int .i64 v0, .int .i64 v1, .int .i64 v2, .int .i64 v3, .int .i64 v4, .int .i64 v5, .int .i64 v6, .int .i64 v7, .int .i64 v8, .int .i64 v9, .int .i64 nc, .int .i64 nf, .int .i64 mZ, .int .i64 og, .int .i64 oa, .int .i64 kd, .string kx, .string nz, .string qq, .string mY, .string na, .string iU, .string kF] := by kernel_rfl
set_option maxHeartbeats 8000000 in
set_option maxRecDepth 100000 in
theorem msg_strip.calls (av : Int) (au : Int) (aw : Int) (ay : ByteArray) (aD : Int) (az : Int) (aA : ByteArray) (ax : Int) (aE : Int) (aC : ByteArray) (ap : Int) (an : ByteArray) (aj : Int) (am : Int) (ak : Int) (ah : Int) (ai : Int) (al : Int) (ao : Int) (ac : ByteArray) (af : ByteArray) (aT : Option Addr) (aN : Nat) (ae : List (S46)) (aq : Int) (ar : ByteArray) (aJ : Option Addr) (aK : Nat) (ag : List (S48)) (r1 : Int) (r2 : Int) (r3 : Int) (r4 : Int) (r5 : Int) (r6 : Int) (r7 : Int) (r8 : Int) (r9 : Int) (r10 : Int) (r11 : Int) (r12 : Int) (r13 : Int) (r14 : Int) (r15 : Int) (r16 : Int) (r17 : ByteArray) (r18 : ByteArray) (r19 : ByteArray) (r20 : ByteArray) (r21 : ByteArray) (r22 : ByteArray) (r23 : ByteArray) (w : World) (bY : Kd.C k46 w aT ae.length ae) (bZ : ae.length ≤ aN) (ca : Kd.C k48 w aJ ag.length ag) (cb : ag.length ≤ aK) (h : msg_strip.f av au aw ay aD az aA ax aE aC ap an aj am ak ah ai al ao ac af ae aq ar ag = some (r1, r2, r3, r4, r5, r6, r7, r8, r9, r10, r11, r12, r13, r14, r15, r16, r17, r18, r19, r20, r21, r22, r23)) :
  Calls Try.prog 73 #[.agg #[.int .i64 av, .int .i64 au, .int .i64 aw, .string ay, .int .i64 aD, .int .i64 az, .string aA, .int .i64 ax, .int .i64 aE, .string aC, .int .i64 ap, .string an, .int .i64 aj, .int .i64 am, .int .i64 ak, .int .i64 ah, .int .i64 ai, .int .i64 al, .int .i64 ao, .string ac, .string af, .slice aT ae.length aN, .int .i64 aq, .string ar, .slice aJ ag.length aK]] w fun e w' => e = .returned (.agg #[.int .i64 r1, .int .i64 r2, .int .i64 r3, .int .i64 r4, .int .i64 r5, .int .i64 r6, .int .i64 r7, .int .i64 r8, .int .i64 r9, .int .i64 r10, .int .i64 r11, .int .i64 r12, .int .i64 r13, .int .i64 r14, .int .i64 r15, .int .i64 r16, .string r17, .string r18, .string r19, .string r20, .string r21, .string r22, .string r23]) ∧ Below w.heap.size w w' := by
 have gB := Try.underlying25
 have vu := Try.underlying71
 have cT := Aside0.mk bY
 have bl := Aside0.mk bZ
 clear bY bZ
 have cP := Aside0.mk ca
 have bg := Aside0.mk cb
 clear ca cb
 have HB := Aside0.mk (Below.refl w.heap.size w)
 have H : (some (av, au, aw, aD, az, ax, aE, ap, aj, am, ak, ah, ai, al, ao, aq, ay, aA, aC, an, ac, af, ar)) = some (r1, r2, r3, r4, r5, r6, r7, r8, r9, r10, r11, r12, r13, r14, r15, r16, r17, r18, r19, r20, r21, r22, r23) := h
 clear h
 simp only [Option.some.injEq, Prod.mk.injEq] at H
 obtain ⟨rfl, rfl, rfl, rfl, rfl, rfl, rfl, rfl, rfl, rfl, rfl, rfl, rfl, rfl, rfl, rfl, rfl, rfl, rfl, rfl, rfl, rfl, rfl⟩ := H
 go_enter Try.func73, Try.ntmps73
 go_wp2_with (first | ((with_reducible refine gate_dst (N := 49) rfl ?_); refine Pre.build_event 49 71 [(0, Go.Operand.tmp 4), (1, Go.Operand.tmp 6), (2, Go.Operand.tmp 8), (3, Go.Operand.tmp 10), (4, Go.Operand.tmp 12), (5, Go.Operand.tmp 14), (6, Go.Operand.tmp 16), (7, Go.Operand.tmp 18), (8, Go.Operand.tmp 20), (9, Go.Operand.tmp 22), (10, Go.Operand.tmp 24), (11, Go.Operand.tmp 26), (12, Go.Operand.tmp 28), (13, Go.Operand.tmp 30), (14, Go.Operand.tmp 32), (15, Go.Operand.tmp 34), (16, Go.Operand.tmp 36), (17, Go.Operand.tmp 38), (18, Go.Operand.tmp 40), (19, Go.Operand.tmp 42), (20, Go.Operand.tmp 44), (21, Go.Operand.tmp 46), (22, Go.Operand.tmp 48)] rfl rfl rfl (msg_strip.bd49 _ _ _ _ _ _ _ _ _ _ _ _ _ _ _ _ _ _ _ _ _ _ _) ?_) | ((with_reducible refine gate_dst (N := 1) rfl ?_); refine box_event ?hg (N := 1) ?hd (cs := #[.int .i64 av, .int .i64 au, .int .i64 aw, .string ay, .int .i64 aD, .int .i64 az, .string aA, .int .i64 ax, .int .i64 aE, .string aC, .int .i64 ap, .string an, .int .i64 aj, .int .i64 am, .int .i64 ak, .int .i64 ah, .int .i64 ai, .int .i64 al, .int .i64 ao, .string ac, .string af, .slice aT ae.length aN, .int .i64 aq, .string ar, .slice aJ ag.length aK]) (t := 25) ?hr ?_; (case hd => rfl); (case hg => rfl); (case hr => first | (go_simp; done) | (go_simp; rfl)); intro aa hg w2 hbox hb; have aG := Aside0.mk (below_step Z3 hb); have aH := Aside0.mk (hbox); have aI := Aside0.mk ((by rw [hg]; exact (below_size Z3) : w.heap.size ≤ aa)); have aZ := Aside0.mk ((by rw [hg]; exact (below_size Z3) : w.heap.size ≤ aa)); replace HB := aG; have ab := aH; have cl := aI; have bs := aZ; clear aG aH aI aZ; clear hb hbox hg) | ((with_reducible refine gate_dst (N := 2) rfl ?_); refine box_event ?hg (N := 2) ?hd (cs := #[.int .i64 0, .int .i64 0, .int .i64 0, .int .i64 0, .int .i64 0, .int .i64 0, .int .i64 0, .int .i64 0, .int .i64 0, .int .i64 0, .int .i64 0, .int .i64 0, .int .i64 0, .int .i64 0, .int .i64 0, .int .i64 0, .string ⟨#[]⟩, .string ⟨#[]⟩, .string ⟨#[]⟩, .string ⟨#[]⟩, .string ⟨#[]⟩, .string ⟨#[]⟩, .string ⟨#[]⟩]) (t := 71) ?hr ?_; (case hd => rfl); (case hg => rfl); (case hr => first | (go_simp; done) | (go_simp; rfl)); intro aU hg w3 hbox hb; have aG := Aside0.mk (blk_below (g := aa) Z1 hb); have aH := Aside0.mk (below_step Z0 hb); have aI := Aside0.mk (hbox); have aZ := Aside0.mk ((by rw [hg]; exact (below_size Z0) : w.heap.size ≤ aU)); have bH := Aside0.mk ((by rw [hg]; exact (below_size Z0) : w.heap.size ≤ aU)); have cx := Aside0.mk ((by rw [hg]; exact Nat.ne_of_lt (blk_lt (g := aa) Z1) : aa ≠ aU)); have du := Aside0.mk ((by rw [hg]; exact Nat.ne_of_gt (blk_lt (g := aa) Z1) : aU ≠ aa)); replace ab := aG; replace HB := aH; have aX := aI; have iA := aZ; have gS := bH; have bo := cx; have cc := du; clear aG aH aI aZ bH cx du; clear hb hbox hg; have hnb4 := bo.out; have hnc4 := cc.out; have mS := cells_25 ab.out; have rq := cells_23 aX.out) | ((with_reducible refine Pre.gate_store 71 rfl ?_); refine Pre.store_abs (cur := #[.int .i64 0, .int .i64 0, .int .i64 0, .int .i64 0, .int .i64 0, .int .i64 0, .int .i64 0, .int .i64 0, .int .i64 0, .int .i64 0, .int .i64 0, .int .i64 0, .int .i64 0, .int .i64 0, .int .i64 0, .int .i64 0, .string ⟨#[]⟩, .string ⟨#[]⟩, .string ⟨#[]⟩, .string ⟨#[]⟩, .string ⟨#[]⟩, .string ⟨#[]⟩, .string ⟨#[]⟩]) (e := 71) rfl rfl rfl Z13 Z13 Z26 Z6 Z13 Z13 ?_; intro w7 hbS_ sS_; have aG : Aside0 (w7.heap[aa]? = some (.cells #[.int .i64 av, .int .i64 au, .int .i64 aw, .string ay, .int .i64 aD, .int .i64 az, .string aA, .int .i64 ax, .int .i64 aE, .string aC, .int .i64 ap, .string an, .int .i64 aj, .int .i64 am, .int .i64 ak, .int .i64 ah, .int .i64 ai, .int .i64 al, .int .i64 ao, .string ac, .string af, .slice aT ae.length aN, .int .i64 aq, .string ar, .slice aJ ag.length aK] 25 (0, 0))) := ⟨sS_.blk Z1 bo.out⟩; have aH : Aside0 (w7.heap[aU]? = some (.cells #[.int .i64 av, .int .i64 au, .int .i64 aw, .int .i64 aD, .int .i64 az, .int .i64 ax, .int .i64 aE, .int .i64 ap, .int .i64 aj, .int .i64 am, .int .i64 ak, .int .i64 ah, .int .i64 ai, .int .i64 al, .int .i64 ao, .int .i64 aq, .string ay, .string aA, .string aC, .string an, .string ac, .string af, .string ar] 71 (0, 0))) := ⟨hbS_⟩; have aI : Aside0 (Below w.heap.size w w7) := ⟨sS_.below Z15 gS.out⟩; clear hbS_ sS_; replace ab := aG; replace aX := aH; replace HB := aI; clear aG aH aI))
 refine bodyPost_ret (results_cell_row rfl _ _ aU 71 #[.int .i64 av, .int .i64 au, .int .i64 aw, .int .i64 aD, .int .i64 az, .int .i64 ax, .int .i64 aE, .int .i64 ap, .int .i64 aj, .int .i64 am, .int .i64 ak, .int .i64 ah, .int .i64 ai, .int .i64 al, .int .i64 ao, .int .i64 aq, .string ay, .string aA, .string aC, .string an, .string ac, .string af, .string ar] (0, 0) _ rfl Z26 Try.underlying71 rfl Z6) rfl ?_
 exact ⟨Z9, Z15⟩

/-! ### msg_Subs: function 74 -/
def msg_Subs.l0 : Nat → Int → Int → List (S48) → Int → Int → Option (Bool)
 | 0, _, _, _, _, _ => none
 | k + 1, x1, x2, x9, wE, oo => if oo < wE then (if 0 ≤ oo then (if oo < (x9.length : Int) then (if ((rd_T48 x9 oo).f0) < x1 then (some false) else (if ((rd_T48 x9 oo).f0) > x2 then (some false) else (if (((rd_T48 x9 oo).f1).size : Int) > 255 then (some false) else (msg_Subs.l0 k x1 x2 x9 wE (wrap64 (oo + 1)))))) else (none)) else (none)) else (some true)
def msg_Subs.f (k : Nat) (l0 : List (S48)) (a1 : Int) (a2 : Int) : Option (Bool) := msg_Subs.l0 k a1 a2 l0 (l0.length : Int) 0
theorem msg_Subs.mono_l : ∀ k, (∀ y0 y1 y2 y3 y4, LeO (msg_Subs.l0 k y0 y1 y2 y3 y4) (msg_Subs.l0 (k + 1) y0 y1 y2 y3 y4))
 | 0 => fun _ _ _ _ _ r h => by simp [msg_Subs.l0] at h
 | k + 1 => by
  have ih0 := msg_Subs.mono_l k
  ·intro y0 y1 y2 y3 y4
   unfold msg_Subs.l0
   repeat' first
   | (with_reducible exact ih0 ..)
   | (with_reducible exact LeO.refl _)
   | (with_reducible exact LeO.none _)
   | (with_reducible refine LeO.ite ?_ ?_)
   | (with_reducible refine LeO.bind ?_ (fun _ => ?_))
   | exact ih0 ..
   | exact LeO.none _
   | refine LeO.ite ?_ ?_
   | refine LeO.bind ?_ (fun _ => ?_)
theorem msg_Subs.mono : ∀ a0 a1 a2 k, LeO (msg_Subs.f k a0 a1 a2) (msg_Subs.f (k + 1) a0 a1 a2) := by
 intro a0 a1 a2 k
 have ih0 := msg_Subs.mono_l k
 unfold msg_Subs.f
 repeat' first
   | (with_reducible exact ih0 ..)
   | (with_reducible exact LeO.refl _)
   | (with_reducible exact LeO.none _)
   | (with_reducible refine LeO.ite ?_ ?_)
   | (with_reducible refine LeO.bind ?_ (fun _ => ?_))
   | exact ih0 ..
   | exact LeO.none _
   | refine LeO.ite ?_ ?_
   | refine LeO.bind ?_ (fun _ => ?_)
set_option maxHeartbeats 8000000 in
set_option maxRecDepth 100000 in
theorem msg_Subs.calls (k : Nat) (A0 : Option Addr) (c0 : Nat) (l0 : List (S48)) (a1 : Int) (a2 : Int) (r : Bool) (w : World) (ka : Kd.C k48 w A0 l0.length l0) (iM : l0.length ≤ c0) (h : msg_Subs.f k l0 a1 a2 = some r) :
  Calls Try.prog 74 #[.slice A0 l0.length c0, .int .i64 a1, .int .i64 a2] w fun e w' => e = .returned (.bool r) ∧ Below w.heap.size w w' := by
 have pj := Try.underlying48
 have js := Aside0.mk ka
 have mD := Aside0.mk iM
 clear ka iM
 have HB := Aside0.mk (Below.refl w.heap.size w)
 have H : (msg_Subs.l0 k a1 a2 l0 (l0.length : Int) 0) = some r := h
 clear h
 have H' := Aside0.mk H
 clear H
 go_enter Try.func74, Try.ntmps74
 go_wp2
 go_loopg [11] k (fun kq nf w' => ∃ (dy : Int), nf = .int .i64 dy ∧ Aside0 (msg_Subs.l0 kq a1 a2 l0 (l0.length : Int) dy = some r) ∧ Aside0 (kq ≤ k) ∧ Aside0 (Below w.heap.size w w'))
 case atStart => exact ⟨(0), Z14, H', ⟨Nat.le_refl _⟩, ⟨Z3⟩⟩
 case round =>
  clear H'
  try clear p2
  obtain ⟨dy, rfl, HA, HK1, HB⟩ := hrel
  cases gk with
  | zero => exact absurd HA.out (by simp [msg_Subs.l0])
  | succ k1 =>
   have H := HA.out
   clear HA
   simp only [msg_Subs.l0] at H
   by_cases c4 : dy < (l0.length : Int)
   ·rw [if_pos c4] at H
    have cS : decide (dy < (l0.length : Int)) = true := decide_eq_true c4
    clear c4
    by_cases c5 : 0 ≤ dy
    ·rw [if_pos c5] at H
     have hm : decide (0 ≤ dy) = true := decide_eq_true c5
     clear c5
     by_cases c6 : dy < (l0.length : Int)
     ·rw [if_pos c6] at H
      have gZ : decide (dy < (l0.length : Int)) = true := decide_eq_true c6
      clear c6
      by_cases c7 : ((rd_T48 l0 dy).f0) < a1
      ·rw [if_pos c7] at H
       have ib : decide (((rd_T48 l0 dy).f0) < a1) = true := decide_eq_true c7
       clear c7
       obtain rfl := Option.some.inj H
       have p101 : 0 ≤ (dy : Int) := of_decide_eq_true Z10
       have q101 : dy < (l0.length : Int) := of_decide_eq_true Z10
       obtain ⟨ad101, e101, hx101_0, hx101_1⟩ := at_T48 js.out dy p101 q101
       cases e101
       replace hx101_0 := (HB.out.cell (World.block_lt_of_cell? w _ hx101_0)).trans hx101_0
       replace hx101_1 := (HB.out.cell (World.block_lt_of_cell? w _ hx101_1)).trans hx101_1
       replace p101 := eq_true p101
       replace q101 := eq_true q101
       go_wp2_with (first | ((with_reducible refine gate_dst (N := 8) rfl ?_); (try (refine gate_guard Z13 ?_; dsimp only)); refine box_event ?hg (N := 8) ?hd (cs := #[.int .i64 0, .string ⟨#[]⟩]) (t := 48) ?hr ?_; (case hd => rfl); (case hg => rfl); (case hr => first | (go_simp; done) | (go_simp; rfl)); intro aU hg w8 hbox hb; have aG := Aside0.mk (below_step Z3 hb); have aH := Aside0.mk (hbox); have aI := Aside0.mk ((by rw [hg]; exact (below_size Z3) : w.heap.size ≤ aU)); have aZ := Aside0.mk ((by rw [hg]; exact (below_size Z3) : w.heap.size ≤ aU)); replace HB := aG; have aX := aH; have iA := aI; have gS := aZ; clear aG aH aI aZ; clear hb hbox hg; have hcz9_0 : w8.cell? ⟨aU, 0, none⟩ = some (.int .i64 0) := (blk_cell aX.out 0).trans rfl; have hcz9_1 : w8.cell? ⟨aU, 1, none⟩ = some (.string ⟨#[]⟩) := (blk_cell aX.out 1).trans rfl; have hfz9_0 := blk_frozen aX.out 0; have hfz9_1 := blk_frozen aX.out 1))
       go_ret
       exact ⟨Z9, Z95⟩
      ·rw [if_neg c7] at H
       have ib : decide (((rd_T48 l0 dy).f0) < a1) = false := decide_eq_false c7
       clear c7
       by_cases cX : ((rd_T48 l0 dy).f0) > a2
       ·rw [if_pos cX] at H
        have ff : decide (a2 < ((rd_T48 l0 dy).f0)) = true := decide_eq_true cX
        clear cX
        obtain rfl := Option.some.inj H
        have p101 : 0 ≤ (dy : Int) := of_decide_eq_true Z10
        have q101 : dy < (l0.length : Int) := of_decide_eq_true Z10
        obtain ⟨ad101, e101, hx101_0, hx101_1⟩ := at_T48 js.out dy p101 q101
        cases e101
        replace hx101_0 := (HB.out.cell (World.block_lt_of_cell? w _ hx101_0)).trans hx101_0
        replace hx101_1 := (HB.out.cell (World.block_lt_of_cell? w _ hx101_1)).trans hx101_1
        replace p101 := eq_true p101
        replace q101 := eq_true q101
        go_wp2_with (first | ((with_reducible refine gate_dst (N := 8) rfl ?_); (try (refine gate_guard Z13 ?_; dsimp only)); refine box_event ?hg (N := 8) ?hd (cs := #[.int .i64 0, .string ⟨#[]⟩]) (t := 48) ?hr ?_; (case hd => rfl); (case hg => rfl); (case hr => first | (go_simp; done) | (go_simp; rfl)); intro aU hg pA hbox hb; have aG := Aside0.mk (below_step Z3 hb); have aH := Aside0.mk (hbox); have aI := Aside0.mk ((by rw [hg]; exact (below_size Z3) : w.heap.size ≤ aU)); have aZ := Aside0.mk ((by rw [hg]; exact (below_size Z3) : w.heap.size ≤ aU)); replace HB := aG; have aX := aH; have iA := aI; have gS := aZ; clear aG aH aI aZ; clear hb hbox hg; have hcz12_0 : pA.cell? ⟨aU, 0, none⟩ = some (.int .i64 0) := (blk_cell aX.out 0).trans rfl; have hcz12_1 : pA.cell? ⟨aU, 1, none⟩ = some (.string ⟨#[]⟩) := (blk_cell aX.out 1).trans rfl; have hfz12_0 := blk_frozen aX.out 0; have hfz12_1 := blk_frozen aX.out 1))
        go_ret
        exact ⟨Z9, Z95⟩
       ·rw [if_neg cX] at H
        have ff : decide (a2 < ((rd_T48 l0 dy).f0)) = false := decide_eq_false cX
        clear cX
        by_cases dB : (((rd_T48 l0 dy).f1).size : Int) > 255
        ·rw [if_pos dB] at H
         have gF : decide (255 < (((rd_T48 l0 dy).f1).size : Int)) = true := decide_eq_true dB
         have ie : decide (255 < ((rd_T48 l0 dy).f1).size) = true := decide_eq_true Z55
         clear dB
         obtain rfl := Option.some.inj H
         have p101 : 0 ≤ (dy : Int) := of_decide_eq_true Z10
         have q101 : dy < (l0.length : Int) := of_decide_eq_true Z10
         obtain ⟨ad101, e101, hx101_0, hx101_1⟩ := at_T48 js.out dy p101 q101
         cases e101
         replace hx101_0 := (HB.out.cell (World.block_lt_of_cell? w _ hx101_0)).trans hx101_0
         replace hx101_1 := (HB.out.cell (World.block_lt_of_cell? w _ hx101_1)).trans hx101_1
         replace p101 := eq_true p101
         replace q101 := eq_true q101
         go_wp2_with (first | ((with_reducible refine gate_dst (N := 8) rfl ?_); (try (refine gate_guard Z13 ?_; dsimp only)); refine box_event ?hg (N := 8) ?hd (cs := #[.int .i64 0, .string ⟨#[]⟩]) (t := 48) ?hr ?_; (case hd => rfl); (case hg => rfl); (case hr => first | (go_simp; done) | (go_simp; rfl)); intro aU hg mB hbox hb; have aG := Aside0.mk (below_step Z3 hb); have aH := Aside0.mk (hbox); have aI := Aside0.mk ((by rw [hg]; exact (below_size Z3) : w.heap.size ≤ aU)); have aZ := Aside0.mk ((by rw [hg]; exact (below_size Z3) : w.heap.size ≤ aU)); replace HB := aG; have aX := aH; have iA := aI; have gS := aZ; clear aG aH aI aZ; clear hb hbox hg; have hcz15_0 : mB.cell? ⟨aU, 0, none⟩ = some (.int .i64 0) := (blk_cell aX.out 0).trans rfl; have hcz15_1 : mB.cell? ⟨aU, 1, none⟩ = some (.string ⟨#[]⟩) := (blk_cell aX.out 1).trans rfl; have hfz15_0 := blk_frozen aX.out 0; have hfz15_1 := blk_frozen aX.out 1))
         go_ret
         exact ⟨Z9, Z95⟩
        ·rw [if_neg dB] at H
         have gF : decide (255 < (((rd_T48 l0 dy).f1).size : Int)) = false := decide_eq_false dB
         have ie : decide (255 < ((rd_T48 l0 dy).f1).size) = false := decide_eq_false Z55
         clear dB
         have H' := Aside0.mk H
         clear H
         have p101 : 0 ≤ (dy : Int) := of_decide_eq_true Z10
         have q101 : dy < (l0.length : Int) := of_decide_eq_true Z10
         obtain ⟨ad101, e101, hx101_0, hx101_1⟩ := at_T48 js.out dy p101 q101
         cases e101
         replace hx101_0 := (HB.out.cell (World.block_lt_of_cell? w _ hx101_0)).trans hx101_0
         replace hx101_1 := (HB.out.cell (World.block_lt_of_cell? w _ hx101_1)).trans hx101_1
         replace p101 := eq_true p101
         replace q101 := eq_true q101
         go_wp2_with (first | ((with_reducible refine gate_dst (N := 8) rfl ?_); (try (refine gate_guard Z13 ?_; dsimp only)); refine box_event ?hg (N := 8) ?hd (cs := #[.int .i64 0, .string ⟨#[]⟩]) (t := 48) ?hr ?_; (case hd => rfl); (case hg => rfl); (case hr => first | (go_simp; done) | (go_simp; rfl)); intro aU hg lR hbox hb; have aG := Aside0.mk (below_step Z3 hb); have aH := Aside0.mk (hbox); have aI := Aside0.mk ((by rw [hg]; exact (below_size Z3) : w.heap.size ≤ aU)); have aZ := Aside0.mk ((by rw [hg]; exact (below_size Z3) : w.heap.size ≤ aU)); replace HB := aG; have aX := aH; have iA := aI; have gS := aZ; clear aG aH aI aZ; clear hb hbox hg; have pV : lR.cell? ⟨aU, 0, none⟩ = some (.int .i64 0) := (blk_cell aX.out 0).trans rfl; have pW : lR.cell? ⟨aU, 1, none⟩ = some (.string ⟨#[]⟩) := (blk_cell aX.out 1).trans rfl; have hfz17_0 := blk_frozen aX.out 0; have hfz17_1 := blk_frozen aX.out 1))
         go_roundg k1
         case measure => have := HK1.out; omega
         case rel => exact ⟨(wrap64 (dy + 1)), Z14, H', ⟨Z112⟩, ⟨Z95⟩⟩
     ·rw [if_neg c6] at H
      exact absurd H Z73
    ·rw [if_neg c5] at H
     exact absurd H Z73
   ·rw [if_neg c4] at H
    have cS : decide (dy < (l0.length : Int)) = false := decide_eq_false c4
    clear c4
    obtain rfl := Option.some.inj H
    go_wp2
    go_ret
    exact ⟨Z9, Z3⟩

/-! ### msg_Bytes: function 71 -/
def msg_Bytes.l0 : Nat → Int → List (S48) → Int → Int → Option (Int)
 | 0, _, _, _, _ => none
 | k + 1, x3, x6, x7, x8 => if x8 < x7 then (if 0 ≤ x8 then (if x8 < (x6.length : Int) then (msg_Bytes.l0 k (wrap64 (x3 + (wrap64 (2 + (((rd_T48 x6 x8).f1).size : Int))))) x6 x7 (wrap64 (x8 + 1))) else (none)) else (none)) else (some x3)
def msg_Bytes.f (k : Nat) (l0 : List (S48)) : Option (Int) := msg_Bytes.l0 k 0 l0 (l0.length : Int) 0
theorem msg_Bytes.mono_l : ∀ k, (∀ y0 y1 y2 y3, LeO (msg_Bytes.l0 k y0 y1 y2 y3) (msg_Bytes.l0 (k + 1) y0 y1 y2 y3))
 | 0 => fun _ _ _ _ r h => by simp [msg_Bytes.l0] at h
 | k + 1 => by
  have ih0 := msg_Bytes.mono_l k
  ·intro y0 y1 y2 y3
   unfold msg_Bytes.l0
   repeat' first
   | (with_reducible exact ih0 ..)
   | (with_reducible exact LeO.refl _)
   | (with_reducible exact LeO.none _)
   | (with_reducible refine LeO.ite ?_ ?_)
   | (with_reducible refine LeO.bind ?_ (fun _ => ?_))
   | exact ih0 ..
   | exact LeO.none _
   | refine LeO.ite ?_ ?_
   | refine LeO.bind ?_ (fun _ => ?_)
theorem msg_Bytes.mono : ∀ a0 k, LeO (msg_Bytes.f k a0) (msg_Bytes.f (k + 1) a0) := by
 intro a0 k
 have ih0 := msg_Bytes.mono_l k
 unfold msg_Bytes.f
 repeat' first
   | (with_reducible exact ih0 ..)
   | (with_reducible exact LeO.refl _)
   | (with_reducible exact LeO.none _)
   | (with_reducible refine LeO.ite ?_ ?_)
   | (with_reducible refine LeO.bind ?_ (fun _ => ?_))
   | exact ih0 ..
   | exact LeO.none _
   | refine LeO.ite ?_ ?_
   | refine LeO.bind ?_ (fun _ => ?_)
set_option maxHeartbeats 8000000 in
set_option maxRecDepth 100000 in
theorem msg_Bytes.calls (k : Nat) (A0 : Option Addr) (c0 : Nat) (l0 : List (S48)) (r : Int) (w : World) (ka : Kd.C k48 w A0 l0.length l0) (iM : l0.length ≤ c0) (h : msg_Bytes.f k l0 = some r) :
  Calls Try.prog 71 #[.slice A0 l0.length c0] w fun e w' => e = .returned (.int .i64 r) ∧ Below w.heap.size w w' := by
 have pj := Try.underlying48
 have js := Aside0.mk ka
 have mD := Aside0.mk iM
 clear ka iM
 have HB := Aside0.mk (Below.refl w.heap.size w)
 have H : (msg_Bytes.l0 k 0 l0 (l0.length : Int) 0) = some r := h
 clear h
 have H' := Aside0.mk H
 clear H
 go_enter Try.func71, Try.ntmps71
 go_wp2
 go_loopg [3, 8] k (fun kq v3 v8 w' => ∃ (kb : Int) (jF : Int), v3 = .int .i64 kb ∧ v8 = .int .i64 jF ∧ Aside0 (msg_Bytes.l0 kq kb l0 (l0.length : Int) jF = some r) ∧ Aside0 (kq ≤ k) ∧ Aside0 (Below w.heap.size w w'))
 case atStart => exact ⟨(0), (0), Z14, Z14, H', ⟨Nat.le_refl _⟩, ⟨Z3⟩⟩
 case round =>
  clear H'
  obtain ⟨kb, jF, rfl, rfl, HA, HK1, HB⟩ := hrel
  cases gk with
  | zero => exact absurd HA.out (by simp [msg_Bytes.l0])
  | succ k1 =>
   have H := HA.out
   clear HA
   simp only [msg_Bytes.l0] at H
   by_cases c2 : jF < (l0.length : Int)
   ·rw [if_pos c2] at H
    have iq : decide (jF < (l0.length : Int)) = true := decide_eq_true c2
    clear c2
    by_cases c3 : 0 ≤ jF
    ·rw [if_pos c3] at H
     have gw : decide (0 ≤ jF) = true := decide_eq_true c3
     clear c3
     by_cases c4 : jF < (l0.length : Int)
     ·rw [if_pos c4] at H
      have cS : decide (jF < (l0.length : Int)) = true := decide_eq_true c4
      clear c4
      have H' := Aside0.mk H
      clear H
      have p101 : 0 ≤ (jF : Int) := of_decide_eq_true Z10
      have q101 : jF < (l0.length : Int) := of_decide_eq_true Z10
      obtain ⟨ad101, e101, hx101_0, hx101_1⟩ := at_T48 js.out jF p101 q101
      cases e101
      replace hx101_0 := (HB.out.cell (World.block_lt_of_cell? w _ hx101_0)).trans hx101_0
      replace hx101_1 := (HB.out.cell (World.block_lt_of_cell? w _ hx101_1)).trans hx101_1
      replace p101 := eq_true p101
      replace q101 := eq_true q101
      go_wp2_with (first | ((with_reducible refine gate_dst (N := 5) rfl ?_); refine box_event ?hg (N := 5) ?hd (cs := #[.int .i64 0, .string ⟨#[]⟩]) (t := 48) ?hr ?_; (case hd => rfl); (case hg => rfl); (case hr => first | (go_simp; done) | (go_simp; rfl)); intro aU hg w5 hbox hb; have aG := Aside0.mk (below_step Z3 hb); have aH := Aside0.mk (hbox); have aI := Aside0.mk ((by rw [hg]; exact (below_size Z3) : w.heap.size ≤ aU)); have aZ := Aside0.mk ((by rw [hg]; exact (below_size Z3) : w.heap.size ≤ aU)); replace HB := aG; have aX := aH; have iA := aI; have gS := aZ; clear aG aH aI aZ; clear hb hbox hg; have hcz6_0 : w5.cell? ⟨aU, 0, none⟩ = some (.int .i64 0) := (blk_cell aX.out 0).trans rfl; have hcz6_1 : w5.cell? ⟨aU, 1, none⟩ = some (.string ⟨#[]⟩) := (blk_cell aX.out 1).trans rfl; have hfz6_0 := blk_frozen aX.out 0; have hfz6_1 := blk_frozen aX.out 1))
      go_roundg k1
      case measure => have := HK1.out; omega
      case rel => exact ⟨(wrap64 (kb + (wrap64 (2 + (((rd_T48 l0 jF).f1).size : Int))))), (wrap64 (jF + 1)), Z14, Z14, H', ⟨Z112⟩, ⟨Z95⟩⟩
     ·rw [if_neg c4] at H
      exact absurd H Z73
    ·rw [if_neg c3] at H
     exact absurd H Z73
   ·rw [if_neg c2] at H
    have iq : decide (jF < (l0.length : Int)) = false := decide_eq_false c2
    clear c2
    obtain rfl := Option.some.inj H
    go_wp2
    go_ret
    exact ⟨Z9, Z3⟩

end Go.Proofs.Ytccjakjjaemmkaa.PR
