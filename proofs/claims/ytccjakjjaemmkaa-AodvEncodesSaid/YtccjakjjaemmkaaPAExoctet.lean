-- Written by mp.py, a program of this work (wip/tools), out of the translation; Lean checks it.
import Derived.Test.YtccjakjjaemmkaaPAExZ
import Derived.Test.YtccjakjjaemmkaaMake0
namespace Go.Proofs.Ytccjakjjaemmkaa.PAE
open Go.RowKit Go.Proofs.YtccjakjjaemmkaaW.PrintWords Go.Proofs.YtccjakjjaemmkaaW.PrintLast Go.Proofs.YtccjakjjaemmkaaW.PrintMore
attribute [local go_sem] max2_int min2_int max_two min_two max_three min_three max_four min_four   -- for this text's walks alone
set_option linter.unusedVariables false
set_option linter.unusedSimpArgs false

/-! ### cursor_New: function 61 -/
def cursor_New.f (a0 : ByteArray) : Option (ByteArray × Int × Int × Bool) := some (a0, 0, (a0.size : Int), false)
set_option maxHeartbeats 8000000 in
set_option maxRecDepth 100000 in
theorem cursor_New.calls (a0 : ByteArray) (r1 : ByteArray) (r2 : Int) (r3 : Int) (r4 : Bool) (w : World) (h : cursor_New.f a0 = some (r1, r2, r3, r4)) :
  Calls Try.prog 61 #[.string a0] w fun e w' => e = .returned (.agg #[.string r1, .int .i64 r2, .int .i64 r3, .bool r4]) ∧ Below w.heap.size w w' := by
 have kZ := Try.underlying60
 have HB := Aside0.mk (Below.refl w.heap.size w)
 have H : (some (a0, 0, (a0.size : Int), false)) = some (r1, r2, r3, r4) := h
 clear h
 simp only [Option.some.injEq, Prod.mk.injEq] at H
 obtain ⟨rfl, rfl, rfl, rfl⟩ := H
 go_enter Try.func61, Try.ntmps61
 go_wp2_with (first | ((with_reducible refine gate_dst (N := 2) rfl ?_); refine Sq.box 2 #[.string ⟨#[]⟩, .int .i64 0, .int .i64 0, .bool false] 60 ?_; intro aE hg w2 hbox hb; have al := Aside0.mk (hbox); have cd := Aside0.mk (Sq.ge hg Z2); have bV := Aside0.mk (Sq.ge hg Z2); replace HB := Aside0.mk (below_step Z2 hb); clear hb hbox hg; have hcz3 := cells_4 al.out))
 refine bodyPost_ret (results_cell_row rfl _ _ aE 60 #[.string a0, .int .i64 0, .int .i64 (a0.size : Int), .bool false] (0, 0) _ rfl (by (with_reducible repeat (first | refine blk_drewN ?_ _ | refine blk_drew ?_ | refine blk_alloc ?_ _)); apply blk_puts4; (with_reducible repeat (first | refine blk_drewN ?_ _ | refine blk_drew ?_ | refine blk_alloc ?_ _)); exact al.out) Try.underlying60 rfl Z11) rfl ?_
 exact ⟨Z6, Z0⟩

/-! ### cursor_Left: function 76 -/
def cursor_Left.f (aD : ByteArray) (aw : Int) (ax : Int) (au : Bool) : Option (Int) := if au = true then (some 0) else (some (wrap64 (ax - aw)))
set_option maxHeartbeats 8000000 in
set_option maxRecDepth 100000 in
theorem cursor_Left.calls (aD : ByteArray) (aw : Int) (ax : Int) (au : Bool) (r : Int) (w : World) (h : cursor_Left.f aD aw ax au = some r) :
  Calls Try.prog 76 #[.agg #[.string aD, .int .i64 aw, .int .i64 ax, .bool au]] w fun e w' => e = .returned (.int .i64 r) ∧ Below w.heap.size w w' := by
 have kZ := Try.underlying60
 have HB := Aside0.mk (Below.refl w.heap.size w)
 have H : (if au = true then (some 0) else (some (wrap64 (ax - aw)))) = some r := h
 clear h
 by_cases c2 : au = true
 ·subst c2
  replace H := Sq.itT H
  obtain rfl := Option.some.inj H
  go_enter Try.func76, Try.ntmps76
  go_wp2_with (first | ((with_reducible refine gate_dst (N := 1) rfl ?_); refine Sq.box 1 #[.string aD, .int .i64 aw, .int .i64 ax, .bool true] 60 ?_; intro aE hg w3 hbox hb; have al := Aside0.mk (hbox); have cd := Aside0.mk (Sq.ge hg Z2); have bV := Aside0.mk (Sq.ge hg Z2); replace HB := Aside0.mk (below_step Z2 hb); clear hb hbox hg; have hcz4 := cells_4 al.out))
  go_ret
  exact ⟨Z6, Z0⟩
 ·replace c2 := Bool.eq_false_iff.mpr c2
  subst c2
  replace H := Sq.itF H
  obtain rfl := Option.some.inj H
  go_enter Try.func76, Try.ntmps76
  go_wp2_with (first | ((with_reducible refine gate_dst (N := 1) rfl ?_); refine Sq.box 1 #[.string aD, .int .i64 aw, .int .i64 ax, .bool false] 60 ?_; intro aE hg w5 hbox hb; have al := Aside0.mk (hbox); have cd := Aside0.mk (Sq.ge hg Z2); have bV := Aside0.mk (Sq.ge hg Z2); replace HB := Aside0.mk (below_step Z2 hb); clear hb hbox hg; have lg := cells_4 al.out))
  go_ret
  exact ⟨Z6, Z0⟩

/-! ### ext_Get: function 59 -/
def ext_Get.l0 : Nat → List (S48) → ByteArray → Int → Int → Bool → Option ((List (S48)) × Int × Int)
 | 0, _, _, _, _, _ => none
 | k + 1, x5, jX, jY, jZ, ka => (cursor_Left.f jX jY jZ ka).bind fun aW => (if aW > 0 then (none) else (some (x5, 0, 0)))
def ext_Get.f (k : Nat) (a0 : ByteArray) : Option ((List (S48)) × Int × Int) := (cursor_New.f a0).bind fun bh => (ext_Get.l0 k ([] : List (S48)) bh.1 bh.2.1 bh.2.2.1 bh.2.2.2)
theorem ext_Get.mono_l : ∀ k, (∀ y0 y1 y2 y3 y4, LeO (ext_Get.l0 k y0 y1 y2 y3 y4) (ext_Get.l0 (k + 1) y0 y1 y2 y3 y4))
 | 0 => Sq.mz
 | k + 1 => by
  have ih0 := ext_Get.mono_l k
  ·intros
   unfold ext_Get.l0
   exact Sq.mo
theorem ext_Get.mono : ∀ a0 k, LeO (ext_Get.f k a0) (ext_Get.f (k + 1) a0) := by
 intro a0 k
 have ih0 := ext_Get.mono_l k
 unfold ext_Get.f
 exact Sq.mo
set_option maxHeartbeats 8000000 in
set_option maxRecDepth 100000 in
theorem ext_Get.calls (k : Nat) (a0 : ByteArray) (r1 : List (S48)) (r2 : Int) (r3 : Int) (w : World) (h : ext_Get.f k a0 = some (r1, r2, r3)) :
  Calls Try.prog 59 #[.string a0] w fun e w' => ∃ v0_ : Value, e = .returned (.tuple #[v0_, .int .i64 r2, .int .i64 r3]) ∧ Kd.R k48 48 w' w.heap.size (fun _ => True) v0_ r1 ∧ Below w.heap.size w w' := by
 have kZ := Try.underlying60
 have kb := Try.underlying48
 have HB := Aside0.mk (Below.refl w.heap.size w)
 have H : ((cursor_New.f a0).bind fun bh => (ext_Get.l0 k ([] : List (S48)) bh.1 bh.2.1 bh.2.2.1 bh.2.2.2)) = some (r1, r2, r3) := h
 clear h
 replace H := Option.bind_eq_some_iff.mp H
 obtain ⟨⟨bU, aU, aY, bg⟩, dL, H⟩ := H
 replace H : (ext_Get.l0 k ([] : List (S48)) bU aU aY bg) = some (r1, r2, r3) := H
 have A2 := Aside0.mk dL
 clear dL
 have H' := Aside0.mk H
 clear H
 go_enter Try.func59, Try.ntmps59
 go_wp2_with (first | ((with_reducible refine gate_callee (f := 61) rfl ?_); refine goesL_ (some 11) rfl rfl Try.func61 Z11 rfl #[.string a0] rfl Z4 ?_; (with_reducible refine (cursor_New.calls a0 bU aU aY bg _ A2.out).mono ?_); rintro e w3 ⟨rfl, hb⟩; refine ⟨_, rfl, ?_⟩; replace HB := Aside0.mk (below_step Z2 hb); clear hb) | ((with_reducible refine gate_dst (N := 6) rfl ?_); refine Sq.box 6 #[.string ⟨#[]⟩, .int .i64 0, .int .i64 0, .bool false] 60 ?_; intro gy hg w4 hbox hb; have gz := Aside0.mk (hbox); have kz := Aside0.mk (Sq.ge hg Z2); have hN := Aside0.mk (Sq.ge hg Z2); replace HB := Aside0.mk (below_step Z2 hb); clear hb hbox hg; have hh := cells_4 gz.out))
 go_loopg [5, 6] k (fun kq v5 v6 w' => ∃ (aG : List (S48)) (bU : ByteArray) (aU : Int) (aY : Int) (bg : Bool) (gy : Nat), v6 = .pointer (some ⟨gy, 0, none⟩) ∧ Aside0 (ext_Get.l0 kq aG bU aU aY bg = some (r1, r2, r3)) ∧ Aside0 (kq ≤ k) ∧ Aside0 (Kd.R k48 48 w' w.heap.size (fun _ => True) v5 aG) ∧ Aside0 (w'.heap[gy]? = some (.cells #[.string bU, .int .i64 aU, .int .i64 aY, .bool bg] 60 (0, 0))) ∧ Aside0 (w.heap.size ≤ gy) ∧ Aside0 (Below w.heap.size w w'))
 case atStart => exact ⟨([] : List (S48)), bU, aU, aY, bg, gy, rfl, H', ⟨Nat.le_refl _⟩, ⟨Z62⟩, ⟨by (with_reducible repeat (first | refine blk_drewN ?_ _ | refine blk_drew ?_ | refine blk_alloc ?_ _)); apply blk_puts4; (with_reducible repeat (first | refine blk_drewN ?_ _ | refine blk_drew ?_ | refine blk_alloc ?_ _)); exact gz.out⟩, hN, ⟨Z48⟩⟩
 case round =>
  clear H'
  try clear p2
  try clear c5
  try clear hh
  clear gz hN kz HB
  obtain ⟨aG, bU, aU, aY, bg, gy, rfl, HA, HK1, HO_5, gz, hN, HB⟩ := hrel
  have kz := hN
  cases gk with
  | zero => exact absurd HA.out (by simp [ext_Get.l0])
  | succ k1 =>
   have H := HA.out
   clear HA
   simp only [ext_Get.l0] at H
   replace H := Option.bind_eq_some_iff.mp H
   obtain ⟨aW, hD, H⟩ := H
   replace H : (if aW > 0 then (none) else (some (aG, 0, 0))) = some (r1, r2, r3) := H
   have A6 := Aside0.mk hD
   clear hD
   by_cases c7 : aW > 0
   ·rw [if_pos c7] at H
    exact absurd H Z35
   ·rw [if_neg c7] at H
    have dT : decide (0 < aW) = false := decide_eq_false c7
    clear c7
    simp only [Option.some.injEq, Prod.mk.injEq] at H
    obtain ⟨rfl, rfl, rfl⟩ := H
    have iK := cells_4 gz.out
    go_wp2_with (first | ((with_reducible refine gate_callee (f := 76) rfl ?_); refine goesL_ (some 13) rfl rfl Try.func76 Z11 rfl #[.agg #[.string bU, .int .i64 aU, .int .i64 aY, .bool bg]] rfl Z4 ?_; (with_reducible refine (cursor_Left.calls bU aU aY bg aW _ A6.out).mono ?_); rintro e w9 ⟨rfl, hb⟩; refine ⟨_, rfl, ?_⟩; replace HO_5 := Aside0.mk (Kd.R_below (by (with_reducible repeat (first | apply Kd.R_alloc | apply Kd.R_drewN | apply Kd.R_drew)); exact HO_5.out) hb); replace gz := Aside0.mk (blk_below (g := gy) (o := .cells #[.string bU, .int .i64 aU, .int .i64 aY, .bool bg] 60 (0, 0)) (by (with_reducible repeat (first | refine blk_drewN ?_ _ | refine blk_drew ?_ | refine blk_alloc ?_ _)); exact gz.out) hb); replace HB := Aside0.mk (below_step Z48 hb); clear hb))
    go_ret3
    exact ⟨_, Z6, by (with_reducible repeat (first | apply Kd.R_alloc | apply Kd.R_drewN | apply Kd.R_drew)); exact HO_5.out, Z48⟩

/-! ### msg_strip: function 73 -/
def msg_strip.f (aD : Int) (aw : Int) (ax : Int) (au : ByteArray) (aA : Int) (ay : Int) (av : ByteArray) (ar : Int) (aC : Int) (az : ByteArray) (ao : Int) (am : ByteArray) (ah : Int) (aj : Int) (ak : Int) (ae : Int) (ag : Int) (ai : Int) (an : Int) (aa : ByteArray) (ab : ByteArray) (ac : List (S46)) (ap : Int) (aq : ByteArray) (af : List (S48)) : Option (Int × Int × Int × Int × Int × Int × Int × Int × Int × Int × Int × Int × Int × Int × Int × Int × ByteArray × ByteArray × ByteArray × ByteArray × ByteArray × ByteArray × ByteArray) := some (aD, aw, ax, aA, ay, ar, aC, ao, ah, aj, ak, ae, ag, ai, an, ap, au, av, az, am, aa, ab, aq)
set_option maxRecDepth 100000 in
theorem msg_strip.bd49 (v0 : Int) (v1 : Int) (v2 : Int) (v3 : Int) (v4 : Int) (v5 : Int) (v6 : Int) (v7 : Int) (v8 : Int) (v9 : Int) (hV : Int) (iq : Int) (kL : Int) (kM : Int) (kN : Int) (iJ : Int) (hY : ByteArray) (jO : ByteArray) (kO : ByteArray) (kP : ByteArray) (kQ : ByteArray) (kR : ByteArray) (jx : ByteArray) : Try.prog.built 71 [(0, .int .i64 v0), (1, .int .i64 v1), (2, .int .i64 v2), (3, .int .i64 v3), (4, .int .i64 v4), (5, .int .i64 v5), (6, .int .i64 v6), (7, .int .i64 v7), (8, .int .i64 v8), (9, .int .i64 v9), (10, .int .i64 hV), (11, .int .i64 iq), (12, .int .i64 kL), (13, .int .i64 kM), (14, .int .i64 kN), (15, .int .i64 iJ), (16, .string hY), (17, .string jO), (18, .string kO), (19, .string kP), (20, .string kQ), (21, .string kR), (22, .string jx)] = some #[.int .i64 v0, .int .i64 v1, .int .i64 v2, .int .i64 v3, .int .i64 v4, .int .i64 v5, .int .i64 v6, .int .i64 v7, .int .i64 v8, .int .i64 v9, .int .i64 hV, .int .i64 iq, .int .i64 kL, .int .i64 kM, .int .i64 kN, .int .i64 iJ, .string hY, .string jO, .string kO, .string kP, .string kQ, .string kR, .string jx] := by kernel_rfl
set_option maxHeartbeats 8000000 in
set_option maxRecDepth 100000 in
theorem msg_strip.calls (aD : Int) (aw : Int) (ax : Int) (au : ByteArray) (aA : Int) (ay : Int) (av : ByteArray) (ar : Int) (aC : Int) (az : ByteArray) (ao : Int) (am : ByteArray) (ah : Int) (aj : Int) (ak : Int) (ae : Int) (ag : Int) (ai : Int) (an : Int) (aa : ByteArray) (ab : ByteArray) (aP : Option Addr) (aN : Nat) (ac : List (S46)) (ap : Int) (aq : ByteArray) (aJ : Option Addr) (aK : Nat) (af : List (S48)) (r1 : Int) (r2 : Int) (r3 : Int) (r4 : Int) (r5 : Int) (r6 : Int) (r7 : Int) (r8 : Int) (r9 : Int) (r10 : Int) (r11 : Int) (r12 : Int) (r13 : Int) (r14 : Int) (r15 : Int) (r16 : Int) (r17 : ByteArray) (r18 : ByteArray) (r19 : ByteArray) (r20 : ByteArray) (r21 : ByteArray) (r22 : ByteArray) (r23 : ByteArray) (w : World) (bk : Kd.C k46 w aP ac.length ac) (bl : ac.length ≤ aN) (bm : Kd.C k48 w aJ af.length af) (bn : af.length ≤ aK) (h : msg_strip.f aD aw ax au aA ay av ar aC az ao am ah aj ak ae ag ai an aa ab ac ap aq af = some (r1, r2, r3, r4, r5, r6, r7, r8, r9, r10, r11, r12, r13, r14, r15, r16, r17, r18, r19, r20, r21, r22, r23)) :
  Calls Try.prog 73 #[.agg #[.int .i64 aD, .int .i64 aw, .int .i64 ax, .string au, .int .i64 aA, .int .i64 ay, .string av, .int .i64 ar, .int .i64 aC, .string az, .int .i64 ao, .string am, .int .i64 ah, .int .i64 aj, .int .i64 ak, .int .i64 ae, .int .i64 ag, .int .i64 ai, .int .i64 an, .string aa, .string ab, .slice aP ac.length aN, .int .i64 ap, .string aq, .slice aJ af.length aK]] w fun e w' => e = .returned (.agg #[.int .i64 r1, .int .i64 r2, .int .i64 r3, .int .i64 r4, .int .i64 r5, .int .i64 r6, .int .i64 r7, .int .i64 r8, .int .i64 r9, .int .i64 r10, .int .i64 r11, .int .i64 r12, .int .i64 r13, .int .i64 r14, .int .i64 r15, .int .i64 r16, .string r17, .string r18, .string r19, .string r20, .string r21, .string r22, .string r23]) ∧ Below w.heap.size w w' := by
 have dM := Try.underlying25
 have nX := Try.underlying71
 have cc := Aside0.mk bk
 have aZ := Aside0.mk bl
 clear bk bl
 have bZ := Aside0.mk bm
 have aT := Aside0.mk bn
 clear bm bn
 have HB := Aside0.mk (Below.refl w.heap.size w)
 have H : (some (aD, aw, ax, aA, ay, ar, aC, ao, ah, aj, ak, ae, ag, ai, an, ap, au, av, az, am, aa, ab, aq)) = some (r1, r2, r3, r4, r5, r6, r7, r8, r9, r10, r11, r12, r13, r14, r15, r16, r17, r18, r19, r20, r21, r22, r23) := h
 clear h
 simp only [Option.some.injEq, Prod.mk.injEq] at H
 obtain ⟨rfl, rfl, rfl, rfl, rfl, rfl, rfl, rfl, rfl, rfl, rfl, rfl, rfl, rfl, rfl, rfl, rfl, rfl, rfl, rfl, rfl, rfl, rfl⟩ := H
 go_enter Try.func73, Try.ntmps73
 go_wp2_with (first | ((with_reducible refine gate_dst (N := 49) rfl ?_); refine Pre.build_event 49 71 [(0, Go.Operand.tmp 4), (1, Go.Operand.tmp 6), (2, Go.Operand.tmp 8), (3, Go.Operand.tmp 10), (4, Go.Operand.tmp 12), (5, Go.Operand.tmp 14), (6, Go.Operand.tmp 16), (7, Go.Operand.tmp 18), (8, Go.Operand.tmp 20), (9, Go.Operand.tmp 22), (10, Go.Operand.tmp 24), (11, Go.Operand.tmp 26), (12, Go.Operand.tmp 28), (13, Go.Operand.tmp 30), (14, Go.Operand.tmp 32), (15, Go.Operand.tmp 34), (16, Go.Operand.tmp 36), (17, Go.Operand.tmp 38), (18, Go.Operand.tmp 40), (19, Go.Operand.tmp 42), (20, Go.Operand.tmp 44), (21, Go.Operand.tmp 46), (22, Go.Operand.tmp 48)] rfl rfl rfl (msg_strip.bd49 _ _ _ _ _ _ _ _ _ _ _ _ _ _ _ _ _ _ _ _ _ _ _) ?_) | ((with_reducible refine gate_dst (N := 1) rfl ?_); refine Sq.box 1 #[.int .i64 aD, .int .i64 aw, .int .i64 ax, .string au, .int .i64 aA, .int .i64 ay, .string av, .int .i64 ar, .int .i64 aC, .string az, .int .i64 ao, .string am, .int .i64 ah, .int .i64 aj, .int .i64 ak, .int .i64 ae, .int .i64 ag, .int .i64 ai, .int .i64 an, .string aa, .string ab, .slice aP ac.length aN, .int .i64 ap, .string aq, .slice aJ af.length aK] 25 ?_; intro aE hg w2 hbox hb; have al := Aside0.mk (hbox); have cd := Aside0.mk (Sq.ge hg Z2); have bV := Aside0.mk (Sq.ge hg Z2); replace HB := Aside0.mk (below_step Z2 hb); clear hb hbox hg) | ((with_reducible refine gate_dst (N := 2) rfl ?_); refine Sq.box 2 #[.int .i64 0, .int .i64 0, .int .i64 0, .int .i64 0, .int .i64 0, .int .i64 0, .int .i64 0, .int .i64 0, .int .i64 0, .int .i64 0, .int .i64 0, .int .i64 0, .int .i64 0, .int .i64 0, .int .i64 0, .int .i64 0, .string ⟨#[]⟩, .string ⟨#[]⟩, .string ⟨#[]⟩, .string ⟨#[]⟩, .string ⟨#[]⟩, .string ⟨#[]⟩, .string ⟨#[]⟩] 71 ?_; intro bC hg w3 hbox hb; have cv := Aside0.mk (hbox); have gI := Aside0.mk (Sq.ge hg Z0); have fE := Aside0.mk (Sq.ge hg Z0); have eO := Aside0.mk (Sq.nl hg (blk_lt (g := aE) Z3)); have fs := Aside0.mk (Sq.ng hg (blk_lt (g := aE) Z3)); replace al := Aside0.mk (blk_below (g := aE) Z3 hb); replace HB := Aside0.mk (below_step Z0 hb); clear hb hbox hg; have hnb4 := eO.out; have hnc4 := fs.out; have hh := cells_25 al.out; have lg := cells_23 cv.out) | ((with_reducible refine Pre.gate_store 71 rfl ?_); refine Pre.store_abs (cur := #[.int .i64 0, .int .i64 0, .int .i64 0, .int .i64 0, .int .i64 0, .int .i64 0, .int .i64 0, .int .i64 0, .int .i64 0, .int .i64 0, .int .i64 0, .int .i64 0, .int .i64 0, .int .i64 0, .int .i64 0, .int .i64 0, .string ⟨#[]⟩, .string ⟨#[]⟩, .string ⟨#[]⟩, .string ⟨#[]⟩, .string ⟨#[]⟩, .string ⟨#[]⟩, .string ⟨#[]⟩]) (e := 71) rfl rfl rfl Z14 Z14 (by (with_reducible repeat (first | refine blk_drewN ?_ _ | refine blk_drew ?_ | refine blk_alloc ?_ _)); exact cv.out) Z11 Z14 Z14 ?_; intro w7 hbS_ sS_; have bi : Aside0 (w7.heap[aE]? = some (.cells #[.int .i64 aD, .int .i64 aw, .int .i64 ax, .string au, .int .i64 aA, .int .i64 ay, .string av, .int .i64 ar, .int .i64 aC, .string az, .int .i64 ao, .string am, .int .i64 ah, .int .i64 aj, .int .i64 ak, .int .i64 ae, .int .i64 ag, .int .i64 ai, .int .i64 an, .string aa, .string ab, .slice aP ac.length aN, .int .i64 ap, .string aq, .slice aJ af.length aK] 25 (0, 0))) := ⟨sS_.blk Z3 eO.out⟩; have bp : Aside0 (w7.heap[bC]? = some (.cells #[.int .i64 aD, .int .i64 aw, .int .i64 ax, .int .i64 aA, .int .i64 ay, .int .i64 ar, .int .i64 aC, .int .i64 ao, .int .i64 ah, .int .i64 aj, .int .i64 ak, .int .i64 ae, .int .i64 ag, .int .i64 ai, .int .i64 an, .int .i64 ap, .string au, .string av, .string az, .string am, .string aa, .string ab, .string aq] 71 (0, 0))) := ⟨hbS_⟩; have bT : Aside0 (Below w.heap.size w w7) := ⟨sS_.below Z19 fE.out⟩; clear hbS_ sS_; replace al := bi; replace cv := bp; replace HB := bT; clear bi bp bT))
 refine bodyPost_ret (results_cell_row rfl _ _ bC 71 #[.int .i64 aD, .int .i64 aw, .int .i64 ax, .int .i64 aA, .int .i64 ay, .int .i64 ar, .int .i64 aC, .int .i64 ao, .int .i64 ah, .int .i64 aj, .int .i64 ak, .int .i64 ae, .int .i64 ag, .int .i64 ai, .int .i64 an, .int .i64 ap, .string au, .string av, .string az, .string am, .string aa, .string ab, .string aq] (0, 0) _ rfl (by (with_reducible repeat (first | refine blk_drewN ?_ _ | refine blk_drew ?_ | refine blk_alloc ?_ _)); exact cv.out) Try.underlying71 rfl Z11) rfl ?_
 exact ⟨Z6, Z19⟩

/-! ### octet_Fits: function 54 -/
def octet_Fits.f (a0 : Int) (a1 : Int) : Option (Bool) := if a1 ≥ 1 then (if a1 ≤ 7 then (if a0 ≥ 0 then (if 0 ≤ (IntKind.u64.wrap (wrap64 (8 * a1))) then (some ((shr .i64 a0 (IntKind.u64.wrap (wrap64 (8 * a1)))) == 0)) else (none)) else (some false)) else (some false)) else (some false)
set_option maxHeartbeats 8000000 in
set_option maxRecDepth 100000 in
theorem octet_Fits.calls (a0 : Int) (a1 : Int) (r : Bool) (w : World) (h : octet_Fits.f a0 a1 = some r) :
  Calls Try.prog 54 #[.int .i64 a0, .int .i64 a1] w fun e w' => e = .returned (.bool r) ∧ Drawn0 w w' := by
 have H : (if a1 ≥ 1 then (if a1 ≤ 7 then (if a0 ≥ 0 then (if 0 ≤ (IntKind.u64.wrap (wrap64 (8 * a1))) then (some ((shr .i64 a0 (IntKind.u64.wrap (wrap64 (8 * a1)))) == 0)) else (none)) else (some false)) else (some false)) else (some false)) = some r := h
 clear h
 by_cases c3 : a1 ≥ 1
 ·rw [if_pos c3] at H
  have fh : decide (1 ≤ a1) = true := decide_eq_true c3
  clear c3
  by_cases c4 : a1 ≤ 7
  ·rw [if_pos c4] at H
   have cf : decide (a1 ≤ 7) = true := decide_eq_true c4
   clear c4
   by_cases c5 : a0 ≥ 0
   ·rw [if_pos c5] at H
    have dx : decide (0 ≤ a0) = true := decide_eq_true c5
    clear c5
    obtain ⟨ji6, hji6⟩ : ∃ j_ : Int, (IntKind.u64.wrap (wrap64 (8 * a1))) = j_ := ⟨_, rfl⟩
    replace H : (if 0 ≤ (ji6) then (some ((shr .i64 a0 (ji6)) == 0)) else (none)) = some r := by first | (rw [hji6] at H; exact H) | (simp only [hji6] at H ⊢; exact H)
    by_cases c7 : 0 ≤ (ji6)
    ·rw [if_pos c7] at H
     have dT := eq_true c7
     have hu : decide (0 ≤ (ji6)) = true := decide_eq_true c7
     clear c7
     obtain ⟨ji8, hji8⟩ : ∃ j_ : Int, (shr .i64 a0 (ji6)) = j_ := ⟨_, rfl⟩
     replace H : (some ((ji8) == 0)) = some r := by first | (rw [hji8] at H; exact H) | (simp only [hji8] at H ⊢; exact H)
     have hji8_ : (a0 / 2 ^ min (ji6).toNat 64) = ji8 := hji8
     have hji8z : (ji6) ≤ 64 → (a0 / 2 ^ (ji6).toNat) = ji8 := shr_small hji8
     obtain rfl := Option.some.inj H
     go_enter Try.func54, Try.ntmps54
     go_wp2
     go_ret
     exact ⟨by first | rfl | (simp; done) | (simp only [← hji6, ← hji8] <;> (first | rfl | simp)) | (simp [*]; done), Z16⟩
    ·rw [if_neg c7] at H
     exact absurd H Z35
   ·rw [if_neg c5] at H
    have dx : decide (0 ≤ a0) = false := decide_eq_false c5
    clear c5
    obtain rfl := Option.some.inj H
    go_enter Try.func54, Try.ntmps54
    go_wp2
    go_ret
    exact ⟨Z10, Z16⟩
  ·rw [if_neg c4] at H
   have cf : decide (a1 ≤ 7) = false := decide_eq_false c4
   clear c4
   obtain rfl := Option.some.inj H
   go_enter Try.func54, Try.ntmps54
   go_wp2
   go_ret
   exact ⟨Z10, Z16⟩
 ·rw [if_neg c3] at H
  have fh : decide (1 ≤ a1) = false := decide_eq_false c3
  clear c3
  obtain rfl := Option.some.inj H
  go_enter Try.func54, Try.ntmps54
  go_wp2
  go_ret
  exact ⟨Z10, Z16⟩

/-! ### msg_Subs: function 74 -/
def msg_Subs.l0 : Nat → Int → Int → List (S48) → Int → Int → Option (Bool)
 | 0, _, _, _, _, _ => none
 | k + 1, x1, x2, x9, fu, jh => if jh < fu then (if 0 ≤ jh then (if jh < (x9.length : Int) then (if ((rd_T48 x9 jh).f0) < x1 then (some false) else (if ((rd_T48 x9 jh).f0) > x2 then (some false) else (if (((rd_T48 x9 jh).f1).size : Int) > 255 then (some false) else (msg_Subs.l0 k x1 x2 x9 fu (wrap64 (jh + 1)))))) else (none)) else (none)) else (some true)
def msg_Subs.f (k : Nat) (l0 : List (S48)) (a1 : Int) (a2 : Int) : Option (Bool) := msg_Subs.l0 k a1 a2 l0 (l0.length : Int) 0
theorem msg_Subs.mono_l : ∀ k, (∀ y0 y1 y2 y3 y4, LeO (msg_Subs.l0 k y0 y1 y2 y3 y4) (msg_Subs.l0 (k + 1) y0 y1 y2 y3 y4))
 | 0 => Sq.mz
 | k + 1 => by
  have ih0 := msg_Subs.mono_l k
  ·intros
   unfold msg_Subs.l0
   exact Sq.mo
theorem msg_Subs.mono : ∀ a0 a1 a2 k, LeO (msg_Subs.f k a0 a1 a2) (msg_Subs.f (k + 1) a0 a1 a2) := by
 intro a0 a1 a2 k
 have ih0 := msg_Subs.mono_l k
 unfold msg_Subs.f
 exact Sq.mo
set_option maxHeartbeats 8000000 in
set_option maxRecDepth 100000 in
theorem msg_Subs.calls (k : Nat) (A0 : Option Addr) (c0 : Nat) (l0 : List (S48)) (a1 : Int) (a2 : Int) (r : Bool) (w : World) (ff : Kd.C k48 w A0 l0.length l0) (eH : l0.length ≤ c0) (h : msg_Subs.f k l0 a1 a2 = some r) :
  Calls Try.prog 74 #[.slice A0 l0.length c0, .int .i64 a1, .int .i64 a2] w fun e w' => e = .returned (.bool r) ∧ Below w.heap.size w w' := by
 have kb := Try.underlying48
 have dS := Aside0.mk ff
 have gj := Aside0.mk eH
 clear ff eH
 have HB := Aside0.mk (Below.refl w.heap.size w)
 have H : (msg_Subs.l0 k a1 a2 l0 (l0.length : Int) 0) = some r := h
 clear h
 have H' := Aside0.mk H
 clear H
 go_enter Try.func74, Try.ntmps74
 go_wp2
 go_loopg [11] k (fun kq iq w' => ∃ (ce : Int), iq = .int .i64 ce ∧ Aside0 (msg_Subs.l0 kq a1 a2 l0 (l0.length : Int) ce = some r) ∧ Aside0 (kq ≤ k) ∧ Aside0 (Below w.heap.size w w'))
 case atStart => exact ⟨(0), Z10, H', ⟨Nat.le_refl _⟩, ⟨Z2⟩⟩
 case round =>
  clear H'
  try clear p2
  obtain ⟨ce, rfl, HA, HK1, HB⟩ := hrel
  cases gk with
  | zero => exact absurd HA.out (by simp [msg_Subs.l0])
  | succ k1 =>
   have H := HA.out
   clear HA
   simp only [msg_Subs.l0] at H
   by_cases c4 : ce < (l0.length : Int)
   ·rw [if_pos c4] at H
    have cf : decide (ce < (l0.length : Int)) = true := decide_eq_true c4
    clear c4
    by_cases c5 : 0 ≤ ce
    ·rw [if_pos c5] at H
     have dx : decide (0 ≤ ce) = true := decide_eq_true c5
     clear c5
     by_cases c6 : ce < (l0.length : Int)
     ·rw [if_pos c6] at H
      have dW : decide (ce < (l0.length : Int)) = true := decide_eq_true c6
      clear c6
      by_cases c7 : ((rd_T48 l0 ce).f0) < a1
      ·rw [if_pos c7] at H
       have dT : decide (((rd_T48 l0 ce).f0) < a1) = true := decide_eq_true c7
       clear c7
       obtain rfl := Option.some.inj H
       have p101 : 0 ≤ (ce : Int) := of_decide_eq_true Z8
       have q101 : ce < (l0.length : Int) := of_decide_eq_true Z8
       obtain ⟨ad101, e101, hx101_0, hx101_1⟩ := at_T48 dS.out ce p101 q101
       cases e101
       replace hx101_0 := Sq.up HB.out hx101_0
       replace hx101_1 := Sq.up HB.out hx101_1
       replace p101 := eq_true p101
       replace q101 := eq_true q101
       go_wp2_with (first | ((with_reducible refine gate_dst (N := 8) rfl ?_); (try (refine gate_guard Z14 ?_; dsimp only)); refine Sq.box 8 #[.int .i64 0, .string ⟨#[]⟩] 48 ?_; intro bC hg w8 hbox hb; have cv := Aside0.mk (hbox); have gI := Aside0.mk (Sq.ge hg Z2); have fE := Aside0.mk (Sq.ge hg Z2); replace HB := Aside0.mk (below_step Z2 hb); clear hb hbox hg; have hcz9_0 : w8.cell? ⟨bC, 0, none⟩ = some (.int .i64 0) := (blk_cell cv.out 0).trans rfl; have hcz9_1 : w8.cell? ⟨bC, 1, none⟩ = some (.string ⟨#[]⟩) := (blk_cell cv.out 1).trans rfl; have hfz9_0 := blk_frozen cv.out 0; have hfz9_1 := blk_frozen cv.out 1))
       go_ret
       exact ⟨Z6, Z32⟩
      ·rw [if_neg c7] at H
       have dT : decide (((rd_T48 l0 ce).f0) < a1) = false := decide_eq_false c7
       clear c7
       by_cases dv : ((rd_T48 l0 ce).f0) > a2
       ·rw [if_pos dv] at H
        have eS : decide (a2 < ((rd_T48 l0 ce).f0)) = true := decide_eq_true dv
        clear dv
        obtain rfl := Option.some.inj H
        have p101 : 0 ≤ (ce : Int) := of_decide_eq_true Z8
        have q101 : ce < (l0.length : Int) := of_decide_eq_true Z8
        obtain ⟨ad101, e101, hx101_0, hx101_1⟩ := at_T48 dS.out ce p101 q101
        cases e101
        replace hx101_0 := Sq.up HB.out hx101_0
        replace hx101_1 := Sq.up HB.out hx101_1
        replace p101 := eq_true p101
        replace q101 := eq_true q101
        go_wp2_with (first | ((with_reducible refine gate_dst (N := 8) rfl ?_); (try (refine gate_guard Z14 ?_; dsimp only)); refine Sq.box 8 #[.int .i64 0, .string ⟨#[]⟩] 48 ?_; intro bC hg kt hbox hb; have cv := Aside0.mk (hbox); have gI := Aside0.mk (Sq.ge hg Z2); have fE := Aside0.mk (Sq.ge hg Z2); replace HB := Aside0.mk (below_step Z2 hb); clear hb hbox hg; have hcz12_0 : kt.cell? ⟨bC, 0, none⟩ = some (.int .i64 0) := (blk_cell cv.out 0).trans rfl; have hcz12_1 : kt.cell? ⟨bC, 1, none⟩ = some (.string ⟨#[]⟩) := (blk_cell cv.out 1).trans rfl; have hfz12_0 := blk_frozen cv.out 0; have hfz12_1 := blk_frozen cv.out 1))
        go_ret
        exact ⟨Z6, Z32⟩
       ·rw [if_neg dv] at H
        have eS : decide (a2 < ((rd_T48 l0 ce).f0)) = false := decide_eq_false dv
        clear dv
        by_cases dB : (((rd_T48 l0 ce).f1).size : Int) > 255
        ·rw [if_pos dB] at H
         have fK : decide (255 < (((rd_T48 l0 ce).f1).size : Int)) = true := decide_eq_true dB
         have gN : decide (255 < ((rd_T48 l0 ce).f1).size) = true := decide_eq_true Z29
         clear dB
         obtain rfl := Option.some.inj H
         have p101 : 0 ≤ (ce : Int) := of_decide_eq_true Z8
         have q101 : ce < (l0.length : Int) := of_decide_eq_true Z8
         obtain ⟨ad101, e101, hx101_0, hx101_1⟩ := at_T48 dS.out ce p101 q101
         cases e101
         replace hx101_0 := Sq.up HB.out hx101_0
         replace hx101_1 := Sq.up HB.out hx101_1
         replace p101 := eq_true p101
         replace q101 := eq_true q101
         go_wp2_with (first | ((with_reducible refine gate_dst (N := 8) rfl ?_); (try (refine gate_guard Z14 ?_; dsimp only)); refine Sq.box 8 #[.int .i64 0, .string ⟨#[]⟩] 48 ?_; intro bC hg kJ hbox hb; have cv := Aside0.mk (hbox); have gI := Aside0.mk (Sq.ge hg Z2); have fE := Aside0.mk (Sq.ge hg Z2); replace HB := Aside0.mk (below_step Z2 hb); clear hb hbox hg; have hcz15_0 : kJ.cell? ⟨bC, 0, none⟩ = some (.int .i64 0) := (blk_cell cv.out 0).trans rfl; have hcz15_1 : kJ.cell? ⟨bC, 1, none⟩ = some (.string ⟨#[]⟩) := (blk_cell cv.out 1).trans rfl; have hfz15_0 := blk_frozen cv.out 0; have hfz15_1 := blk_frozen cv.out 1))
         go_ret
         exact ⟨Z6, Z32⟩
        ·rw [if_neg dB] at H
         have fK : decide (255 < (((rd_T48 l0 ce).f1).size : Int)) = false := decide_eq_false dB
         have gN : decide (255 < ((rd_T48 l0 ce).f1).size) = false := decide_eq_false Z29
         clear dB
         have H' := Aside0.mk H
         clear H
         have p101 : 0 ≤ (ce : Int) := of_decide_eq_true Z8
         have q101 : ce < (l0.length : Int) := of_decide_eq_true Z8
         obtain ⟨ad101, e101, hx101_0, hx101_1⟩ := at_T48 dS.out ce p101 q101
         cases e101
         replace hx101_0 := Sq.up HB.out hx101_0
         replace hx101_1 := Sq.up HB.out hx101_1
         replace p101 := eq_true p101
         replace q101 := eq_true q101
         go_wp2_with (first | ((with_reducible refine gate_dst (N := 8) rfl ?_); (try (refine gate_guard Z14 ?_; dsimp only)); refine Sq.box 8 #[.int .i64 0, .string ⟨#[]⟩] 48 ?_; intro bC hg kp hbox hb; have cv := Aside0.mk (hbox); have gI := Aside0.mk (Sq.ge hg Z2); have fE := Aside0.mk (Sq.ge hg Z2); replace HB := Aside0.mk (below_step Z2 hb); clear hb hbox hg; have kc : kp.cell? ⟨bC, 0, none⟩ = some (.int .i64 0) := (blk_cell cv.out 0).trans rfl; have kd : kp.cell? ⟨bC, 1, none⟩ = some (.string ⟨#[]⟩) := (blk_cell cv.out 1).trans rfl; have hfz17_0 := blk_frozen cv.out 0; have hfz17_1 := blk_frozen cv.out 1))
         go_roundg k1
         case measure => have := HK1.out; omega
         case rel => exact ⟨(wrap64 (ce + 1)), Z10, H', ⟨Z49⟩, ⟨Z32⟩⟩
     ·rw [if_neg c6] at H
      exact absurd H Z35
    ·rw [if_neg c5] at H
     exact absurd H Z35
   ·rw [if_neg c4] at H
    have cf : decide (ce < (l0.length : Int)) = false := decide_eq_false c4
    clear c4
    obtain rfl := Option.some.inj H
    go_wp2
    go_ret
    exact ⟨Z6, Z2⟩

/-! ### ext_Right: function 55 -/
def ext_Right.f (k : Nat) (l0 : List (S48)) : Option (Bool) := (msg_Subs.f k l0 0 255).bind fun bU => (some bU)
theorem ext_Right.mono : ∀ a0 k, LeO (ext_Right.f k a0) (ext_Right.f (k + 1) a0) := by
 intro a0 k
 unfold ext_Right.f
 have m0 := msg_Subs.mono
 exact Sq.mo
set_option maxHeartbeats 8000000 in
set_option maxRecDepth 100000 in
theorem ext_Right.calls (k : Nat) (A0 : Option Addr) (c0 : Nat) (l0 : List (S48)) (r : Bool) (w : World) (ff : Kd.C k48 w A0 l0.length l0) (eH : l0.length ≤ c0) (h : ext_Right.f k l0 = some r) :
  Calls Try.prog 55 #[.slice A0 l0.length c0] w fun e w' => e = .returned (.bool r) ∧ Below w.heap.size w w' := by
 have dS := Aside0.mk ff
 have gj := Aside0.mk eH
 clear ff eH
 have HB := Aside0.mk (Below.refl w.heap.size w)
 have H : ((msg_Subs.f k l0 0 255).bind fun bU => (some bU)) = some r := h
 clear h
 replace H := Option.bind_eq_some_iff.mp H
 obtain ⟨bU, dL, H⟩ := H
 replace H : (some bU) = some r := H
 have A2 := Aside0.mk dL
 clear dL
 obtain rfl := Option.some.inj H
 go_enter Try.func55, Try.ntmps55
 go_wp2_with (first | ((with_reducible refine gate_callee (f := 74) rfl ?_); refine goesL_ (some 4) rfl rfl Try.func74 Z11 rfl #[.slice A0 l0.length c0, .int .i64 0, .int .i64 255] rfl Z4 ?_; (with_reducible refine (msg_Subs.calls k _ _ l0 0 255 bU _ ?side1 ?side2 A2.out).mono ?_); (case side1 => exact Z22); (case side2 => exact gj.out); rintro e w3 ⟨rfl, hb⟩; refine ⟨_, rfl, ?_⟩; replace HB := Aside0.mk (below_step Z2 hb); clear hb))
 go_ret
 exact ⟨Z6, Z2⟩

/-! ### msg_Bytes: function 71 -/
def msg_Bytes.l0 : Nat → Int → List (S48) → Int → Int → Option (Int)
 | 0, _, _, _, _ => none
 | k + 1, x3, x6, x7, x8 => if x8 < x7 then (if 0 ≤ x8 then (if x8 < (x6.length : Int) then (msg_Bytes.l0 k (wrap64 (x3 + (wrap64 (2 + (((rd_T48 x6 x8).f1).size : Int))))) x6 x7 (wrap64 (x8 + 1))) else (none)) else (none)) else (some x3)
def msg_Bytes.f (k : Nat) (l0 : List (S48)) : Option (Int) := msg_Bytes.l0 k 0 l0 (l0.length : Int) 0
theorem msg_Bytes.mono_l : ∀ k, (∀ y0 y1 y2 y3, LeO (msg_Bytes.l0 k y0 y1 y2 y3) (msg_Bytes.l0 (k + 1) y0 y1 y2 y3))
 | 0 => Sq.mz
 | k + 1 => by
  have ih0 := msg_Bytes.mono_l k
  ·intros
   unfold msg_Bytes.l0
   exact Sq.mo
theorem msg_Bytes.mono : ∀ a0 k, LeO (msg_Bytes.f k a0) (msg_Bytes.f (k + 1) a0) := by
 intro a0 k
 have ih0 := msg_Bytes.mono_l k
 unfold msg_Bytes.f
 exact Sq.mo
set_option maxHeartbeats 8000000 in
set_option maxRecDepth 100000 in
theorem msg_Bytes.calls (k : Nat) (A0 : Option Addr) (c0 : Nat) (l0 : List (S48)) (r : Int) (w : World) (ff : Kd.C k48 w A0 l0.length l0) (eH : l0.length ≤ c0) (h : msg_Bytes.f k l0 = some r) :
  Calls Try.prog 71 #[.slice A0 l0.length c0] w fun e w' => e = .returned (.int .i64 r) ∧ Below w.heap.size w w' := by
 have kb := Try.underlying48
 have dS := Aside0.mk ff
 have gj := Aside0.mk eH
 clear ff eH
 have HB := Aside0.mk (Below.refl w.heap.size w)
 have H : (msg_Bytes.l0 k 0 l0 (l0.length : Int) 0) = some r := h
 clear h
 have H' := Aside0.mk H
 clear H
 go_enter Try.func71, Try.ntmps71
 go_wp2
 go_loopg [3, 8] k (fun kq v3 v8 w' => ∃ (aM : Int) (fD : Int), v3 = .int .i64 aM ∧ v8 = .int .i64 fD ∧ Aside0 (msg_Bytes.l0 kq aM l0 (l0.length : Int) fD = some r) ∧ Aside0 (kq ≤ k) ∧ Aside0 (Below w.heap.size w w'))
 case atStart => exact ⟨(0), (0), Z10, Z10, H', ⟨Nat.le_refl _⟩, ⟨Z2⟩⟩
 case round =>
  clear H'
  obtain ⟨aM, fD, rfl, rfl, HA, HK1, HB⟩ := hrel
  cases gk with
  | zero => exact absurd HA.out (by simp [msg_Bytes.l0])
  | succ k1 =>
   have H := HA.out
   clear HA
   simp only [msg_Bytes.l0] at H
   by_cases c2 : fD < (l0.length : Int)
   ·rw [if_pos c2] at H
    have fR : decide (fD < (l0.length : Int)) = true := decide_eq_true c2
    clear c2
    by_cases c3 : 0 ≤ fD
    ·rw [if_pos c3] at H
     have fh : decide (0 ≤ fD) = true := decide_eq_true c3
     clear c3
     by_cases c4 : fD < (l0.length : Int)
     ·rw [if_pos c4] at H
      have cf : decide (fD < (l0.length : Int)) = true := decide_eq_true c4
      clear c4
      have H' := Aside0.mk H
      clear H
      have p101 : 0 ≤ (fD : Int) := of_decide_eq_true Z8
      have q101 : fD < (l0.length : Int) := of_decide_eq_true Z8
      obtain ⟨ad101, e101, hx101_0, hx101_1⟩ := at_T48 dS.out fD p101 q101
      cases e101
      replace hx101_0 := Sq.up HB.out hx101_0
      replace hx101_1 := Sq.up HB.out hx101_1
      replace p101 := eq_true p101
      replace q101 := eq_true q101
      go_wp2_with (first | ((with_reducible refine gate_dst (N := 5) rfl ?_); refine Sq.box 5 #[.int .i64 0, .string ⟨#[]⟩] 48 ?_; intro bC hg w5 hbox hb; have cv := Aside0.mk (hbox); have gI := Aside0.mk (Sq.ge hg Z2); have fE := Aside0.mk (Sq.ge hg Z2); replace HB := Aside0.mk (below_step Z2 hb); clear hb hbox hg; have hcz6_0 : w5.cell? ⟨bC, 0, none⟩ = some (.int .i64 0) := (blk_cell cv.out 0).trans rfl; have hcz6_1 : w5.cell? ⟨bC, 1, none⟩ = some (.string ⟨#[]⟩) := (blk_cell cv.out 1).trans rfl; have hfz6_0 := blk_frozen cv.out 0; have hfz6_1 := blk_frozen cv.out 1))
      go_roundg k1
      case measure => have := HK1.out; omega
      case rel => exact ⟨(wrap64 (aM + (wrap64 (2 + (((rd_T48 l0 fD).f1).size : Int))))), (wrap64 (fD + 1)), Z10, Z10, H', ⟨Z49⟩, ⟨Z32⟩⟩
     ·rw [if_neg c4] at H
      exact absurd H Z35
    ·rw [if_neg c3] at H
     exact absurd H Z35
   ·rw [if_neg c2] at H
    have fR : decide (fD < (l0.length : Int)) = false := decide_eq_false c2
    clear c2
    obtain rfl := Option.some.inj H
    go_wp2
    go_ret
    exact ⟨Z6, Z2⟩

/-! ### ext_Put: function 49 -/
def ext_Put.l0 : Nat → List Int → List (S48) → Int → Int → Option (ByteArray × Bool)
 | 0, _, _, _, _ => none
 | k + 1, x4, ln, oM, kA => if kA < oM then (if 0 ≤ kA then (if kA < (ln.length : Int) then ((some (([((rd_T48 ln kA).f0) % 256, ((((rd_T48 ln kA).f1).size : Int)) % 256] : List Int) : List Int)).bind fun hj => (if x4.length + hj.length < 140737488355328 then ((some (x4 ++ hj : List Int)).bind fun gA => (if gA.length + ((rd_T48 ln kA).f1).size < 140737488355328 then (ext_Put.l0 k (gA ++ bytesOf ((rd_T48 ln kA).f1)) ln oM (wrap64 (kA + 1))) else (none))) else (none))) else (none)) else (none)) else (some (strOfNums x4, true))
def ext_Put.f (k : Nat) (l0 : List (S48)) : Option (ByteArray × Bool) := (ext_Right.f k l0).bind fun bU => (if bU = true then ((msg_Bytes.f k l0).bind fun aU => (if 0 ≤ aU then (if (aU : Int).toNat ≤ 281474976710656 then (ext_Put.l0 k (List.nil) l0 (l0.length : Int) 0) else (none)) else (none))) else (some ((⟨#[]⟩ : ByteArray), false)))
theorem ext_Put.mono_l : ∀ k, (∀ y0 y1 y2 y3, LeO (ext_Put.l0 k y0 y1 y2 y3) (ext_Put.l0 (k + 1) y0 y1 y2 y3))
 | 0 => Sq.mz
 | k + 1 => by
  have ih0 := ext_Put.mono_l k
  ·intros
   unfold ext_Put.l0
   have m0 := ext_Right.mono
   have m1 := msg_Bytes.mono
   exact Sq.mo
theorem ext_Put.mono : ∀ a0 k, LeO (ext_Put.f k a0) (ext_Put.f (k + 1) a0) := by
 intro a0 k
 have ih0 := ext_Put.mono_l k
 unfold ext_Put.f
 have m0 := ext_Right.mono
 have m1 := msg_Bytes.mono
 exact Sq.mo
set_option maxHeartbeats 8000000 in
set_option maxRecDepth 100000 in
theorem ext_Put.calls (k : Nat) (A0 : Option Addr) (c0 : Nat) (l0 : List (S48)) (r1 : ByteArray) (r2 : Bool) (w : World) (ff : Kd.C k48 w A0 l0.length l0) (eH : l0.length ≤ c0) (h : ext_Put.f k l0 = some (r1, r2)) :
  Calls Try.prog 49 #[.slice A0 l0.length c0] w fun e w' => e = .returned (.tuple #[.string r1, .bool r2]) ∧ Below w.heap.size w w' := by
 have kb := Try.underlying48
 have dS := Aside0.mk ff
 have gj := Aside0.mk eH
 clear ff eH
 have HB := Aside0.mk (Below.refl w.heap.size w)
 have H : ((ext_Right.f k l0).bind fun bU => (if bU = true then ((msg_Bytes.f k l0).bind fun aU => (if 0 ≤ aU then (if (aU : Int).toNat ≤ 281474976710656 then (ext_Put.l0 k (List.nil) l0 (l0.length : Int) 0) else (none)) else (none))) else (some ((⟨#[]⟩ : ByteArray), false)))) = some (r1, r2) := h
 clear h
 replace H := Option.bind_eq_some_iff.mp H
 obtain ⟨bU, dL, H⟩ := H
 replace H : (if bU = true then ((msg_Bytes.f k l0).bind fun aU => (if 0 ≤ aU then (if (aU : Int).toNat ≤ 281474976710656 then (ext_Put.l0 k (List.nil) l0 (l0.length : Int) 0) else (none)) else (none))) else (some ((⟨#[]⟩ : ByteArray), false))) = some (r1, r2) := H
 have A2 := Aside0.mk dL
 clear dL
 by_cases c3 : bU = true
 ·subst c3
  have H1 : ((msg_Bytes.f k l0).bind fun aU => (if 0 ≤ aU then (if (aU : Int).toNat ≤ 281474976710656 then (ext_Put.l0 k (List.nil) l0 (l0.length : Int) 0) else (none)) else (none))) = some (r1, r2) := by rw [if_pos rfl] at H; exact H
  clear H
  have H := H1
  clear H1
  replace H := Option.bind_eq_some_iff.mp H
  obtain ⟨aU, gl, H⟩ := H
  replace H : (if 0 ≤ aU then (if (aU : Int).toNat ≤ 281474976710656 then (ext_Put.l0 k (List.nil) l0 (l0.length : Int) 0) else (none)) else (none)) = some (r1, r2) := H
  have A4 := Aside0.mk gl
  clear gl
  by_cases c5 : 0 ≤ aU
  ·rw [if_pos c5] at H
   have dx := eq_true c5
   have fJ : decide (0 ≤ aU) = true := decide_eq_true c5
   clear c5
   by_cases c6 : (aU : Int).toNat ≤ 281474976710656
   ·rw [if_pos c6] at H
    have dW := eq_true c6
    have ft : decide ((aU : Int).toNat ≤ 281474976710656) = true := decide_eq_true c6
    clear c6
    obtain ⟨cC, hy103⟩ : ∃ y_ : List Int, y_ = (List.nil) := ⟨_, rfl⟩
    replace H : (ext_Put.l0 k cC l0 (l0.length : Int) 0) = some (r1, r2) := by first | (rw [hy103]; with_reducible exact H) | (have H2_ := (Option.bind_some _ _).symm.trans H; rw [hy103]; with_reducible exact H2_) | (have H2_ := (Option.bind_some _ _).symm.trans H; with_reducible exact H2_) | with_reducible exact H | (rw [hy103]; exact H) | exact H
    have Ny103 := Aside0.mk hy103
    clear hy103
    have H' := Aside0.mk H
    clear H
    go_enter Try.func49, Try.ntmps49
    go_wp2_with (first | ((with_reducible refine gate_callee (f := 55) rfl ?_); refine goesL_ (some 8) rfl rfl Try.func55 Z11 rfl #[.slice A0 l0.length c0] rfl Z4 ?_; (with_reducible refine (ext_Right.calls k _ _ l0 true _ ?side1 ?side2 A2.out).mono ?_); (case side1 => exact Z22); (case side2 => exact gj.out); rintro e w7 ⟨rfl, hb⟩; refine ⟨_, rfl, ?_⟩; replace HB := Aside0.mk (below_step Z2 hb); clear hb) | ((with_reducible refine gate_callee (f := 71) rfl ?_); refine goesL_ (some 11) rfl rfl Try.func71 Z11 rfl #[.slice A0 l0.length c0] rfl Z4 ?_; (with_reducible refine (msg_Bytes.calls k _ _ l0 aU _ ?side1 ?side2 A4.out).mono ?_); (case side1 => exact Z46); (case side2 => exact gj.out); rintro e w8 ⟨rfl, hb⟩; refine ⟨_, rfl, ?_⟩; replace HB := Aside0.mk (below_step Z2 hb); clear hb) | ((with_reducible refine gate_dst (N := 12) rfl ?_); refine Pre.R_make0 (Kd.int .u8) _ 5 rfl (N := 12) rfl 51 _ _ rfl aU rfl rfl Try.underlying51 (.int .u8 0) 1 info5 rfl Z21 Z29 0 (ok := fun _ => True) (okp := fun _ => True) rfl (fun _ hk => hk) trivial (of_decide_eq_true Z8) (Nat.le_trans (Nat.mul_le_mul_right _ (of_decide_eq_true Z8 : aU.toNat ≤ 281474976710656)) Z29) (Below.refl _ _) (Nat.le_refl _) ?_; intro lb w9 ho10 hb hg_ hnew_; clear hg_ hnew_; (first | rw [← Ny103.out] at ho10 | (simp only [Int.reduceToNat] at ho10; rw [← Ny103.out] at ho10)); have gR := Aside0.mk (Kd.R_lower ho10 (below_size Z2)); replace HB := Aside0.mk (below_step Z2 hb); clear hb ho10))
    go_loopg [4, 15] k (fun kq v4 iJ w' => ∃ (cy : List Int) (cb : Int), iJ = .int .i64 cb ∧ Aside0 (ext_Put.l0 kq cy l0 (l0.length : Int) cb = some (r1, r2)) ∧ Aside0 (kq ≤ k) ∧ Aside0 (Kd.R (Kd.int .u8) 5 w' w.heap.size (fun _ => True) v4 cy) ∧ Aside0 (Below w.heap.size w w'))
    case atStart => exact ⟨(cC), (0), Z10, H', ⟨Nat.le_refl _⟩, ⟨Z53⟩, ⟨Z2⟩⟩
    case round =>
     clear H'
     try clear p2
     try clear c3
     try clear c4
     try clear c5
     try clear dx
     try clear fJ
     try clear c6
     try clear dW
     try clear ft
     try clear c7
     obtain ⟨cy, cb, rfl, HA, HK1, HO_4, HB⟩ := hrel
     cases gk with
     | zero => exact absurd HA.out (by simp [ext_Put.l0])
     | succ k1 =>
      have H := HA.out
      clear HA
      simp only [ext_Put.l0] at H
      by_cases dC : cb < (l0.length : Int)
      ·rw [if_pos dC] at H
       have fg : decide (cb < (l0.length : Int)) = true := decide_eq_true dC
       clear dC
       by_cases dP : 0 ≤ cb
       ·rw [if_pos dP] at H
        have gB : decide (0 ≤ cb) = true := decide_eq_true dP
        clear dP
        by_cases dB : cb < (l0.length : Int)
        ·rw [if_pos dB] at H
         have fK : decide (cb < (l0.length : Int)) = true := decide_eq_true dB
         clear dB
         obtain ⟨hj, hy108⟩ : ∃ y_ : List Int, y_ = (([((rd_T48 l0 cb).f0) % 256, ((((rd_T48 l0 cb).f1).size : Int)) % 256] : List Int)) := ⟨_, rfl⟩
         replace H : (if cy.length + hj.length < 140737488355328 then ((some (cy ++ hj : List Int)).bind fun gA => (if gA.length + ((rd_T48 l0 cb).f1).size < 140737488355328 then (ext_Put.l0 k1 (gA ++ bytesOf ((rd_T48 l0 cb).f1)) l0 (l0.length : Int) (wrap64 (cb + 1))) else (none))) else (none)) = some (r1, r2) := by first | (rw [hy108]; with_reducible exact H) | (have H2_ := (Option.bind_some _ _).symm.trans H; rw [hy108]; with_reducible exact H2_) | (have H2_ := (Option.bind_some _ _).symm.trans H; with_reducible exact H2_) | with_reducible exact H | (rw [hy108]; exact H) | exact H
         have Ny108 := Aside0.mk hy108
         clear hy108
         by_cases dQ : cy.length + hj.length < 140737488355328
         ·rw [if_pos dQ] at H
          have LMc14 := Aside0.mk dQ
          clear dQ
          obtain ⟨gA, hy111⟩ : ∃ y_ : List Int, y_ = (cy ++ hj) := ⟨_, rfl⟩
          replace H : (if gA.length + ((rd_T48 l0 cb).f1).size < 140737488355328 then (ext_Put.l0 k1 (gA ++ bytesOf ((rd_T48 l0 cb).f1)) l0 (l0.length : Int) (wrap64 (cb + 1))) else (none)) = some (r1, r2) := by first | (rw [hy111]; with_reducible exact H) | (have H2_ := (Option.bind_some _ _).symm.trans H; rw [hy111]; with_reducible exact H2_) | (have H2_ := (Option.bind_some _ _).symm.trans H; with_reducible exact H2_) | with_reducible exact H | (rw [hy111]; exact H) | exact H
          have Ny111 := Aside0.mk hy111
          clear hy111
          by_cases dA : gA.length + ((rd_T48 l0 cb).f1).size < 140737488355328
          ·rw [if_pos dA] at H
           have LMc15 := Aside0.mk dA
           clear dA
           obtain ⟨lc, hy114⟩ : ∃ y_ : List Int, y_ = (gA ++ bytesOf ((rd_T48 l0 cb).f1)) := ⟨_, rfl⟩
           replace H : (ext_Put.l0 k1 lc l0 (l0.length : Int) (wrap64 (cb + 1))) = some (r1, r2) := by first | (rw [hy114]; with_reducible exact H) | (have H2_ := (Option.bind_some _ _).symm.trans H; rw [hy114]; with_reducible exact H2_) | (have H2_ := (Option.bind_some _ _).symm.trans H; with_reducible exact H2_) | with_reducible exact H | (rw [hy114]; exact H) | exact H
           have Ny114 := Aside0.mk hy114
           clear hy114
           have H' := Aside0.mk H
           clear H
           have p106 : 0 ≤ (cb : Int) := of_decide_eq_true Z8
           have q106 : cb < (l0.length : Int) := of_decide_eq_true Z8
           obtain ⟨ad106, e106, hx106_0, hx106_1⟩ := at_T48 dS.out cb p106 q106
           cases e106
           replace hx106_0 := Sq.up HB.out hx106_0
           replace hx106_1 := Sq.up HB.out hx106_1
           replace p106 := eq_true p106
           replace q106 := eq_true q106
           go_wp2_with (first | ((with_reducible refine gate_dst (N := 6) rfl ?_); refine Sq.box 6 #[.int .i64 0, .string ⟨#[]⟩] 48 ?_; intro dK hg kp hbox hb; have cB := Aside0.mk (hbox); have mn := Aside0.mk (Sq.ge hg Z2); have jv := Aside0.mk (Sq.ge hg Z2); replace HO_4 := Aside0.mk (Kd.R_below Z51 hb); replace HB := Aside0.mk (below_step Z2 hb); clear hb hbox hg; have kc : kp.cell? ⟨dK, 0, none⟩ = some (.int .i64 0) := (blk_cell cB.out 0).trans rfl; have kd : kp.cell? ⟨dK, 1, none⟩ = some (.string ⟨#[]⟩) := (blk_cell cB.out 1).trans rfl; have hfz17_0 := blk_frozen cB.out 0; have hfz17_1 := blk_frozen cB.out 1) | ((with_reducible refine gate_dst (N := 27) rfl ?_); refine Kd.R_lit (Kd.int .u8) _ 5 ?hg (N := 27) ?hd (xs := ([((rd_T48 l0 cb).f0) % 256, ((((rd_T48 l0 cb).f1).size : Int)) % 256] : List Int)) (inner := [.int .u8 (((rd_T48 l0 cb).f0) % 256), .int .u8 (((((rd_T48 l0 cb).f1).size : Int)) % 256)]) (ok := fun _ => True) (okp := fun _ => True) ?hr ?hp (fun _ hk => hk) trivial (Below.refl _ _) (Nat.le_refl _) Z35 ?_; (case hd => rfl); (case hg => rfl); (case hr => first | (go_simp; done) | (go_simp; rfl)); (case hp => exact (Reps.one (show Kd.M (Kd.int .u8) _ _ _ (((rd_T48 l0 cb).f0) % 256) [.int .u8 (((rd_T48 l0 cb).f0) % 256)] from rfl) (Reps.one (show Kd.M (Kd.int .u8) _ _ _ (((((rd_T48 l0 cb).f1).size : Int)) % 256) [.int .u8 (((((rd_T48 l0 cb).f1).size : Int)) % 256)] from rfl) (Reps.none _ _)))); intro v109 np ho19 hb hg_ hnew_; clear hg_ hnew_; (first | rw [← Ny108.out] at ho19 | (simp only [Int.reduceToNat] at ho19; rw [← Ny108.out] at ho19)); have hO := Aside0.mk (Kd.R_lower (Kd.R_new' ho19 (Kd.R_lt Z47)) (below_size Z24)); replace HO_4 := Aside0.mk (Kd.R_elder' Z47 (Kd.R_base ho19) hb); replace cB := Aside0.mk (blk_below (g := dK) (o := .cells #[.int .i64 ((rd_T48 l0 cb).f0), .string ((rd_T48 l0 cb).f1)] 48 (0, 0)) (by (with_reducible repeat (first | refine blk_drewN ?_ _ | refine blk_drew ?_ | refine blk_alloc ?_ _)); refine blk_put (cs := #[.int .i64 ((rd_T48 l0 cb).f0), .string ⟨#[]⟩]) ?_ 1 _ rfl; (with_reducible repeat (first | refine blk_drewN ?_ _ | refine blk_drew ?_ | refine blk_alloc ?_ _)); refine blk_put (cs := #[.int .i64 0, .string ⟨#[]⟩]) ?_ 0 _ rfl; (with_reducible repeat (first | refine blk_drewN ?_ _ | refine blk_drew ?_ | refine blk_alloc ?_ _)); exact cB.out) hb); replace HB := Aside0.mk (below_step Z24 hb); clear hb ho19; obtain ⟨nK, nL, eo21⟩ := Kd.R_slice hO.out; subst eo21) | ((with_reducible refine gate_builtin (b := .append) (xs := #[.tmp 19, .tmp 27]) rfl ?_); at_builtin; refine Kd.R_append_rows (Kd.int .u8) (w0 := w) w.heap.size rfl (.tmp 19) (.tmp 27) 51 5 (.int .u8 0) 1 rfl Try.underlying51 info5 rfl Z21 Z29 u4 cy hj _ _ _ (fun k_ => some k_ ≠ (.slice nK hj.length nL : Value).ownBlock) (fun _ => False) rfl rfl ?aO ?aR (fun _ _ h => h) (fun _ h => h.elim) ?aF ?aB ?aS ?aL ?_; (case aR => repeat (first | exact (Kd.R_reads' hO.out).2.2 | (with_reducible refine Kd.C_alloc ?_ _) | (with_reducible refine Kd.C_drewN ?_ _) | (with_reducible refine Kd.C_drew ?_))); (case aB => exact Z24); (case aF => exact (fun k_ hk => Kd.fresh' (Kd.R_lt (by (with_reducible repeat (first | apply Kd.R_alloc | apply Kd.R_drewN | apply Kd.R_drew)); exact hO.out)) k_ hk)); (case aO => exact (by (with_reducible repeat (first | apply Kd.R_alloc | apply Kd.R_drewN | apply Kd.R_drew)); exact Kd.R_mono HO_4.out (fun _ hk => hk.2))); (case aS => exact (below_size Z24)); (case aL => have := LMc14.out; omega); intro nM iM ho hb hg hat; rw [← Ny111.out] at ho; have jw := Aside0.mk (ho); replace cB := Aside0.mk (blk_grown (g := dK) (o := .cells #[.int .i64 ((rd_T48 l0 cb).f0), .string ((rd_T48 l0 cb).f1)] 48 (0, 0)) Z44 hg (Kd.R_ne HO_4.out cB.out Z21)); replace hO := Aside0.mk (Kd.R_after (ok := (fun _ => True)) (by (with_reducible repeat (first | apply Kd.R_alloc | apply Kd.R_drewN | apply Kd.R_drew)); exact hO.out) hg hat); replace HB := Aside0.mk (hb); clear HO_4; clear ho hb hg hat; have hcz22_0 : iM.cell? ⟨dK, 0, none⟩ = some (.int .i64 ((rd_T48 l0 cb).f0)) := (blk_cell cB.out 0).trans rfl; have hcz22_1 : iM.cell? ⟨dK, 1, none⟩ = some (.string ((rd_T48 l0 cb).f1)) := (blk_cell cB.out 1).trans rfl; have hfz22_0 := blk_frozen cB.out 0; have hfz22_1 := blk_frozen cB.out 1) | (at_builtin; refine print_append_str (w0 := w) w.heap.size rfl (.tmp 29) _ 51 9 5 rfl Try.underlying51 Try.underlying9 info5 nM gA ((rd_T48 l0 cb).f1) rfl rfl ?aO ?aB ?aS ?aL ?_; (case aB => exact Z24); (case aO => exact (Kd.own_of_R (by (with_reducible repeat (first | apply Kd.R_alloc | apply Kd.R_drewN | apply Kd.R_drew)); exact Kd.R_mono jw.out (fun _ hk => trivial)))); (case aS => exact (below_size Z24)); (case aL => have := LMc15.out; omega); intro nN gW ho0 hb hg; have ho := Kd.R_of_own (h1 := fun _ => rfl) (ok := fun _ => True) ho0 (fun _ _ => trivial); clear ho0; have hat := True.intro; rw [← Ny114.out] at ho; change Kd.R (Kd.int .u8) 5 gW w.heap.size (fun _ => True) nN lc at ho; have mq := Aside0.mk (ho); replace cB := Aside0.mk (blk_grown (g := dK) (o := .cells #[.int .i64 ((rd_T48 l0 cb).f0), .string ((rd_T48 l0 cb).f1)] 48 (0, 0)) Z44 hg (Kd.R_ne jw.out cB.out Z21)); replace HB := Aside0.mk (hb); clear jw; clear ho hb hg hat))
           go_roundg k1
           case measure => have := HK1.out; omega
           case rel => exact ⟨(lc), (wrap64 (cb + 1)), Z10, H', ⟨Z49⟩, ⟨by (with_reducible repeat (first | apply Kd.R_alloc | apply Kd.R_drewN | apply Kd.R_drew)); exact mq.out⟩, ⟨Z24⟩⟩
          ·rw [if_neg dA] at H
           exact absurd H Z35
         ·rw [if_neg dQ] at H
          exact absurd H Z35
        ·rw [if_neg dB] at H
         exact absurd H Z35
       ·rw [if_neg dP] at H
        exact absurd H Z35
      ·rw [if_neg dC] at H
       have fg : decide (cb < (l0.length : Int)) = false := decide_eq_false dC
       clear dC
       simp only [Option.some.injEq, Prod.mk.injEq] at H
       obtain ⟨rfl, rfl⟩ := H
       have hcv24 := own_string (P := Try.prog) Try.underlying51 Try.underlying5 Try.underlying9 (Kd.own_of_R HO_4.out)
       go_wp2
       go_ret2
       exact ⟨Z6, Z2⟩
   ·rw [if_neg c6] at H
    exact absurd H Z35
  ·rw [if_neg c5] at H
   exact absurd H Z35
 ·replace c3 := Bool.eq_false_iff.mpr c3
  subst c3
  have H1 : (some ((⟨#[]⟩ : ByteArray), false)) = some (r1, r2) := by rw [if_neg (show ¬ (false = true) by decide)] at H; exact H
  clear H
  have H := H1
  clear H1
  simp only [Option.some.injEq, Prod.mk.injEq] at H
  obtain ⟨rfl, rfl⟩ := H
  go_enter Try.func49, Try.ntmps49
  go_wp2_with (first | ((with_reducible refine gate_callee (f := 55) rfl ?_); refine goesL_ (some 8) rfl rfl Try.func55 Z11 rfl #[.slice A0 l0.length c0] rfl Z4 ?_; (with_reducible refine (ext_Right.calls k _ _ l0 false _ ?side1 ?side2 A2.out).mono ?_); (case side1 => exact Z22); (case side2 => exact gj.out); rintro e hX ⟨rfl, hb⟩; refine ⟨_, rfl, ?_⟩; replace HB := Aside0.mk (below_step Z2 hb); clear hb))
  go_ret2
  exact ⟨Z6, Z2⟩

/-! ### octet_Put: function 67 -/
def octet_Put.l0 : Nat → Int → List Int → Int → Option (ByteArray × Bool)
 | 0, _, _, _ => none
 | k + 1, x0, x6, x7 => if x7 ≥ 0 then (if 0 ≤ x7 then (if x7 < (x6.length : Int) then (octet_Put.l0 k (x0 / 256) (x6.set (x7 : Int).toNat ((x0) % 256)) (wrap64 (x7 - 1))) else (none)) else (none)) else (some (strOfNums x6, true))
def octet_Put.f (k : Nat) (a0 : Int) (a1 : Int) : Option (ByteArray × Bool) := (octet_Fits.f a0 a1).bind fun bU => (if bU = true then (if 0 ≤ a1 then (if (a1 : Int).toNat ≤ 281474976710656 then (octet_Put.l0 k a0 (List.replicate (a1 : Int).toNat 0) (wrap64 (a1 - 1))) else (none)) else (none)) else (some ((⟨#[]⟩ : ByteArray), false)))
theorem octet_Put.mono_l : ∀ k, (∀ y0 y1 y2, LeO (octet_Put.l0 k y0 y1 y2) (octet_Put.l0 (k + 1) y0 y1 y2))
 | 0 => Sq.mz
 | k + 1 => by
  have ih0 := octet_Put.mono_l k
  ·intros
   unfold octet_Put.l0
   exact Sq.mo
theorem octet_Put.mono : ∀ a0 a1 k, LeO (octet_Put.f k a0 a1) (octet_Put.f (k + 1) a0 a1) := by
 intro a0 a1 k
 have ih0 := octet_Put.mono_l k
 unfold octet_Put.f
 exact Sq.mo
set_option maxHeartbeats 8000000 in
set_option maxRecDepth 100000 in
theorem octet_Put.calls (k : Nat) (a0 : Int) (a1 : Int) (r1 : ByteArray) (r2 : Bool) (w : World) (h : octet_Put.f k a0 a1 = some (r1, r2)) :
  Calls Try.prog 67 #[.int .i64 a0, .int .i64 a1] w fun e w' => e = .returned (.tuple #[.string r1, .bool r2]) ∧ Below w.heap.size w w' := by
 have HB := Aside0.mk (Below.refl w.heap.size w)
 have H : ((octet_Fits.f a0 a1).bind fun bU => (if bU = true then (if 0 ≤ a1 then (if (a1 : Int).toNat ≤ 281474976710656 then (octet_Put.l0 k a0 (List.replicate (a1 : Int).toNat 0) (wrap64 (a1 - 1))) else (none)) else (none)) else (some ((⟨#[]⟩ : ByteArray), false)))) = some (r1, r2) := h
 clear h
 replace H := Option.bind_eq_some_iff.mp H
 obtain ⟨bU, ic, H⟩ := H
 replace H : (if bU = true then (if 0 ≤ a1 then (if (a1 : Int).toNat ≤ 281474976710656 then (octet_Put.l0 k a0 (List.replicate (a1 : Int).toNat 0) (wrap64 (a1 - 1))) else (none)) else (none)) else (some ((⟨#[]⟩ : ByteArray), false))) = some (r1, r2) := H
 have A3 := Aside0.mk ic
 clear ic
 by_cases c4 : bU = true
 ·subst c4
  have H1 : (if 0 ≤ a1 then (if (a1 : Int).toNat ≤ 281474976710656 then (octet_Put.l0 k a0 (List.replicate (a1 : Int).toNat 0) (wrap64 (a1 - 1))) else (none)) else (none)) = some (r1, r2) := by rw [if_pos rfl] at H; exact H
  clear H
  have H := H1
  clear H1
  by_cases c5 : 0 ≤ a1
  ·rw [if_pos c5] at H
   have dx := eq_true c5
   have fJ : decide (0 ≤ a1) = true := decide_eq_true c5
   clear c5
   by_cases c6 : (a1 : Int).toNat ≤ 281474976710656
   ·rw [if_pos c6] at H
    have dW := eq_true c6
    have ft : decide ((a1 : Int).toNat ≤ 281474976710656) = true := decide_eq_true c6
    clear c6
    obtain ⟨gc, hy102⟩ : ∃ y_ : List Int, y_ = (List.replicate (a1 : Int).toNat 0) := ⟨_, rfl⟩
    replace H : (octet_Put.l0 k a0 gc (wrap64 (a1 - 1))) = some (r1, r2) := by first | (rw [hy102]; with_reducible exact H) | (have H2_ := (Option.bind_some _ _).symm.trans H; rw [hy102]; with_reducible exact H2_) | (have H2_ := (Option.bind_some _ _).symm.trans H; with_reducible exact H2_) | with_reducible exact H | (rw [hy102]; exact H) | exact H
    have Ny102 := Aside0.mk hy102
    clear hy102
    have H' := Aside0.mk H
    clear H
    go_enter Try.func67, Try.ntmps67
    go_wp2_with (first | ((with_reducible refine gate_callee (f := 54) rfl ?_); refine goesL_ (some 10) rfl rfl Try.func54 Z11 rfl #[.int .i64 a0, .int .i64 a1] rfl Z4 ?_; (with_reducible refine (octet_Fits.calls a0 a1 true _ A3.out).mono ?_); rintro e w' ⟨rfl, ⟨nd, rfl⟩⟩; refine ⟨_, rfl, ?_⟩) | ((with_reducible refine gate_dst (N := 13) rfl ?_); refine Kd.R_make (Kd.int .u8) _ 5 rfl (N := 13) rfl 51 _ _ rfl a1 rfl rfl Try.underlying51 (.int .u8 0) 1 info5 rfl Z21 Z29 0 (ok := fun _ => True) (okp := fun _ => True) rfl (fun _ hk => hk) trivial (of_decide_eq_true Z8) (Nat.le_trans (Nat.mul_le_mul_right _ (of_decide_eq_true Z8 : a1.toNat ≤ 281474976710656)) Z29) (Below.refl _ _) (Nat.le_refl _) ?_; intro mL w7 ho8 hb hg_ hnew_; clear hg_ hnew_; (first | rw [← Ny102.out] at ho8 | (simp only [Int.reduceToNat] at ho8; rw [← Ny102.out] at ho8)); have jE := Aside0.mk (Kd.R_lower ho8 (below_size Z2)); replace HB := Aside0.mk (below_step Z2 hb); clear hb ho8))
    go_loopg [0, 7] k (fun kq v0 v7 w' => ∃ (fe : Int) (fo : List Int) (bW : Int), v0 = .int .i64 fe ∧ v7 = .int .i64 bW ∧ Aside0 (octet_Put.l0 kq fe fo bW = some (r1, r2)) ∧ Aside0 (kq ≤ k) ∧ Aside0 (Kd.R (Kd.int .u8) 5 w' w.heap.size (fun _ => True) mL fo) ∧ Aside0 (Below w.heap.size w w'))
    case atStart => exact ⟨(a0), (gc), (wrap64 (a1 - 1)), Z10, Z10, H', ⟨Nat.le_refl _⟩, ⟨by (with_reducible repeat (first | apply Kd.R_alloc | apply Kd.R_drewN | apply Kd.R_drew)); exact jE.out⟩, ⟨Z2⟩⟩
    case round =>
     clear H'
     try clear p2
     try clear c4
     try clear c5
     try clear dx
     try clear fJ
     try clear c6
     try clear dW
     try clear ft
     try clear p6
     obtain ⟨fe, fo, bW, rfl, rfl, HA, HK1, HO_6, HB⟩ := hrel
     cases gk with
     | zero => exact absurd HA.out (by simp [octet_Put.l0])
     | succ k1 =>
      have H := HA.out
      clear HA
      simp only [octet_Put.l0] at H
      by_cases c9 : bW ≥ 0
      ·rw [if_pos c9] at H
       have ga : decide (0 ≤ bW) = true := decide_eq_true c9
       clear c9
       by_cases dv : 0 ≤ bW
       ·rw [if_pos dv] at H
        have eS : decide (0 ≤ bW) = true := decide_eq_true dv
        clear dv
        by_cases dC : bW < (fo.length : Int)
        ·rw [if_pos dC] at H
         have fg : decide (bW < (fo.length : Int)) = true := decide_eq_true dC
         clear dC
         obtain ⟨aI, hy105⟩ : ∃ y_ : List Int, y_ = (fo.set (bW : Int).toNat ((fe) % 256)) := ⟨_, rfl⟩
         replace H : (octet_Put.l0 k1 (fe / 256) aI (wrap64 (bW - 1))) = some (r1, r2) := by first | (rw [hy105]; with_reducible exact H) | (have H2_ := (Option.bind_some _ _).symm.trans H; rw [hy105]; with_reducible exact H2_) | (have H2_ := (Option.bind_some _ _).symm.trans H; with_reducible exact H2_) | with_reducible exact H | (rw [hy105]; exact H) | exact H
         have Ny105 := Aside0.mk hy105
         clear hy105
         have H' := Aside0.mk H
         clear H
         have p12 : 0 ≤ (bW : Int) := of_decide_eq_true Z8
         have q12 : (bW : Int) < ((fo.length : Int) : Int) := of_decide_eq_true Z8
         obtain ⟨go12, jV, eo12, mM, gl12, cl12, HG12⟩ := Kd.R_form HO_6.out Z29
         (first | cases eo12 | (injection eo12 with ea_ en_ ec_; (first | subst ea_ | (injection ea_ with ea_; subst ea_)); subst ec_; clear en_))
         have GB12 := Aside0.mk mM
         have GG12 := Aside0.mk HG12
         clear mM gl12 HG12
         obtain ⟨hx12_0, hf12_0⟩ := Kd.R_celln 0 HO_6.out (bW : Int) p12 q12
         replace p12 := eq_true p12
         replace q12 := eq_true q12
         have HP13 := Kd.R_putg HO_6.out (bW : Int) ((fe) % 256)
         go_wp2_with (first | ((with_reducible refine gate_store (t := 5) (p := 24) rfl ?_); refine store_event (t := 5) (p := 24) (v := ?vo_w14) (w1 := (wr.setCell ⟨go12, (bW : Int).toNat, none⟩ (.int .u8 ((fe) % 256)))) ?hg ?ho ?hn ?hr ?_; (case ho => rfl); (case hg => rfl); (case hn => rfl); (case hr => first | (go_simp; done) | (go_simp; rfl)); intro kJ hw; have hg : wr.grownBy kJ (some go12) := (by rw [hw]; exact HP13.2); have hp_ : Kd.R (Kd.int .u8) 5 kJ w.heap.size (fun _ => True) (.slice (some ⟨go12, 0, none⟩) fo.length jV) aI := (by rw [hw, Ny105.out]; exact HP13.1); clear HP13; replace HO_6 := Aside0.mk (hp_); replace HB := Aside0.mk ((by rw [hw]; exact below_set (HB.out) GB12.out : Below w.heap.size w kJ)); clear hg hw hp_))
         go_roundg k1
         case measure => have := HK1.out; omega
         case rel => exact ⟨(fe / 256), (aI), (wrap64 (bW - 1)), Z10, Z10, H', ⟨Z49⟩, ⟨by (with_reducible repeat (first | apply Kd.R_alloc | apply Kd.R_drewN | apply Kd.R_drew)); exact HO_6.out⟩, ⟨Z2⟩⟩
        ·rw [if_neg dC] at H
         exact absurd H Z35
       ·rw [if_neg dv] at H
        exact absurd H Z35
      ·rw [if_neg c9] at H
       have ga : decide (0 ≤ bW) = false := decide_eq_false c9
       clear c9
       simp only [Option.some.injEq, Prod.mk.injEq] at H
       obtain ⟨rfl, rfl⟩ := H
       have hcv15 := own_string (P := Try.prog) Try.underlying51 Try.underlying5 Try.underlying9 (Kd.own_of_R HO_6.out)
       go_wp2
       go_ret2
       exact ⟨Z6, Z2⟩
   ·rw [if_neg c6] at H
    exact absurd H Z35
  ·rw [if_neg c5] at H
   exact absurd H Z35
 ·replace c4 := Bool.eq_false_iff.mpr c4
  subst c4
  have H1 : (some ((⟨#[]⟩ : ByteArray), false)) = some (r1, r2) := by rw [if_neg (show ¬ (false = true) by decide)] at H; exact H
  clear H
  have H := H1
  clear H1
  simp only [Option.some.injEq, Prod.mk.injEq] at H
  obtain ⟨rfl, rfl⟩ := H
  go_enter Try.func67, Try.ntmps67
  go_wp2_with (first | ((with_reducible refine gate_callee (f := 54) rfl ?_); refine goesL_ (some 10) rfl rfl Try.func54 Z11 rfl #[.int .i64 a0, .int .i64 a1] rfl Z4 ?_; (with_reducible refine (octet_Fits.calls a0 a1 false _ A3.out).mono ?_); rintro e w' ⟨rfl, ⟨nd, rfl⟩⟩; refine ⟨_, rfl, ?_⟩))
  go_ret2
  exact ⟨Z6, Z2⟩

/-! ### roadbookref02_Fits: function 57 -/
mutual
def roadbookref02_Fits.j0 : Nat → Int → Int → Bool → Option (Bool)
 | 0, _, _, _ => none
 | k + 1, x0, x1, nT => if nT = true then (some false) else (roadbookref02_Fits.l0 k x0 x1 1 0)
def roadbookref02_Fits.l0 : Nat → Int → Int → Int → Int → Option (Bool)
 | 0, _, _, _, _ => none
 | k + 1, x0, x1, x5, x6 => if x6 < x1 then (roadbookref02_Fits.l0 k x0 x1 (wrap64 (x5 * 256)) (wrap64 (x6 + 1))) else (some (decide (x0 < x5)))
end
def roadbookref02_Fits.f (k : Nat) (a0 : Int) (a1 : Int) : Option (Bool) := if a1 < 1 then (roadbookref02_Fits.j0 k a0 a1 true) else (if a1 > 7 then (roadbookref02_Fits.j0 k a0 a1 true) else (roadbookref02_Fits.j0 k a0 a1 (decide (a0 < 0))))
theorem roadbookref02_Fits.mono_l : ∀ k, (∀ y0 y1 y2, LeO (roadbookref02_Fits.j0 k y0 y1 y2) (roadbookref02_Fits.j0 (k + 1) y0 y1 y2)) ∧ (∀ y0 y1 y2 y3, LeO (roadbookref02_Fits.l0 k y0 y1 y2 y3) (roadbookref02_Fits.l0 (k + 1) y0 y1 y2 y3))
 | 0 => ⟨Sq.mz, Sq.mz⟩
 | k + 1 => by
  obtain ⟨ih0, ih1⟩ := roadbookref02_Fits.mono_l k
  refine ⟨?_, ?_⟩
  ·intros
   unfold roadbookref02_Fits.j0
   exact Sq.mo
  ·intros
   unfold roadbookref02_Fits.l0
   exact Sq.mo
theorem roadbookref02_Fits.mono : ∀ a0 a1 k, LeO (roadbookref02_Fits.f k a0 a1) (roadbookref02_Fits.f (k + 1) a0 a1) := by
 intro a0 a1 k
 obtain ⟨ih0, ih1⟩ := roadbookref02_Fits.mono_l k
 unfold roadbookref02_Fits.f
 exact Sq.mo
set_option maxHeartbeats 8000000 in
set_option maxRecDepth 100000 in
theorem roadbookref02_Fits.calls (k : Nat) (a0 : Int) (a1 : Int) (r : Bool) (w : World) (h : roadbookref02_Fits.f k a0 a1 = some r) :
  Calls Try.prog 57 #[.int .i64 a0, .int .i64 a1] w fun e w' => e = .returned (.bool r) ∧ Drawn0 w w' := by
 have H : (if a1 < 1 then (roadbookref02_Fits.j0 k a0 a1 true) else (if a1 > 7 then (roadbookref02_Fits.j0 k a0 a1 true) else (roadbookref02_Fits.j0 k a0 a1 (decide (a0 < 0))))) = some r := h
 clear h
 have dh := Aside0.mk H
 clear H
 go_enter Try.func57, Try.ntmps57
 go_upto_region 1 with (fail)
 go_cut [16] (fun hY wc => ∃ (kq : Nat) (iC : Bool), hY = .bool iC ∧ Aside0 (roadbookref02_Fits.j0 kq a0 a1 iC = some r) ∧ Aside0 (kq ≤ k) ∧ Drawn0 w wc)
 case first =>
  have H := dh.out
  clear dh
  by_cases c4 : a1 < 1
  ·rw [if_pos c4] at H
   have cf : decide (a1 < 1) = true := decide_eq_true c4
   clear c4
   (first | rw [cf] | (simp only [i64_w, i32_w]; rw [cf]) | skip)
   have H' := Aside0.mk H
   clear H
   go_wp2
   go_meet
   case rel => exact ⟨_, (true), Z10, H', ⟨Z20⟩, Z16⟩
  ·rw [if_neg c4] at H
   have cf : decide (a1 < 1) = false := decide_eq_false c4
   clear c4
   (first | rw [cf] | (simp only [i64_w, i32_w]; rw [cf]) | skip)
   by_cases c5 : a1 > 7
   ·rw [if_pos c5] at H
    have dx : decide (7 < a1) = true := decide_eq_true c5
    clear c5
    have H' := Aside0.mk H
    clear H
    go_wp2
    go_meet
    case rel => exact ⟨_, (true), Z10, H', ⟨Z20⟩, Z16⟩
   ·rw [if_neg c5] at H
    have dx : decide (7 < a1) = false := decide_eq_false c5
    clear c5
    have H' := Aside0.mk H
    clear H
    go_wp2
    go_meet
    case rel => exact ⟨_, (decide (a0 < 0)), Z10, H', ⟨Z20⟩, Z16⟩
 case rest =>
  clear dh
  try clear c5
  obtain ⟨kq, iC, rfl, HA, nx, ⟨mc2, rfl⟩⟩ := hcut
  cases kq with
  | zero => exact absurd HA.out (by simp [roadbookref02_Fits.j0])
  | succ kj2 =>
   have H := HA.out
   clear HA
   simp only [roadbookref02_Fits.j0] at H
   by_cases c6 : iC = true
   ·subst c6
    replace H := Sq.itT H
    obtain rfl := Option.some.inj H
    go_wp2
    go_ret
    exact ⟨Z10, Z16⟩
   ·replace c6 := Bool.eq_false_iff.mpr c6
    subst c6
    replace H := Sq.itF H
    have H' := Aside0.mk H
    clear H
    go_wp2
    go_loopg [5, 6] kj2 (fun kq v5 v6 w' => ∃ (kg : Int) (hZ : Int), v5 = .int .i64 kg ∧ v6 = .int .i64 hZ ∧ Aside0 (roadbookref02_Fits.l0 kq a0 a1 kg hZ = some r) ∧ Aside0 (kq ≤ kj2) ∧ Drawn0 w w')
    case atStart => exact ⟨(1), (0), Z10, Z10, H', ⟨Nat.le_refl _⟩, Z16⟩
    case round =>
     clear H'
     try clear c2
     try clear p2
     try clear c4
     try clear cf
     try clear c5
     try clear dx
     try clear c6
     obtain ⟨kg, hZ, rfl, rfl, HA, HK2, ⟨m2, rfl⟩⟩ := hrel
     cases gk with
     | zero => exact absurd HA.out (by simp [roadbookref02_Fits.l0])
     | succ k2 =>
      have H := HA.out
      clear HA
      simp only [roadbookref02_Fits.l0] at H
      by_cases c7 : hZ < a1
      ·rw [if_pos c7] at H
       have dT : decide (hZ < a1) = true := decide_eq_true c7
       clear c7
       have H' := Aside0.mk H
       clear H
       go_wp2
       go_roundg k2
       case measure => have := nx.out; have := HK2.out; omega
       case rel => exact ⟨(wrap64 (kg * 256)), (wrap64 (hZ + 1)), Z10, Z10, H', ⟨by have := nx.out; have := HK2.out; omega⟩, Z16⟩
      ·rw [if_neg c7] at H
       have dT : decide (hZ < a1) = false := decide_eq_false c7
       clear c7
       obtain rfl := Option.some.inj H
       go_wp2
       go_ret
       exact ⟨Z10, Z16⟩

/-! ### roadbookref02_Put: function 72 -/
def roadbookref02_Put.l0 : Nat → Int → Int → ByteArray → Int → Option (ByteArray × Bool)
 | 0, _, _, _, _ => none
 | k + 1, x0, x1, x6, x7 => if x7 < x1 then ((some (([(Int.tmod x0 256) % 256] : List Int) : List Int)).bind fun gc => (if (strOfNums gc).size + x6.size ≤ 9223372036854775807 then (roadbookref02_Put.l0 k (wrap64 (Int.tdiv x0 256)) x1 ((strOfNums gc) ++ x6) (wrap64 (x7 + 1))) else (none))) else (some (x6, true))
def roadbookref02_Put.f (k : Nat) (a0 : Int) (a1 : Int) : Option (ByteArray × Bool) := (roadbookref02_Fits.f k a0 a1).bind fun bU => (if bU = true then (roadbookref02_Put.l0 k a0 a1 (⟨#[]⟩ : ByteArray) 0) else (some ((⟨#[]⟩ : ByteArray), false)))
theorem roadbookref02_Put.mono_l : ∀ k, (∀ y0 y1 y2 y3, LeO (roadbookref02_Put.l0 k y0 y1 y2 y3) (roadbookref02_Put.l0 (k + 1) y0 y1 y2 y3))
 | 0 => Sq.mz
 | k + 1 => by
  have ih0 := roadbookref02_Put.mono_l k
  ·intros
   unfold roadbookref02_Put.l0
   have m0 := roadbookref02_Fits.mono
   exact Sq.mo
theorem roadbookref02_Put.mono : ∀ a0 a1 k, LeO (roadbookref02_Put.f k a0 a1) (roadbookref02_Put.f (k + 1) a0 a1) := by
 intro a0 a1 k
 have ih0 := roadbookref02_Put.mono_l k
 unfold roadbookref02_Put.f
 have m0 := roadbookref02_Fits.mono
 exact Sq.mo
set_option maxHeartbeats 8000000 in
set_option maxRecDepth 100000 in
theorem roadbookref02_Put.calls (k : Nat) (a0 : Int) (a1 : Int) (r1 : ByteArray) (r2 : Bool) (w : World) (h : roadbookref02_Put.f k a0 a1 = some (r1, r2)) :
  Calls Try.prog 72 #[.int .i64 a0, .int .i64 a1] w fun e w' => e = .returned (.tuple #[.string r1, .bool r2]) ∧ Below w.heap.size w w' := by
 have HB := Aside0.mk (Below.refl w.heap.size w)
 have H : ((roadbookref02_Fits.f k a0 a1).bind fun bU => (if bU = true then (roadbookref02_Put.l0 k a0 a1 (⟨#[]⟩ : ByteArray) 0) else (some ((⟨#[]⟩ : ByteArray), false)))) = some (r1, r2) := h
 clear h
 replace H := Option.bind_eq_some_iff.mp H
 obtain ⟨bU, ic, H⟩ := H
 replace H : (if bU = true then (roadbookref02_Put.l0 k a0 a1 (⟨#[]⟩ : ByteArray) 0) else (some ((⟨#[]⟩ : ByteArray), false))) = some (r1, r2) := H
 have A3 := Aside0.mk ic
 clear ic
 by_cases c4 : bU = true
 ·subst c4
  have H1 : (roadbookref02_Put.l0 k a0 a1 (⟨#[]⟩ : ByteArray) 0) = some (r1, r2) := by rw [if_pos rfl] at H; exact H
  clear H
  have H := H1
  clear H1
  have H' := Aside0.mk H
  clear H
  go_enter Try.func72, Try.ntmps72
  go_wp2_with (first | ((with_reducible refine gate_callee (f := 57) rfl ?_); refine goesL_ (some 10) rfl rfl Try.func57 Z11 rfl #[.int .i64 a0, .int .i64 a1] rfl Z4 ?_; (with_reducible refine (roadbookref02_Fits.calls k a0 a1 true _ A3.out).mono ?_); rintro e w' ⟨rfl, ⟨nd, rfl⟩⟩; refine ⟨_, rfl, ?_⟩))
  go_loopg [0, 6, 7] k (fun kq v0 v6 v7 w' => ∃ (fe : Int) (fo : ByteArray) (bW : Int), v0 = .int .i64 fe ∧ v6 = .string fo ∧ v7 = .int .i64 bW ∧ Aside0 (roadbookref02_Put.l0 kq fe a1 fo bW = some (r1, r2)) ∧ Aside0 (kq ≤ k) ∧ Aside0 (Below w.heap.size w w'))
  case atStart => exact ⟨(a0), ((⟨#[]⟩ : ByteArray)), (0), Z10, Z10, Z10, H', ⟨Nat.le_refl _⟩, ⟨Z2⟩⟩
  case round =>
   clear H'
   try clear p2
   try clear c4
   obtain ⟨fe, fo, bW, rfl, rfl, rfl, HA, HK1, HB⟩ := hrel
   cases gk with
   | zero => exact absurd HA.out (by simp [roadbookref02_Put.l0])
   | succ k1 =>
    have H := HA.out
    clear HA
    simp only [roadbookref02_Put.l0] at H
    by_cases c5 : bW < a1
    ·rw [if_pos c5] at H
     have dx : decide (bW < a1) = true := decide_eq_true c5
     clear c5
     obtain ⟨gc, hy102⟩ : ∃ y_ : List Int, y_ = (([(Int.tmod fe 256) % 256] : List Int)) := ⟨_, rfl⟩
     replace H : (if (strOfNums gc).size + fo.size ≤ 9223372036854775807 then (roadbookref02_Put.l0 k1 (wrap64 (Int.tdiv fe 256)) a1 ((strOfNums gc) ++ fo) (wrap64 (bW + 1))) else (none)) = some (r1, r2) := by first | (rw [hy102]; with_reducible exact H) | (have H2_ := (Option.bind_some _ _).symm.trans H; rw [hy102]; with_reducible exact H2_) | (have H2_ := (Option.bind_some _ _).symm.trans H; with_reducible exact H2_) | with_reducible exact H | (rw [hy102]; exact H) | exact H
     have Ny102 := Aside0.mk hy102
     clear hy102
     by_cases c6 : (strOfNums gc).size + fo.size ≤ 9223372036854775807
     ·rw [if_pos c6] at H
      have dW := eq_true c6
      have ft : decide ((strOfNums gc).size + fo.size ≤ 9223372036854775807) = true := decide_eq_true c6
      try have ha : (9223372036854775807 < (strOfNums gc).size + fo.size) = False := eq_false (Nat.not_lt.2 c6)
      try (have hf := ha; simp only [ByteArray.size_append] at hf)
      have H' := Aside0.mk H
      clear H
      go_wp2_with (first | ((with_reducible refine gate_dst (N := 20) rfl ?_); refine Kd.R_lit (Kd.int .u8) _ 5 ?hg (N := 20) ?hd (xs := ([(Int.tmod fe 256) % 256] : List Int)) (inner := [.int .u8 ((Int.tmod fe 256) % 256)]) (ok := fun _ => True) (okp := fun _ => True) ?hr ?hp (fun _ hk => hk) trivial (Below.refl _ _) (Nat.le_refl _) Z35 ?_; (case hd => rfl); (case hg => rfl); (case hr => first | (go_simp; done) | (go_simp; rfl)); (case hp => exact (Reps.one (show Kd.M (Kd.int .u8) _ _ _ ((Int.tmod fe 256) % 256) [.int .u8 ((Int.tmod fe 256) % 256)] from rfl) (Reps.none _ _))); intro mL w7 ho8 hb hg_ hnew_; clear hg_ hnew_; (first | rw [← Ny102.out] at ho8 | (simp only [Int.reduceToNat] at ho8; rw [← Ny102.out] at ho8)); have jE := Aside0.mk (Kd.R_lower ho8 (below_size Z2)); replace HB := Aside0.mk (below_step Z2 hb); clear hb ho8; have hcv9 := own_string (P := Try.prog) Try.underlying51 Try.underlying5 Try.underlying9 (Kd.own_of_R jE.out)))
      go_roundg k1
      case measure => have := HK1.out; omega
      case rel => exact ⟨(wrap64 (Int.tdiv fe 256)), ((strOfNums gc) ++ fo), (wrap64 (bW + 1)), Z10, Z10, Z10, H', ⟨Z49⟩, ⟨Z2⟩⟩
     ·rw [if_neg c6] at H
      exact absurd H Z35
    ·rw [if_neg c5] at H
     have dx : decide (bW < a1) = false := decide_eq_false c5
     clear c5
     simp only [Option.some.injEq, Prod.mk.injEq] at H
     obtain ⟨rfl, rfl⟩ := H
     go_wp2
     go_ret2
     exact ⟨Z6, Z2⟩
 ·replace c4 := Bool.eq_false_iff.mpr c4
  subst c4
  have H1 : (some ((⟨#[]⟩ : ByteArray), false)) = some (r1, r2) := by rw [if_neg (show ¬ (false = true) by decide)] at H; exact H
  clear H
  have H := H1
  clear H1
  simp only [Option.some.injEq, Prod.mk.injEq] at H
  obtain ⟨rfl, rfl⟩ := H
  go_enter Try.func72, Try.ntmps72
  go_wp2_with (first | ((with_reducible refine gate_callee (f := 57) rfl ?_); refine goesL_ (some 10) rfl rfl Try.func57 Z11 rfl #[.int .i64 a0, .int .i64 a1] rfl Z4 ?_; (with_reducible refine (roadbookref02_Fits.calls k a0 a1 false _ A3.out).mono ?_); rintro e w' ⟨rfl, ⟨nd, rfl⟩⟩; refine ⟨_, rfl, ?_⟩))
  go_ret2
  exact ⟨Z6, Z2⟩

/-! ### roadbookref02_Of: function 52 -/
def roadbookref02_Of.f (k : Nat) (a0 : Int) (a1 : Int) : Option (ByteArray) := (roadbookref02_Put.f k a0 a1).bind fun bh => (some bh.1)
theorem roadbookref02_Of.mono : ∀ a0 a1 k, LeO (roadbookref02_Of.f k a0 a1) (roadbookref02_Of.f (k + 1) a0 a1) := by
 intro a0 a1 k
 unfold roadbookref02_Of.f
 have m0 := roadbookref02_Put.mono
 exact Sq.mo
set_option maxHeartbeats 8000000 in
set_option maxRecDepth 100000 in
theorem roadbookref02_Of.calls (k : Nat) (a0 : Int) (a1 : Int) (r : ByteArray) (w : World) (h : roadbookref02_Of.f k a0 a1 = some r) :
  Calls Try.prog 52 #[.int .i64 a0, .int .i64 a1] w fun e w' => e = .returned (.string r) ∧ Below w.heap.size w w' := by
 have HB := Aside0.mk (Below.refl w.heap.size w)
 have H : ((roadbookref02_Put.f k a0 a1).bind fun bh => (some bh.1)) = some r := h
 clear h
 replace H := Option.bind_eq_some_iff.mp H
 obtain ⟨⟨bU, aU⟩, ic, H⟩ := H
 replace H : (some bU) = some r := H
 have A3 := Aside0.mk ic
 clear ic
 obtain rfl := Option.some.inj H
 go_enter Try.func52, Try.ntmps52
 go_wp2_with (first | ((with_reducible refine gate_callee (f := 72) rfl ?_); refine goesL_ (some 10) rfl rfl Try.func72 Z11 rfl #[.int .i64 a0, .int .i64 a1] rfl Z4 ?_; (with_reducible refine (roadbookref02_Put.calls k a0 a1 bU aU _ A3.out).mono ?_); rintro e w4 ⟨rfl, hb⟩; refine ⟨_, rfl, ?_⟩; replace HB := Aside0.mk (below_step Z2 hb); clear hb))
 go_ret
 exact ⟨Z6, Z2⟩

end Go.Proofs.Ytccjakjjaemmkaa.PAE
