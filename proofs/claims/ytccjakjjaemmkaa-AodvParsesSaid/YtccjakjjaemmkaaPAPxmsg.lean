-- Written by mp.py, a program of this work (wip/tools), out of the translation; Lean checks it.
import Derived.Test.YtccjakjjaemmkaaPAPxZ
namespace Go.Proofs.Ytccjakjjaemmkaa.PAP
open Go.RowKit Go.Proofs.YtccjakjjaemmkaaW.PrintWords Go.Proofs.YtccjakjjaemmkaaW.PrintLast Go.Proofs.YtccjakjjaemmkaaW.PrintMore
attribute [local go_sem] max2_int min2_int max_two min_two max_three min_three max_four min_four   -- for this text's walks alone
set_option linter.unusedVariables false
set_option linter.unusedSimpArgs false

/-! ### msg_strip: function 73 -/
def msg_strip.f (ax : Int) (av : Int) (aw : Int) (ay : ByteArray) (aA : Int) (aH : Int) (aI : ByteArray) (aC : Int) (aD : Int) (aG : ByteArray) (au : Int) (ar : ByteArray) (ak : Int) (aj : Int) (ap : Int) (ah : Int) (ai : Int) (al : Int) (an : Int) (ac : ByteArray) (af : ByteArray) (ae : List (S46)) (ao : Int) (aq : ByteArray) (am : List (S48)) : Option (Int × Int × Int × Int × Int × Int × Int × Int × Int × Int × Int × Int × Int × Int × Int × Int × ByteArray × ByteArray × ByteArray × ByteArray × ByteArray × ByteArray × ByteArray) := some (ax, av, aw, aA, aH, aC, aD, au, ak, aj, ap, ah, ai, al, an, ao, ay, aI, aG, ar, ac, af, aq)
set_option maxRecDepth 100000 in
theorem msg_strip.bd49 (v0 : Int) (v1 : Int) (v2 : Int) (v3 : Int) (v4 : Int) (v5 : Int) (v6 : Int) (v7 : Int) (v8 : Int) (v9 : Int) (nx : Int) (md : Int) (ls : Int) (mt : Int) (mu : Int) (ig : Int) (iF : ByteArray) (lP : ByteArray) (ox : ByteArray) (lu : ByteArray) (lv : ByteArray) (fW : ByteArray) (ny : ByteArray) : Try.prog.built 71 [(0, .int .i64 v0), (1, .int .i64 v1), (2, .int .i64 v2), (3, .int .i64 v3), (4, .int .i64 v4), (5, .int .i64 v5), (6, .int .i64 v6), (7, .int .i64 v7), (8, .int .i64 v8), (9, .int .i64 v9), (10, .int .i64 nx), (11, .int .i64 md), (12, .int .i64 ls), (13, .int .i64 mt), (14, .int .i64 mu), (15, .int .i64 ig), (16, .string iF), (17, .string lP), (18, .string ox), (19, .string lu), (20, .string lv), (21, .string fW), (22, .string ny)] = some #[.int .i64 v0, .int .i64 v1, .int .i64 v2, .int .i64 v3, .int .i64 v4, .int .i64 v5, .int .i64 v6, .int .i64 v7, .int .i64 v8, .int .i64 v9, .int .i64 nx, .int .i64 md, .int .i64 ls, .int .i64 mt, .int .i64 mu, .int .i64 ig, .string iF, .string lP, .string ox, .string lu, .string lv, .string fW, .string ny] := by kernel_rfl
set_option maxHeartbeats 8000000 in
set_option maxRecDepth 100000 in
theorem msg_strip.calls (ax : Int) (av : Int) (aw : Int) (ay : ByteArray) (aA : Int) (aH : Int) (aI : ByteArray) (aC : Int) (aD : Int) (aG : ByteArray) (au : Int) (ar : ByteArray) (ak : Int) (aj : Int) (ap : Int) (ah : Int) (ai : Int) (al : Int) (an : Int) (ac : ByteArray) (af : ByteArray) (bs : Option Addr) (bq : Nat) (ae : List (S46)) (ao : Int) (aq : ByteArray) (bn : Option Addr) (bo : Nat) (am : List (S48)) (r1 : Int) (r2 : Int) (r3 : Int) (r4 : Int) (r5 : Int) (r6 : Int) (r7 : Int) (r8 : Int) (r9 : Int) (r10 : Int) (r11 : Int) (r12 : Int) (r13 : Int) (r14 : Int) (r15 : Int) (r16 : Int) (r17 : ByteArray) (r18 : ByteArray) (r19 : ByteArray) (r20 : ByteArray) (r21 : ByteArray) (r22 : ByteArray) (r23 : ByteArray) (w : World) (cD : Kd.C k46 w bs ae.length ae) (cE : ae.length ≤ bq) (cF : Kd.C k48 w bn am.length am) (cG : am.length ≤ bo) (h : msg_strip.f ax av aw ay aA aH aI aC aD aG au ar ak aj ap ah ai al an ac af ae ao aq am = some (r1, r2, r3, r4, r5, r6, r7, r8, r9, r10, r11, r12, r13, r14, r15, r16, r17, r18, r19, r20, r21, r22, r23)) :
  Calls Try.prog 73 #[.agg #[.int .i64 ax, .int .i64 av, .int .i64 aw, .string ay, .int .i64 aA, .int .i64 aH, .string aI, .int .i64 aC, .int .i64 aD, .string aG, .int .i64 au, .string ar, .int .i64 ak, .int .i64 aj, .int .i64 ap, .int .i64 ah, .int .i64 ai, .int .i64 al, .int .i64 an, .string ac, .string af, .slice bs ae.length bq, .int .i64 ao, .string aq, .slice bn am.length bo]] w fun e w' => e = .returned (.agg #[.int .i64 r1, .int .i64 r2, .int .i64 r3, .int .i64 r4, .int .i64 r5, .int .i64 r6, .int .i64 r7, .int .i64 r8, .int .i64 r9, .int .i64 r10, .int .i64 r11, .int .i64 r12, .int .i64 r13, .int .i64 r14, .int .i64 r15, .int .i64 r16, .string r17, .string r18, .string r19, .string r20, .string r21, .string r22, .string r23]) ∧ Below w.heap.size w w' := by
 have fn := Try.underlying25
 have sT := Try.underlying71
 have eL := Aside0.mk cD
 have bG := Aside0.mk cE
 clear cD cE
 have fb := Aside0.mk cF
 have bA := Aside0.mk cG
 clear cF cG
 have HB := Aside0.mk (Below.refl w.heap.size w)
 have H : (some (ax, av, aw, aA, aH, aC, aD, au, ak, aj, ap, ah, ai, al, an, ao, ay, aI, aG, ar, ac, af, aq)) = some (r1, r2, r3, r4, r5, r6, r7, r8, r9, r10, r11, r12, r13, r14, r15, r16, r17, r18, r19, r20, r21, r22, r23) := h
 clear h
 simp only [Option.some.injEq, Prod.mk.injEq] at H
 obtain ⟨rfl, rfl, rfl, rfl, rfl, rfl, rfl, rfl, rfl, rfl, rfl, rfl, rfl, rfl, rfl, rfl, rfl, rfl, rfl, rfl, rfl, rfl, rfl⟩ := H
 go_enter Try.func73, Try.ntmps73
 go_wp2_with (first | ((with_reducible refine gate_dst (N := 49) rfl ?_); refine Pre.build_event 49 71 [(0, Go.Operand.tmp 4), (1, Go.Operand.tmp 6), (2, Go.Operand.tmp 8), (3, Go.Operand.tmp 10), (4, Go.Operand.tmp 12), (5, Go.Operand.tmp 14), (6, Go.Operand.tmp 16), (7, Go.Operand.tmp 18), (8, Go.Operand.tmp 20), (9, Go.Operand.tmp 22), (10, Go.Operand.tmp 24), (11, Go.Operand.tmp 26), (12, Go.Operand.tmp 28), (13, Go.Operand.tmp 30), (14, Go.Operand.tmp 32), (15, Go.Operand.tmp 34), (16, Go.Operand.tmp 36), (17, Go.Operand.tmp 38), (18, Go.Operand.tmp 40), (19, Go.Operand.tmp 42), (20, Go.Operand.tmp 44), (21, Go.Operand.tmp 46), (22, Go.Operand.tmp 48)] rfl rfl rfl (msg_strip.bd49 _ _ _ _ _ _ _ _ _ _ _ _ _ _ _ _ _ _ _ _ _ _ _) ?_) | ((with_reducible refine gate_dst (N := 1) rfl ?_); refine Sq.box 1 #[.int .i64 ax, .int .i64 av, .int .i64 aw, .string ay, .int .i64 aA, .int .i64 aH, .string aI, .int .i64 aC, .int .i64 aD, .string aG, .int .i64 au, .string ar, .int .i64 ak, .int .i64 aj, .int .i64 ap, .int .i64 ah, .int .i64 ai, .int .i64 al, .int .i64 an, .string ac, .string af, .slice bs ae.length bq, .int .i64 ao, .string aq, .slice bn am.length bo] 25 ?_; intro ab hg w2 hbox hb; have aa := Aside0.mk (hbox); have bR := Aside0.mk (Sq.ge hg Z1); have bf := Aside0.mk (Sq.ge hg Z1); replace HB := Aside0.mk (below_step Z1 hb); clear hb hbox hg) | ((with_reducible refine gate_dst (N := 2) rfl ?_); refine Sq.box 2 #[.int .i64 0, .int .i64 0, .int .i64 0, .int .i64 0, .int .i64 0, .int .i64 0, .int .i64 0, .int .i64 0, .int .i64 0, .int .i64 0, .int .i64 0, .int .i64 0, .int .i64 0, .int .i64 0, .int .i64 0, .int .i64 0, .string ⟨#[]⟩, .string ⟨#[]⟩, .string ⟨#[]⟩, .string ⟨#[]⟩, .string ⟨#[]⟩, .string ⟨#[]⟩, .string ⟨#[]⟩] 71 ?_; intro aJ hg w3 hbox hb; have aN := Aside0.mk (hbox); have fw := Aside0.mk (Sq.ge hg Z0); have eC := Aside0.mk (Sq.ge hg Z0); have aW := Aside0.mk (Sq.nl hg (blk_lt (g := ab) Z2)); have bh := Aside0.mk (Sq.ng hg (blk_lt (g := ab) Z2)); replace aa := Aside0.mk (blk_below (g := ab) Z2 hb); replace HB := Aside0.mk (below_step Z0 hb); clear hb hbox hg; have hnb4 := aW.out; have hnc4 := bh.out; have mr := cells_25 aa.out; have sZ := cells_23 aN.out) | ((with_reducible refine Pre.gate_store 71 rfl ?_); refine Pre.store_abs (cur := #[.int .i64 0, .int .i64 0, .int .i64 0, .int .i64 0, .int .i64 0, .int .i64 0, .int .i64 0, .int .i64 0, .int .i64 0, .int .i64 0, .int .i64 0, .int .i64 0, .int .i64 0, .int .i64 0, .int .i64 0, .int .i64 0, .string ⟨#[]⟩, .string ⟨#[]⟩, .string ⟨#[]⟩, .string ⟨#[]⟩, .string ⟨#[]⟩, .string ⟨#[]⟩, .string ⟨#[]⟩]) (e := 71) rfl rfl rfl Z22 Z22 Z19 Z14 Z22 Z22 ?_; intro w7 hbS_ sS_; have bl : Aside0 (w7.heap[ab]? = some (.cells #[.int .i64 ax, .int .i64 av, .int .i64 aw, .string ay, .int .i64 aA, .int .i64 aH, .string aI, .int .i64 aC, .int .i64 aD, .string aG, .int .i64 au, .string ar, .int .i64 ak, .int .i64 aj, .int .i64 ap, .int .i64 ah, .int .i64 ai, .int .i64 al, .int .i64 an, .string ac, .string af, .slice bs ae.length bq, .int .i64 ao, .string aq, .slice bn am.length bo] 25 (0, 0))) := ⟨sS_.blk Z2 aW.out⟩; have bm : Aside0 (w7.heap[aJ]? = some (.cells #[.int .i64 ax, .int .i64 av, .int .i64 aw, .int .i64 aA, .int .i64 aH, .int .i64 aC, .int .i64 aD, .int .i64 au, .int .i64 ak, .int .i64 aj, .int .i64 ap, .int .i64 ah, .int .i64 ai, .int .i64 al, .int .i64 an, .int .i64 ao, .string ay, .string aI, .string aG, .string ar, .string ac, .string af, .string aq] 71 (0, 0))) := ⟨hbS_⟩; have bI : Aside0 (Below w.heap.size w w7) := ⟨sS_.below Z8 eC.out⟩; clear hbS_ sS_; replace aa := bl; replace aN := bm; replace HB := bI; clear bl bm bI))
 refine bodyPost_ret (results_cell_row rfl _ _ aJ 71 #[.int .i64 ax, .int .i64 av, .int .i64 aw, .int .i64 aA, .int .i64 aH, .int .i64 aC, .int .i64 aD, .int .i64 au, .int .i64 ak, .int .i64 aj, .int .i64 ap, .int .i64 ah, .int .i64 ai, .int .i64 al, .int .i64 an, .int .i64 ao, .string ay, .string aI, .string aG, .string ar, .string ac, .string af, .string aq] (0, 0) _ rfl Z19 Try.underlying71 rfl Z14) rfl ?_
 exact ⟨Z5, Z8⟩

/-! ### msg_Subs: function 74 -/
def msg_Subs.l0 : Nat → Int → Int → Option (Bool)
 | 0, _, _ => none
 | k + 1, gS, nW => if nW < gS then (none) else (some true)
def msg_Subs.f (k : Nat) (l0 : List (S48)) (a1 : Int) (a2 : Int) : Option (Bool) := msg_Subs.l0 k (l0.length : Int) 0
theorem msg_Subs.mono_l : ∀ k, (∀ y0 y1, LeO (msg_Subs.l0 k y0 y1) (msg_Subs.l0 (k + 1) y0 y1))
 | 0 => fun _ _ r h => by simp [msg_Subs.l0] at h
 | k + 1 => by
  have ih0 := msg_Subs.mono_l k
  ·intro y0 y1
   unfold msg_Subs.l0
   repeat' first
   | (with_reducible exact ih0 _ _)
   | (with_reducible exact LeO.refl _)
   | (with_reducible exact LeO.none _)
   | (with_reducible refine LeO.ite ?_ ?_)
   | (with_reducible refine LeO.bind ?_ (fun _ => ?_))
   | exact ih0 _ _
   | exact LeO.none _
   | refine LeO.ite ?_ ?_
   | refine LeO.bind ?_ (fun _ => ?_)
theorem msg_Subs.mono : ∀ a0 a1 a2 k, LeO (msg_Subs.f k a0 a1 a2) (msg_Subs.f (k + 1) a0 a1 a2) := by
 intro a0 a1 a2 k
 have ih0 := msg_Subs.mono_l k
 unfold msg_Subs.f
 repeat' first
   | (with_reducible exact ih0 _ _)
   | (with_reducible exact LeO.refl _)
   | (with_reducible exact LeO.none _)
   | (with_reducible refine LeO.ite ?_ ?_)
   | (with_reducible refine LeO.bind ?_ (fun _ => ?_))
   | exact ih0 _ _
   | exact LeO.none _
   | refine LeO.ite ?_ ?_
   | refine LeO.bind ?_ (fun _ => ?_)
set_option maxHeartbeats 8000000 in
set_option maxRecDepth 100000 in
theorem msg_Subs.calls (k : Nat) (A0 : Option Addr) (c0 : Nat) (l0 : List (S48)) (a1 : Int) (a2 : Int) (r : Bool) (w : World) (jg : Kd.C k48 w A0 l0.length l0) (gg : l0.length ≤ c0) (h : msg_Subs.f k l0 a1 a2 = some r) :
  Calls Try.prog 74 #[.slice A0 l0.length c0, .int .i64 a1, .int .i64 a2] w fun e w' => e = .returned (.bool r) ∧ Below w.heap.size w w' := by
 have mN := Try.underlying48
 have iB := Aside0.mk jg
 have mM := Aside0.mk gg
 clear jg gg
 have HB := Aside0.mk (Below.refl w.heap.size w)
 have H : (msg_Subs.l0 k (l0.length : Int) 0) = some r := h
 clear h
 have H' := Aside0.mk H
 clear H
 go_enter Try.func74, Try.ntmps74
 go_wp2
 go_loopg [11] k (fun kq md w' => ∃ (cH : Int), md = .int .i64 cH ∧ Aside0 (msg_Subs.l0 kq (l0.length : Int) cH = some r) ∧ Aside0 (kq ≤ k) ∧ Aside0 (Below w.heap.size w w'))
 case atStart => exact ⟨(0), Z17, H', ⟨Nat.le_refl _⟩, ⟨Z1⟩⟩
 case round =>
  clear H'
  try clear p2
  obtain ⟨cH, rfl, HA, HK1, HB⟩ := hrel
  cases gk with
  | zero => exact absurd HA.out (by simp [msg_Subs.l0])
  | succ k1 =>
   have H := HA.out
   clear HA
   simp only [msg_Subs.l0] at H
   by_cases c4 : cH < (l0.length : Int)
   ·rw [if_pos c4] at H
    exact absurd H Z59
   ·rw [if_neg c4] at H
    have dL : decide (cH < (l0.length : Int)) = false := decide_eq_false c4
    clear c4
    obtain rfl := Option.some.inj H
    go_wp2
    go_ret
    exact ⟨Z5, Z1⟩

/-! ### msg_Bytes: function 71 -/
def msg_Bytes.l0 : Nat → Int → Int → Int → Option (Int)
 | 0, _, _, _ => none
 | k + 1, x3, x7, x8 => if x8 < x7 then (none) else (some x3)
def msg_Bytes.f (k : Nat) (l0 : List (S48)) : Option (Int) := msg_Bytes.l0 k 0 (l0.length : Int) 0
theorem msg_Bytes.mono_l : ∀ k, (∀ y0 y1 y2, LeO (msg_Bytes.l0 k y0 y1 y2) (msg_Bytes.l0 (k + 1) y0 y1 y2))
 | 0 => fun _ _ _ r h => by simp [msg_Bytes.l0] at h
 | k + 1 => by
  have ih0 := msg_Bytes.mono_l k
  ·intro y0 y1 y2
   unfold msg_Bytes.l0
   repeat' first
   | (with_reducible exact ih0 ..)
   | (with_reducible exact LeO.refl _)
   | (with_reducible exact LeO.none _)
   | (with_reducible refine LeO.ite ?_ ?_)
   | (with_reducible refine LeO.bind ?_ (fun _ => ?_))
   | exact ih0 ..
   | exact LeO.none _
   | refine LeO.ite ?_ ?_
   | refine LeO.bind ?_ (fun _ => ?_)
theorem msg_Bytes.mono : ∀ a0 k, LeO (msg_Bytes.f k a0) (msg_Bytes.f (k + 1) a0) := by
 intro a0 k
 have ih0 := msg_Bytes.mono_l k
 unfold msg_Bytes.f
 repeat' first
   | (with_reducible exact ih0 ..)
   | (with_reducible exact LeO.refl _)
   | (with_reducible exact LeO.none _)
   | (with_reducible refine LeO.ite ?_ ?_)
   | (with_reducible refine LeO.bind ?_ (fun _ => ?_))
   | exact ih0 ..
   | exact LeO.none _
   | refine LeO.ite ?_ ?_
   | refine LeO.bind ?_ (fun _ => ?_)
set_option maxHeartbeats 8000000 in
set_option maxRecDepth 100000 in
theorem msg_Bytes.calls (k : Nat) (A0 : Option Addr) (c0 : Nat) (l0 : List (S48)) (r : Int) (w : World) (jg : Kd.C k48 w A0 l0.length l0) (gg : l0.length ≤ c0) (h : msg_Bytes.f k l0 = some r) :
  Calls Try.prog 71 #[.slice A0 l0.length c0] w fun e w' => e = .returned (.int .i64 r) ∧ Below w.heap.size w w' := by
 have mN := Try.underlying48
 have iB := Aside0.mk jg
 have mM := Aside0.mk gg
 clear jg gg
 have HB := Aside0.mk (Below.refl w.heap.size w)
 have H : (msg_Bytes.l0 k 0 (l0.length : Int) 0) = some r := h
 clear h
 have H' := Aside0.mk H
 clear H
 go_enter Try.func71, Try.ntmps71
 go_wp2
 go_loopg [3, 8] k (fun kq v3 v8 w' => ∃ (kl : Int) (hG : Int), v3 = .int .i64 kl ∧ v8 = .int .i64 hG ∧ Aside0 (msg_Bytes.l0 kq kl (l0.length : Int) hG = some r) ∧ Aside0 (kq ≤ k) ∧ Aside0 (Below w.heap.size w w'))
 case atStart => exact ⟨(0), (0), Z17, Z17, H', ⟨Nat.le_refl _⟩, ⟨Z1⟩⟩
 case round =>
  clear H'
  obtain ⟨kl, hG, rfl, rfl, HA, HK1, HB⟩ := hrel
  cases gk with
  | zero => exact absurd HA.out (by simp [msg_Bytes.l0])
  | succ k1 =>
   have H := HA.out
   clear HA
   simp only [msg_Bytes.l0] at H
   by_cases c2 : hG < (l0.length : Int)
   ·rw [if_pos c2] at H
    exact absurd H Z59
   ·rw [if_neg c2] at H
    have eE : decide (hG < (l0.length : Int)) = false := decide_eq_false c2
    clear c2
    obtain rfl := Option.some.inj H
    go_wp2
    go_ret
    exact ⟨Z5, Z1⟩

end Go.Proofs.Ytccjakjjaemmkaa.PAP
