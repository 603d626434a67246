-- Written by mp.py, a program of this work (wip/tools), out of the translation; Lean checks it.
import Derived.Test.YtccjakjjaemmkaaPRxZ
import Derived.Test.YtccjakjjaemmkaaPRxroadbookref02
import Derived.Test.YtccjakjjaemmkaaPRxroadbookref13
import Derived.Test.YtccjakjjaemmkaaPRxroadbookref16Right
import Derived.Test.YtccjakjjaemmkaaLoad
namespace Go.Proofs.Ytccjakjjaemmkaa.PR
open Go.RowKit Go.Proofs.YtccjakjjaemmkaaW.PrintWords Go.Proofs.YtccjakjjaemmkaaW.PrintLast Go.Proofs.YtccjakjjaemmkaaW.PrintMore
attribute [local go_sem] max2_int min2_int max_two min_two max_three min_three max_four min_four   -- for this text's walks alone
set_option linter.unusedVariables false
set_option linter.unusedSimpArgs false

/-! ### roadbookref16_Put: function 27 -/
def roadbookref16_Put.l0 : Nat → ByteArray → Int → Int → Int → Int → ByteArray → Int → Int → ByteArray → Int → Int → ByteArray → Int → ByteArray → Int → Int → Int → Int → Int → Int → Int → ByteArray → ByteArray → List (S46) → Int → ByteArray → List (S48) → Option (ByteArray × Bool)
 | 0, _, _, _, _, _, _, _, _, _, _, _, _, _, _, _, _, _, _, _, _, _, _, _, _, _, _, _ => none
 | k + 1, x4, x5, bw, bM, bN, bO, bP, bQ, bR, bx, bS, bT, bU, bI, bA, bF, bC, bv, bB, bG, bJ, bD, bE, bq, bK, bL, bu => if x5 < (bq.length : Int) then (if 0 ≤ x5 then (if x4.size + ((rd_T46 bq x5).f0).size ≤ 9223372036854775807 then ((roadbookref02_Of.f k ((rd_T46 bq x5).f1) 4).bind fun aQ => (if (x4 ++ ((rd_T46 bq x5).f0)).size + aQ.size ≤ 9223372036854775807 then (roadbookref16_Put.l0 k ((x4 ++ ((rd_T46 bq x5).f0)) ++ aQ) (wrap64 (x5 + 1)) bw bM bN bO bP bQ bR bx bS bT bU bI bA bF bC bv bB bG bJ bD bE bq bK bL bu) else (none))) else (none)) else (none)) else ((roadbookref13_Put.f k bu).bind fun qR => (if x4.size + qR.1.size ≤ 9223372036854775807 then (some (x4 ++ qR.1, true)) else (none)))
def roadbookref16_Put.f (k : Nat) (av : Int) (au : Int) (aw : Int) (ay : ByteArray) (aD : Int) (az : Int) (aA : ByteArray) (ax : Int) (aE : Int) (aC : ByteArray) (ap : Int) (an : ByteArray) (aj : Int) (am : Int) (ak : Int) (ah : Int) (ai : Int) (al : Int) (ao : Int) (ac : ByteArray) (af : ByteArray) (ae : List (S46)) (aq : Int) (ar : ByteArray) (ag : List (S48)) : Option (ByteArray × Bool) := (roadbookref16_Right.f k av au aw ay aD az aA ax aE aC ap an aj am ak ah ai al ao ac af ae aq ar ag).bind fun ba => (if ba = true then ((some (([(wrap64 (128 * ah)) % 256, 0, ((ae.length : Int)) % 256] : List Int) : List Int)).bind fun fb => (if 1 + (strOfNums fb).size ≤ 9223372036854775807 then (roadbookref16_Put.l0 k ((⟨#[3]⟩ : ByteArray) ++ (strOfNums fb)) 0 av au aw ay aD az aA ax aE aC ap an aj am ak ah ai al ao ac af ae aq ar ag) else (none))) else (some ((⟨#[]⟩ : ByteArray), false)))
theorem roadbookref16_Put.mono_l : ∀ k, (∀ y0 y1 y2 y3 y4 y5 y6 y7 y8 y9 fi fj fk fl fm fn fo fp fq fr fs ft fu fv fw fx hH, LeO (roadbookref16_Put.l0 k y0 y1 y2 y3 y4 y5 y6 y7 y8 y9 fi fj fk fl fm fn fo fp fq fr fs ft fu fv fw fx hH) (roadbookref16_Put.l0 (k + 1) y0 y1 y2 y3 y4 y5 y6 y7 y8 y9 fi fj fk fl fm fn fo fp fq fr fs ft fu fv fw fx hH))
 | 0 => fun _ _ _ _ _ _ _ _ _ _ _ _ _ _ _ _ _ _ _ _ _ _ _ _ _ _ _ r h => by simp [roadbookref16_Put.l0] at h
 | k + 1 => by
  have ih0 := roadbookref16_Put.mono_l k
  ·intro y0 y1 y2 y3 y4 y5 y6 y7 y8 y9 fi fj fk fl fm fn fo fp fq fr fs ft fu fv fw fx hH
   unfold roadbookref16_Put.l0
   repeat' first
   | (with_reducible exact ih0 ..)
   | (with_reducible exact roadbookref02_Of.mono _ _ _)
   | (with_reducible exact roadbookref13_Put.mono _ _)
   | (with_reducible exact roadbookref16_Right.mono _ _ _ _ _ _ _ _ _ _ _ _ _ _ _ _ _ _ _ _ _ _ _ _ _ _)
   | (with_reducible exact LeO.refl _)
   | (with_reducible exact LeO.none _)
   | (with_reducible refine LeO.ite ?_ ?_)
   | (with_reducible refine LeO.bind ?_ (fun _ => ?_))
   | exact ih0 ..
   | exact roadbookref02_Of.mono _ _ _
   | exact roadbookref13_Put.mono _ _
   | exact roadbookref16_Right.mono _ _ _ _ _ _ _ _ _ _ _ _ _ _ _ _ _ _ _ _ _ _ _ _ _ _
   | exact LeO.none _
   | refine LeO.ite ?_ ?_
   | refine LeO.bind ?_ (fun _ => ?_)
theorem roadbookref16_Put.mono : ∀ a0 a1 a2 a3 a4 a5 a6 a7 a8 a9 fJ fK fL fM fN fO fP fQ fR fS fT fU fV fW fX k, LeO (roadbookref16_Put.f k a0 a1 a2 a3 a4 a5 a6 a7 a8 a9 fJ fK fL fM fN fO fP fQ fR fS fT fU fV fW fX) (roadbookref16_Put.f (k + 1) a0 a1 a2 a3 a4 a5 a6 a7 a8 a9 fJ fK fL fM fN fO fP fQ fR fS fT fU fV fW fX) := by
 intro a0 a1 a2 a3 a4 a5 a6 a7 a8 a9 fJ fK fL fM fN fO fP fQ fR fS fT fU fV fW fX k
 have ih0 := roadbookref16_Put.mono_l k
 unfold roadbookref16_Put.f
 repeat' first
   | (with_reducible exact ih0 ..)
   | (with_reducible exact roadbookref02_Of.mono _ _ _)
   | (with_reducible exact roadbookref13_Put.mono _ _)
   | (with_reducible exact roadbookref16_Right.mono _ _ _ _ _ _ _ _ _ _ _ _ _ _ _ _ _ _ _ _ _ _ _ _ _ _)
   | (with_reducible exact LeO.refl _)
   | (with_reducible exact LeO.none _)
   | (with_reducible refine LeO.ite ?_ ?_)
   | (with_reducible refine LeO.bind ?_ (fun _ => ?_))
   | exact ih0 ..
   | exact roadbookref02_Of.mono _ _ _
   | exact roadbookref13_Put.mono _ _
   | exact roadbookref16_Right.mono _ _ _ _ _ _ _ _ _ _ _ _ _ _ _ _ _ _ _ _ _ _ _ _ _ _
   | exact LeO.none _
   | refine LeO.ite ?_ ?_
   | refine LeO.bind ?_ (fun _ => ?_)
def roadbookref16_Put.T7 : Bool × List (List Nat × List Nat) := (true, [([], []), ([], []), ([1], [1]), ([], []), ([2, 3], [2, 3]), ([4], [4]), ([5], [5]), ([0, 6], [0, 6]), ([], []), ([8], [8]), ([], []), ([9, 10], [9, 10]), ([11], [11]), ([12], [12]), ([13], [13]), ([7, 14], [7, 14]), ([15, 14, 0, 1, 2, 3, 4, 5, 6, 7, 8, 9, 10, 11, 12, 13, 14, 15], [0, 15])])
def roadbookref16_Put.B7 : List Nat := [0, 0, 2, 0, 14, 30, 62, 127, 0, 256, 0, 1792, 3840, 7936, 16128, 32767, 65535]
theorem roadbookref16_Put.tab7 : rtab .any (opsOf Try.f27 7) = roadbookref16_Put.T7 := by kernel_rfl
theorem roadbookref16_Put.bits7 : waitsOk roadbookref16_Put.T7.2 roadbookref16_Put.B7 = true := by kernel_rfl

set_option maxHeartbeats 8000000 in
set_option maxRecDepth 100000 in
theorem roadbookref16_Put.calls (k : Nat) (av : Int) (au : Int) (aw : Int) (ay : ByteArray) (aD : Int) (az : Int) (aA : ByteArray) (ax : Int) (aE : Int) (aC : ByteArray) (ap : Int) (an : ByteArray) (aj : Int) (am : Int) (ak : Int) (ah : Int) (ai : Int) (al : Int) (ao : Int) (ac : ByteArray) (af : ByteArray) (aT : Option Addr) (aN : Nat) (ae : List (S46)) (aq : Int) (ar : ByteArray) (aJ : Option Addr) (aK : Nat) (ag : List (S48)) (r1 : ByteArray) (r2 : Bool) (w : World) (bY : Kd.C k46 w aT ae.length ae) (bZ : ae.length ≤ aN) (ca : Kd.C k48 w aJ ag.length ag) (cb : ag.length ≤ aK) (h : roadbookref16_Put.f k av au aw ay aD az aA ax aE aC ap an aj am ak ah ai al ao ac af ae aq ar ag = some (r1, r2)) :
  Calls Try.prog 27 #[.agg #[.int .i64 av, .int .i64 au, .int .i64 aw, .string ay, .int .i64 aD, .int .i64 az, .string aA, .int .i64 ax, .int .i64 aE, .string aC, .int .i64 ap, .string an, .int .i64 aj, .int .i64 am, .int .i64 ak, .int .i64 ah, .int .i64 ai, .int .i64 al, .int .i64 ao, .string ac, .string af, .slice aT ae.length aN, .int .i64 aq, .string ar, .slice aJ ag.length aK]] w fun e w' => e = .returned (.tuple #[.string r1, .bool r2]) ∧ Below w.heap.size w w' := by
 have gB := Try.underlying25
 have cT := Aside0.mk bY
 have bl := Aside0.mk bZ
 clear bY bZ
 have cP := Aside0.mk ca
 have bg := Aside0.mk cb
 clear ca cb
 have HB := Aside0.mk (Below.refl w.heap.size w)
 have H : ((roadbookref16_Right.f k av au aw ay aD az aA ax aE aC ap an aj am ak ah ai al ao ac af ae aq ar ag).bind fun ba => (if ba = true then ((some (([(wrap64 (128 * ah)) % 256, 0, ((ae.length : Int)) % 256] : List Int) : List Int)).bind fun fb => (if 1 + (strOfNums fb).size ≤ 9223372036854775807 then (roadbookref16_Put.l0 k ((⟨#[3]⟩ : ByteArray) ++ (strOfNums fb)) 0 av au aw ay aD az aA ax aE aC ap an aj am ak ah ai al ao ac af ae aq ar ag) else (none))) else (some ((⟨#[]⟩ : ByteArray), false)))) = some (r1, r2) := h
 clear h
 replace H := Option.bind_eq_some_iff.mp H
 obtain ⟨ba, gN, H⟩ := H
 replace H : (if ba = true then ((some (([(wrap64 (128 * ah)) % 256, 0, ((ae.length : Int)) % 256] : List Int) : List Int)).bind fun fb => (if 1 + (strOfNums fb).size ≤ 9223372036854775807 then (roadbookref16_Put.l0 k ((⟨#[3]⟩ : ByteArray) ++ (strOfNums fb)) 0 av au aw ay aD az aA ax aE aC ap an aj am ak ah ai al ao ac af ae aq ar ag) else (none))) else (some ((⟨#[]⟩ : ByteArray), false))) = some (r1, r2) := H
 have A2 := Aside0.mk gN
 clear gN
 by_cases c3 : ba = true
 ·subst c3
  have H1 : ((some (([(wrap64 (128 * ah)) % 256, 0, ((ae.length : Int)) % 256] : List Int) : List Int)).bind fun fb => (if 1 + (strOfNums fb).size ≤ 9223372036854775807 then (roadbookref16_Put.l0 k ((⟨#[3]⟩ : ByteArray) ++ (strOfNums fb)) 0 av au aw ay aD az aA ax aE aC ap an aj am ak ah ai al ao ac af ae aq ar ag) else (none))) = some (r1, r2) := by rw [if_pos rfl] at H; exact H
  clear H
  have H := H1
  clear H1
  obtain ⟨fb, hy103⟩ : ∃ y_ : List Int, y_ = (([(wrap64 (128 * ah)) % 256, 0, ((ae.length : Int)) % 256] : List Int)) := ⟨_, rfl⟩
  replace H : (if 1 + (strOfNums fb).size ≤ 9223372036854775807 then (roadbookref16_Put.l0 k ((⟨#[3]⟩ : ByteArray) ++ (strOfNums fb)) 0 av au aw ay aD az aA ax aE aC ap an aj am ak ah ai al ao ac af ae aq ar ag) else (none)) = some (r1, r2) := by first | (rw [hy103]; with_reducible exact H) | (have H2_ := (Option.bind_some _ _).symm.trans H; rw [hy103]; with_reducible exact H2_) | (have H2_ := (Option.bind_some _ _).symm.trans H; with_reducible exact H2_) | with_reducible exact H | (rw [hy103]; exact H) | exact H
  have Ny103 := Aside0.mk hy103
  clear hy103
  by_cases c4 : 1 + (strOfNums fb).size ≤ 9223372036854775807
  ·rw [if_pos c4] at H
   have cS := eq_true c4
   have gY : decide (1 + (strOfNums fb).size ≤ 9223372036854775807) = true := decide_eq_true c4
   try have uE : (9223372036854775807 < 1 + (strOfNums fb).size) = False := eq_false (Nat.not_lt.2 c4)
   try (have vQ := uE; simp only [ByteArray.size_append] at vQ)
   have H' := Aside0.mk H
   clear H
   go_enter Try.func27, Try.ntmps27
   go_wp2_with (first | ((with_reducible refine Pre.gate_load 25 rfl ?_); (try (refine gate_guard Z13 ?_; dsimp only)); refine Pre.load_event rfl rfl rfl Z13 Z2 Try.underlying25 rfl Z6 ?_) | ((with_reducible refine gate_dst (N := 1) rfl ?_); refine box_event ?hg (N := 1) ?hd (cs := #[.int .i64 av, .int .i64 au, .int .i64 aw, .string ay, .int .i64 aD, .int .i64 az, .string aA, .int .i64 ax, .int .i64 aE, .string aC, .int .i64 ap, .string an, .int .i64 aj, .int .i64 am, .int .i64 ak, .int .i64 ah, .int .i64 ai, .int .i64 al, .int .i64 ao, .string ac, .string af, .slice aT ae.length aN, .int .i64 aq, .string ar, .slice aJ ag.length aK]) (t := 25) ?hr ?_; (case hd => rfl); (case hg => rfl); (case hr => first | (go_simp; done) | (go_simp; rfl)); intro aa hg w5 hbox hb; have aG := Aside0.mk (below_step Z3 hb); have aH := Aside0.mk (hbox); have aI := Aside0.mk ((by rw [hg]; exact (below_size Z3) : w.heap.size ≤ aa)); have aZ := Aside0.mk ((by rw [hg]; exact (below_size Z3) : w.heap.size ≤ aa)); replace HB := aG; have ab := aH; have cl := aI; have bs := aZ; clear aG aH aI aZ; clear hb hbox hg; have rq := cells_25 ab.out) | ((with_reducible refine gate_callee (f := 29) rfl ?_); refine goesL_ (some 9) rfl rfl Try.func29 Z6 rfl #[.agg #[.int .i64 av, .int .i64 au, .int .i64 aw, .string ay, .int .i64 aD, .int .i64 az, .string aA, .int .i64 ax, .int .i64 aE, .string aC, .int .i64 ap, .string an, .int .i64 aj, .int .i64 am, .int .i64 ak, .int .i64 ah, .int .i64 ai, .int .i64 al, .int .i64 ao, .string ac, .string af, .slice aT ae.length aN, .int .i64 aq, .string ar, .slice aJ ag.length aK]] rfl Z5 ?_; (with_reducible refine (roadbookref16_Right.calls k av au aw ay aD az aA ax aE aC ap an aj am ak ah ai al ao ac af _ _ ae aq ar _ _ ag true _ ?side1 ?side2 ?side3 ?side4 A2.out).mono ?_); (case side1 => exact Z8); (case side2 => exact bl.out); (case side3 => exact Z7); (case side4 => exact bg.out); rintro e w7 ⟨rfl, hb⟩; refine ⟨_, rfl, ?_⟩; have aG := Aside0.mk (blk_below (g := aa) Z1 hb); have aH := Aside0.mk (below_step Z0 hb); replace ab := aG; replace HB := aH; clear aG aH; (try clear hb); (try clear hb2); (try clear hk); (try clear hi); have nC := cells_25 ab.out) | ((with_reducible refine gate_dst (N := 19) rfl ?_); refine Kd.R_lit (Kd.int .u8) _ 5 ?hg (N := 19) ?hd (xs := ([(wrap64 (128 * ah)) % 256, 0, ((ae.length : Int)) % 256] : List Int)) (inner := [.int .u8 ((wrap64 (128 * ah)) % 256), .int .u8 0, .int .u8 (((ae.length : Int)) % 256)]) (ok := fun _ => True) (okp := fun _ => True) ?hr ?hp (fun _ hk => hk) trivial (Below.refl _ _) (Nat.le_refl _) Z73 ?_; (case hd => rfl); (case hg => rfl); (case hr => first | (go_simp; done) | (go_simp; rfl)); (case hp => exact (Reps.one (show Kd.M (Kd.int .u8) _ _ _ ((wrap64 (128 * ah)) % 256) [.int .u8 ((wrap64 (128 * ah)) % 256)] from rfl) (Reps.one (show Kd.M (Kd.int .u8) _ _ _ 0 [.int .u8 0] from rfl) (Reps.one (show Kd.M (Kd.int .u8) _ _ _ (((ae.length : Int)) % 256) [.int .u8 (((ae.length : Int)) % 256)] from rfl) (Reps.none _ _))))); intro qZ w9 ho10 hb hg_ hnew_; clear hg_ hnew_; (first | rw [← Ny103.out] at ho10 | (simp only [Int.reduceToNat] at ho10; rw [← Ny103.out] at ho10)); have aG := Aside0.mk (Kd.R_lower ho10 (below_size Z0)); have aH := Aside0.mk (blk_below (g := aa) Z1 hb); have aI := Aside0.mk (below_step Z0 hb); have lw := aG; replace ab := aH; replace HB := aI; clear aG aH aI; clear hb ho10; have hcv11 := own_string (P := Try.prog) Try.underlying51 Try.underlying5 Try.underlying9 (Kd.own_of_R lw.out)))
   go_loopg [4, 5] k (fun kq v4 v5 w' => ∃ (cI : ByteArray) (br : Int), v4 = .string cI ∧ v5 = .int .i64 br ∧ Aside0 (roadbookref16_Put.l0 kq cI br av au aw ay aD az aA ax aE aC ap an aj am ak ah ai al ao ac af ae aq ar ag = some (r1, r2)) ∧ Aside0 (kq ≤ k) ∧ Aside0 (w'.heap[aa]? = some (.cells #[.int .i64 av, .int .i64 au, .int .i64 aw, .string ay, .int .i64 aD, .int .i64 az, .string aA, .int .i64 ax, .int .i64 aE, .string aC, .int .i64 ap, .string an, .int .i64 aj, .int .i64 am, .int .i64 ak, .int .i64 ah, .int .i64 ai, .int .i64 al, .int .i64 ao, .string ac, .string af, (.slice aT ae.length aN), .int .i64 aq, .string ar, (.slice aJ ag.length aK)] 25 (0, 0))) ∧ Aside0 (Below w.heap.size w w'))
   case atStart => exact ⟨((⟨#[3]⟩ : ByteArray) ++ (strOfNums fb)), (0), Z14, Z14, H', ⟨Nat.le_refl _⟩, ⟨Z1⟩, ⟨Z0⟩⟩
   case round =>
    clear H'
    try clear hcv1
    try clear c2
    try clear p2
    try clear c3
    try clear c4
    try clear cS
    try clear gY
    try clear uE
    try clear p6
    try clear hcv11
    try clear rq
    try clear nC
    obtain ⟨cI, br, rfl, rfl, HA, HK1, ab, HB⟩ := hrel
    cases gk with
    | zero => exact absurd HA.out (by simp [roadbookref16_Put.l0])
    | succ k1 =>
     have H := HA.out
     clear HA
     simp only [roadbookref16_Put.l0] at H
     by_cases hf : br < (ae.length : Int)
     ·rw [if_pos hf] at H
      have jZ : decide (br < (ae.length : Int)) = true := decide_eq_true hf
      clear hf
      by_cases dB : 0 ≤ br
      ·rw [if_pos dB] at H
       have gF : decide (0 ≤ br) = true := decide_eq_true dB
       clear dB
       by_cases gW : cI.size + ((rd_T46 ae br).f0).size ≤ 9223372036854775807
       ·rw [if_pos gW] at H
        have ko := eq_true gW
        have kp : decide (cI.size + ((rd_T46 ae br).f0).size ≤ 9223372036854775807) = true := decide_eq_true gW
        try have mv : (9223372036854775807 < cI.size + ((rd_T46 ae br).f0).size) = False := eq_false (Nat.not_lt.2 gW)
        try (have mw := mv; simp only [ByteArray.size_append] at mw)
        replace H := Option.bind_eq_some_iff.mp H
        obtain ⟨aQ, pq, H⟩ := H
        replace H : (if (cI ++ ((rd_T46 ae br).f0)).size + aQ.size ≤ 9223372036854775807 then (roadbookref16_Put.l0 k1 ((cI ++ ((rd_T46 ae br).f0)) ++ aQ) (wrap64 (br + 1)) av au aw ay aD az aA ax aE aC ap an aj am ak ah ai al ao ac af ae aq ar ag) else (none)) = some (r1, r2) := H
        have ut := Aside0.mk pq
        clear pq
        by_cases ej : (cI ++ ((rd_T46 ae br).f0)).size + aQ.size ≤ 9223372036854775807
        ·rw [if_pos ej] at H
         have gL := eq_true ej
         have hM : decide ((cI ++ ((rd_T46 ae br).f0)).size + aQ.size ≤ 9223372036854775807) = true := decide_eq_true ej
         try have ly : (9223372036854775807 < (cI ++ ((rd_T46 ae br).f0)).size + aQ.size) = False := eq_false (Nat.not_lt.2 ej)
         try (have mh := ly; simp only [ByteArray.size_append] at mh)
         have H' := Aside0.mk H
         clear H
         have lG := cells_25 ab.out
         try go_wp2_with (first | ((with_reducible refine Pre.gate_load 25 rfl ?_); (try (refine gate_guard Z13 ?_; dsimp only)); refine Pre.load_event rfl rfl rfl Z13 Z2 Try.underlying25 rfl Z6 ?_))
         have aG := Aside0.mk (blk_drew ab.out)
         have aH := Aside0.mk (below_drew1 HB.out)
         clear ab
         clear HB
         have ab := aG
         have HB := aH
         clear aG aH
         have p106 : 0 ≤ (br : Int) := of_decide_eq_true Z10
         have q106 : br < (ae.length : Int) := of_decide_eq_true Z10
         obtain ⟨ad106, e106, hx106_0, hx106_1⟩ := at_T46 cT.out br p106 q106
         have hw106_1 := hx106_1
         have hw106_0 := hx106_0
         cases e106
         replace hx106_0 := (HB.out.cell (World.block_lt_of_cell? w _ hx106_0)).trans hx106_0
         replace hx106_1 := (HB.out.cell (World.block_lt_of_cell? w _ hx106_1)).trans hx106_1
         replace p106 := eq_true p106
         replace q106 := eq_true q106
         have p107 : 0 ≤ (br : Int) := of_decide_eq_true Z10
         have q107 : br < (ae.length : Int) := of_decide_eq_true Z10
         obtain ⟨ad107, e107, hx107_0, hx107_1⟩ := at_T46 cT.out br p107 q107
         have hw107_1 := hx107_1
         have hw107_0 := hx107_0
         obtain rfl : ad106 = ad107 := (by injection e107)
         replace hx107_0 := (HB.out.cell (World.block_lt_of_cell? w _ hx107_0)).trans hx107_0
         replace hx107_1 := (HB.out.cell (World.block_lt_of_cell? w _ hx107_1)).trans hx107_1
         replace p107 := eq_true p107
         replace q107 := eq_true q107
         refine start_ (n := 17) (S := fun w' => w'.cell? ⟨aa, 0, none⟩ = some (.int .i64 av) ∧ w'.cell? ⟨aa, 1, none⟩ = some (.int .i64 au) ∧ w'.cell? ⟨aa, 2, none⟩ = some (.int .i64 aw) ∧ w'.cell? ⟨aa, 3, none⟩ = some (.string ay) ∧ w'.cell? ⟨aa, 4, none⟩ = some (.int .i64 aD) ∧ w'.cell? ⟨aa, 5, none⟩ = some (.int .i64 az) ∧ w'.cell? ⟨aa, 6, none⟩ = some (.string aA) ∧ w'.cell? ⟨aa, 7, none⟩ = some (.int .i64 ax) ∧ w'.cell? ⟨aa, 8, none⟩ = some (.int .i64 aE) ∧ w'.cell? ⟨aa, 9, none⟩ = some (.string aC) ∧ w'.cell? ⟨aa, 10, none⟩ = some (.int .i64 ap) ∧ w'.cell? ⟨aa, 11, none⟩ = some (.string an) ∧ w'.cell? ⟨aa, 12, none⟩ = some (.int .i64 aj) ∧ w'.cell? ⟨aa, 13, none⟩ = some (.int .i64 am) ∧ w'.cell? ⟨aa, 14, none⟩ = some (.int .i64 ak) ∧ w'.cell? ⟨aa, 15, none⟩ = some (.int .i64 ah) ∧ w'.cell? ⟨aa, 16, none⟩ = some (.int .i64 ai) ∧ w'.cell? ⟨aa, 17, none⟩ = some (.int .i64 al) ∧ w'.cell? ⟨aa, 18, none⟩ = some (.int .i64 ao) ∧ w'.cell? ⟨aa, 19, none⟩ = some (.string ac) ∧ w'.cell? ⟨aa, 20, none⟩ = some (.string af) ∧ w'.cell? ⟨aa, 21, none⟩ = some (.slice (some ad106) ae.length aN) ∧ w'.cell? ⟨aa, 22, none⟩ = some (.int .i64 aq) ∧ w'.cell? ⟨aa, 23, none⟩ = some (.string ar) ∧ w'.cell? ⟨aa, 24, none⟩ = some (.slice aJ ag.length aK) ∧ w'.cell? (ad106.add ((br).toNat * 2)) = some (.string ((rd_T46 ae br).f0)) ∧ w'.cell? ⟨(ad106.add ((br).toNat * 2)).block, (ad106.add ((br).toNat * 2)).off + 1, none⟩ = some (.int .i64 ((rd_T46 ae br).f1)) ∧ w'.cell? (ad106.add ((br).toNat * 2)) = some (.string ((rd_T46 ae br).f0)) ∧ w'.cell? ⟨(ad106.add ((br).toNat * 2)).block, (ad106.add ((br).toNat * 2)).off + 1, none⟩ = some (.int .i64 ((rd_T46 ae br).f1))) (ds := []) #[false, false, false, false, false, false, false, false, false, false, false, false, false, false, false, false, false] Z6 rfl rfl ⟨(blk_cell ab.out 0).trans rfl, (blk_cell ab.out 1).trans rfl, (blk_cell ab.out 2).trans rfl, (blk_cell ab.out 3).trans rfl, (blk_cell ab.out 4).trans rfl, (blk_cell ab.out 5).trans rfl, (blk_cell ab.out 6).trans rfl, (blk_cell ab.out 7).trans rfl, (blk_cell ab.out 8).trans rfl, (blk_cell ab.out 9).trans rfl, (blk_cell ab.out 10).trans rfl, (blk_cell ab.out 11).trans rfl, (blk_cell ab.out 12).trans rfl, (blk_cell ab.out 13).trans rfl, (blk_cell ab.out 14).trans rfl, (blk_cell ab.out 15).trans rfl, (blk_cell ab.out 16).trans rfl, (blk_cell ab.out 17).trans rfl, (blk_cell ab.out 18).trans rfl, (blk_cell ab.out 19).trans rfl, (blk_cell ab.out 20).trans rfl, (blk_cell ab.out 21).trans rfl, (blk_cell ab.out 22).trans rfl, (blk_cell ab.out 23).trans rfl, (blk_cell ab.out 24).trans rfl, ((HB.out.cell (World.block_lt_of_cell? w _ hw106_0)).trans hw106_0), ((HB.out.cell (World.block_lt_of_cell? w _ hw106_1)).trans hw106_1), ((HB.out.cell (World.block_lt_of_cell? w _ hw107_0)).trans hw107_0), ((HB.out.cell (World.block_lt_of_cell? w _ hw107_1)).trans hw107_1)⟩ (fun hHeld => ?_); refine with_tabW roadbookref16_Put.tab7 roadbookref16_Put.bits7 (fun HT_ HW_ => ?_)
         generalize wr.drew = kh at ab HB hx106_0 hx106_1 hx107_0 hx107_1 hHeld ⊢
         refine pure_ (i := 0) (N := some 29) (v := ?_) (a' := ?_) #[true, false, false, false, false, false, false, false, false, false, false, false, false, false, false, false, false] rfl rfl (any_of HT_.out Z6) (fun _ _ _ h => h) (Or.inl ⟨Z13, ?_⟩) ?_ ?_
         rotate_left
         ·intro w'
          go_simp
          with_reducible rfl
         rotate_left
         ·simp only [Act.put, List.setIfInBounds_toArray, List.set_cons_zero, List.set_cons_succ, i64_w, i32_w]
          rfl
         refine pure_ (i := 1) (N := some 30) (v := ?_) (a' := ?_) #[true, true, false, false, false, false, false, false, false, false, false, false, false, false, false, false, false] rfl rfl (any_of HT_.out Z6) (fun _ _ _ h => h) (Or.inl ⟨Z13, ?_⟩) ?_ ?_
         rotate_left
         ·intro w'
          go_simp
          with_reducible rfl
         rotate_left
         ·simp only [Act.put, List.setIfInBounds_toArray, List.set_cons_zero, List.set_cons_succ, i64_w, i32_w]
          rfl
         refine pure_ (i := 3) (N := some 32) (v := ?_) (a' := ?_) #[true, true, false, true, false, false, false, false, false, false, false, false, false, false, false, false, false] rfl rfl (any_of HT_.out Z6) (fun _ _ _ h => h) (Or.inl ⟨Z13, ?_⟩) ?_ ?_
         rotate_left
         ·intro w'
          go_simp
          with_reducible rfl
         rotate_left
         ·simp only [Act.put, List.setIfInBounds_toArray, List.set_cons_zero, List.set_cons_succ, i64_w, i32_w]
          rfl
         refine pure_ (i := 8) (N := some 37) (v := ?_) (a' := ?_) #[true, true, false, true, false, false, false, false, true, false, false, false, false, false, false, false, false] rfl rfl (any_of HT_.out Z6) (fun _ _ _ h => h) (Or.inl ⟨Z13, ?_⟩) ?_ ?_
         rotate_left
         ·intro w'
          go_simp
          with_reducible rfl
         rotate_left
         ·simp only [Act.put, List.setIfInBounds_toArray, List.set_cons_zero, List.set_cons_succ, i64_w, i32_w]
          rfl
         refine pure_ (i := 10) (N := some 39) (v := ?_) (a' := ?_) #[true, true, false, true, false, false, false, false, true, false, true, false, false, false, false, false, false] rfl rfl (any_of HT_.out Z6) (fun _ _ _ h => h) (Or.inl ⟨Z13, ?_⟩) ?_ ?_
         rotate_left
         ·intro w'
          go_simp
          with_reducible rfl
         rotate_left
         ·simp only [Act.put, List.setIfInBounds_toArray, List.set_cons_zero, List.set_cons_succ, i64_w, i32_w]
          rfl
         refine take_ (i := 2) (N := some 31) (v := ?_) (a' := ?_) #[true, true, true, true, false, false, false, false, true, false, true, false, false, false, false, false, false] rfl rfl (take_ofW HT_.out HW_.out Z6) (fun _ _ _ h => h) (Or.inl ⟨Z13, ?_⟩) hHeld ?_ ?_
         rotate_left
         ·rintro w' ⟨s0, s1, s2, s3, s4, s5, s6, s7, s8, s9, s10, s11, s12, s13, s14, s15, s16, s17, s18, s19, s20, s21, s22, s23, s24, s25, s26, s27, s28⟩
          first | (refine Eq.trans (Pre.load_run (ty := 25) rfl Z13 s0 Try.underlying25 rfl Z6) ?_; with_reducible rfl) | (refine Eq.trans (Pre.load_run (ty := 25) rfl Z13 s1 Try.underlying25 rfl Z6) ?_; with_reducible rfl) | (refine Eq.trans (Pre.load_run (ty := 25) rfl Z13 s2 Try.underlying25 rfl Z6) ?_; with_reducible rfl) | (refine Eq.trans (Pre.load_run (ty := 25) rfl Z13 s3 Try.underlying25 rfl Z6) ?_; with_reducible rfl) | (refine Eq.trans (Pre.load_run (ty := 25) rfl Z13 s4 Try.underlying25 rfl Z6) ?_; with_reducible rfl) | (refine Eq.trans (Pre.load_run (ty := 25) rfl Z13 s5 Try.underlying25 rfl Z6) ?_; with_reducible rfl) | (refine Eq.trans (Pre.load_run (ty := 25) rfl Z13 s6 Try.underlying25 rfl Z6) ?_; with_reducible rfl) | (refine Eq.trans (Pre.load_run (ty := 25) rfl Z13 s7 Try.underlying25 rfl Z6) ?_; with_reducible rfl) | (refine Eq.trans (Pre.load_run (ty := 25) rfl Z13 s8 Try.underlying25 rfl Z6) ?_; with_reducible rfl) | (refine Eq.trans (Pre.load_run (ty := 25) rfl Z13 s9 Try.underlying25 rfl Z6) ?_; with_reducible rfl) | (refine Eq.trans (Pre.load_run (ty := 25) rfl Z13 s10 Try.underlying25 rfl Z6) ?_; with_reducible rfl) | (refine Eq.trans (Pre.load_run (ty := 25) rfl Z13 s11 Try.underlying25 rfl Z6) ?_; with_reducible rfl) | (refine Eq.trans (Pre.load_run (ty := 25) rfl Z13 s12 Try.underlying25 rfl Z6) ?_; with_reducible rfl) | (refine Eq.trans (Pre.load_run (ty := 25) rfl Z13 s13 Try.underlying25 rfl Z6) ?_; with_reducible rfl) | (refine Eq.trans (Pre.load_run (ty := 25) rfl Z13 s14 Try.underlying25 rfl Z6) ?_; with_reducible rfl) | (refine Eq.trans (Pre.load_run (ty := 25) rfl Z13 s15 Try.underlying25 rfl Z6) ?_; with_reducible rfl) | (refine Eq.trans (Pre.load_run (ty := 25) rfl Z13 s16 Try.underlying25 rfl Z6) ?_; with_reducible rfl) | (refine Eq.trans (Pre.load_run (ty := 25) rfl Z13 s17 Try.underlying25 rfl Z6) ?_; with_reducible rfl) | (refine Eq.trans (Pre.load_run (ty := 25) rfl Z13 s18 Try.underlying25 rfl Z6) ?_; with_reducible rfl) | (refine Eq.trans (Pre.load_run (ty := 25) rfl Z13 s19 Try.underlying25 rfl Z6) ?_; with_reducible rfl) | (refine Eq.trans (Pre.load_run (ty := 25) rfl Z13 s20 Try.underlying25 rfl Z6) ?_; with_reducible rfl) | (refine Eq.trans (Pre.load_run (ty := 25) rfl Z13 s21 Try.underlying25 rfl Z6) ?_; with_reducible rfl) | (refine Eq.trans (Pre.load_run (ty := 25) rfl Z13 s22 Try.underlying25 rfl Z6) ?_; with_reducible rfl) | (refine Eq.trans (Pre.load_run (ty := 25) rfl Z13 s23 Try.underlying25 rfl Z6) ?_; with_reducible rfl) | (refine Eq.trans (Pre.load_run (ty := 25) rfl Z13 s24 Try.underlying25 rfl Z6) ?_; with_reducible rfl) | (refine Eq.trans (Pre.load_run (ty := 25) rfl Z13 s25 Try.underlying25 rfl Z6) ?_; with_reducible rfl) | (refine Eq.trans (Pre.load_run (ty := 25) rfl Z13 s26 Try.underlying25 rfl Z6) ?_; with_reducible rfl) | (refine Eq.trans (Pre.load_run (ty := 25) rfl Z13 s27 Try.underlying25 rfl Z6) ?_; with_reducible rfl) | (refine Eq.trans (Pre.load_run (ty := 25) rfl Z13 s28 Try.underlying25 rfl Z6) ?_; with_reducible rfl) | (go_simp; with_reducible rfl)
         rotate_left
         ·simp only [Act.put, List.setIfInBounds_toArray, List.set_cons_zero, List.set_cons_succ, i64_w, i32_w]
          rfl
         refine pure_ (i := 4) (N := some 33) (v := ?_) (a' := ?_) #[true, true, true, true, true, false, false, false, true, false, true, false, false, false, false, false, false] rfl rfl (any_of HT_.out Z6) (fun _ _ _ h => h) (Or.inl ⟨Z13, ?_⟩) ?_ ?_
         rotate_left
         ·intro w'
          go_simp
          with_reducible rfl
         rotate_left
         ·simp only [Act.put, List.setIfInBounds_toArray, List.set_cons_zero, List.set_cons_succ, i64_w, i32_w]
          rfl
         refine pure_ (i := 5) (N := some 34) (v := ?_) (a' := ?_) #[true, true, true, true, true, true, false, false, true, false, true, false, false, false, false, false, false] rfl rfl (any_of HT_.out Z6) (fun _ _ _ h => h) (Or.inl ⟨Z13, ?_⟩) ?_ ?_
         rotate_left
         ·intro w'
          go_simp
          with_reducible rfl
         rotate_left
         ·simp only [Act.put, List.setIfInBounds_toArray, List.set_cons_zero, List.set_cons_succ, i64_w, i32_w]
          rfl
         refine take_ (i := 6) (N := some 35) (v := ?_) (a' := ?_) #[true, true, true, true, true, true, true, false, true, false, true, false, false, false, false, false, false] rfl rfl (take_ofW HT_.out HW_.out Z6) (fun _ _ _ h => h) (Or.inl ⟨Z13, ?_⟩) hHeld ?_ ?_
         rotate_left
         ·rintro w' ⟨s0, s1, s2, s3, s4, s5, s6, s7, s8, s9, s10, s11, s12, s13, s14, s15, s16, s17, s18, s19, s20, s21, s22, s23, s24, s25, s26, s27, s28⟩
          first | (refine Eq.trans (Pre.load_run (ty := 25) rfl Z13 s0 Try.underlying25 rfl Z6) ?_; with_reducible rfl) | (refine Eq.trans (Pre.load_run (ty := 25) rfl Z13 s1 Try.underlying25 rfl Z6) ?_; with_reducible rfl) | (refine Eq.trans (Pre.load_run (ty := 25) rfl Z13 s2 Try.underlying25 rfl Z6) ?_; with_reducible rfl) | (refine Eq.trans (Pre.load_run (ty := 25) rfl Z13 s3 Try.underlying25 rfl Z6) ?_; with_reducible rfl) | (refine Eq.trans (Pre.load_run (ty := 25) rfl Z13 s4 Try.underlying25 rfl Z6) ?_; with_reducible rfl) | (refine Eq.trans (Pre.load_run (ty := 25) rfl Z13 s5 Try.underlying25 rfl Z6) ?_; with_reducible rfl) | (refine Eq.trans (Pre.load_run (ty := 25) rfl Z13 s6 Try.underlying25 rfl Z6) ?_; with_reducible rfl) | (refine Eq.trans (Pre.load_run (ty := 25) rfl Z13 s7 Try.underlying25 rfl Z6) ?_; with_reducible rfl) | (refine Eq.trans (Pre.load_run (ty := 25) rfl Z13 s8 Try.underlying25 rfl Z6) ?_; with_reducible rfl) | (refine Eq.trans (Pre.load_run (ty := 25) rfl Z13 s9 Try.underlying25 rfl Z6) ?_; with_reducible rfl) | (refine Eq.trans (Pre.load_run (ty := 25) rfl Z13 s10 Try.underlying25 rfl Z6) ?_; with_reducible rfl) | (refine Eq.trans (Pre.load_run (ty := 25) rfl Z13 s11 Try.underlying25 rfl Z6) ?_; with_reducible rfl) | (refine Eq.trans (Pre.load_run (ty := 25) rfl Z13 s12 Try.underlying25 rfl Z6) ?_; with_reducible rfl) | (refine Eq.trans (Pre.load_run (ty := 25) rfl Z13 s13 Try.underlying25 rfl Z6) ?_; with_reducible rfl) | (refine Eq.trans (Pre.load_run (ty := 25) rfl Z13 s14 Try.underlying25 rfl Z6) ?_; with_reducible rfl) | (refine Eq.trans (Pre.load_run (ty := 25) rfl Z13 s15 Try.underlying25 rfl Z6) ?_; with_reducible rfl) | (refine Eq.trans (Pre.load_run (ty := 25) rfl Z13 s16 Try.underlying25 rfl Z6) ?_; with_reducible rfl) | (refine Eq.trans (Pre.load_run (ty := 25) rfl Z13 s17 Try.underlying25 rfl Z6) ?_; with_reducible rfl) | (refine Eq.trans (Pre.load_run (ty := 25) rfl Z13 s18 Try.underlying25 rfl Z6) ?_; with_reducible rfl) | (refine Eq.trans (Pre.load_run (ty := 25) rfl Z13 s19 Try.underlying25 rfl Z6) ?_; with_reducible rfl) | (refine Eq.trans (Pre.load_run (ty := 25) rfl Z13 s20 Try.underlying25 rfl Z6) ?_; with_reducible rfl) | (refine Eq.trans (Pre.load_run (ty := 25) rfl Z13 s21 Try.underlying25 rfl Z6) ?_; with_reducible rfl) | (refine Eq.trans (Pre.load_run (ty := 25) rfl Z13 s22 Try.underlying25 rfl Z6) ?_; with_reducible rfl) | (refine Eq.trans (Pre.load_run (ty := 25) rfl Z13 s23 Try.underlying25 rfl Z6) ?_; with_reducible rfl) | (refine Eq.trans (Pre.load_run (ty := 25) rfl Z13 s24 Try.underlying25 rfl Z6) ?_; with_reducible rfl) | (refine Eq.trans (Pre.load_run (ty := 25) rfl Z13 s25 Try.underlying25 rfl Z6) ?_; with_reducible rfl) | (refine Eq.trans (Pre.load_run (ty := 25) rfl Z13 s26 Try.underlying25 rfl Z6) ?_; with_reducible rfl) | (refine Eq.trans (Pre.load_run (ty := 25) rfl Z13 s27 Try.underlying25 rfl Z6) ?_; with_reducible rfl) | (refine Eq.trans (Pre.load_run (ty := 25) rfl Z13 s28 Try.underlying25 rfl Z6) ?_; with_reducible rfl) | (go_simp; with_reducible rfl)
         rotate_left
         ·simp only [Act.put, List.setIfInBounds_toArray, List.set_cons_zero, List.set_cons_succ, i64_w, i32_w]
          rfl
         refine pure_ (i := 7) (N := some 36) (v := ?_) (a' := ?_) #[true, true, true, true, true, true, true, true, true, false, true, false, false, false, false, false, false] rfl rfl (any_of HT_.out Z6) (fun _ _ _ h => h) (Or.inl ⟨Z13, ?_⟩) ?_ ?_
         rotate_left
         ·intro w'
          go_simp
          with_reducible rfl
         rotate_left
         ·simp only [Act.put, List.setIfInBounds_toArray, List.set_cons_zero, List.set_cons_succ, i64_w, i32_w]
          rfl
         refine take_ (i := 9) (N := some 38) (v := ?_) (a' := ?_) #[true, true, true, true, true, true, true, true, true, true, true, false, false, false, false, false, false] rfl rfl (take_ofW HT_.out HW_.out Z6) (fun _ _ _ h => h) (Or.inl ⟨Z13, ?_⟩) hHeld ?_ ?_
         rotate_left
         ·rintro w' ⟨s0, s1, s2, s3, s4, s5, s6, s7, s8, s9, s10, s11, s12, s13, s14, s15, s16, s17, s18, s19, s20, s21, s22, s23, s24, s25, s26, s27, s28⟩
          first | (refine Eq.trans (Pre.load_run (ty := 25) rfl Z13 s0 Try.underlying25 rfl Z6) ?_; with_reducible rfl) | (refine Eq.trans (Pre.load_run (ty := 25) rfl Z13 s1 Try.underlying25 rfl Z6) ?_; with_reducible rfl) | (refine Eq.trans (Pre.load_run (ty := 25) rfl Z13 s2 Try.underlying25 rfl Z6) ?_; with_reducible rfl) | (refine Eq.trans (Pre.load_run (ty := 25) rfl Z13 s3 Try.underlying25 rfl Z6) ?_; with_reducible rfl) | (refine Eq.trans (Pre.load_run (ty := 25) rfl Z13 s4 Try.underlying25 rfl Z6) ?_; with_reducible rfl) | (refine Eq.trans (Pre.load_run (ty := 25) rfl Z13 s5 Try.underlying25 rfl Z6) ?_; with_reducible rfl) | (refine Eq.trans (Pre.load_run (ty := 25) rfl Z13 s6 Try.underlying25 rfl Z6) ?_; with_reducible rfl) | (refine Eq.trans (Pre.load_run (ty := 25) rfl Z13 s7 Try.underlying25 rfl Z6) ?_; with_reducible rfl) | (refine Eq.trans (Pre.load_run (ty := 25) rfl Z13 s8 Try.underlying25 rfl Z6) ?_; with_reducible rfl) | (refine Eq.trans (Pre.load_run (ty := 25) rfl Z13 s9 Try.underlying25 rfl Z6) ?_; with_reducible rfl) | (refine Eq.trans (Pre.load_run (ty := 25) rfl Z13 s10 Try.underlying25 rfl Z6) ?_; with_reducible rfl) | (refine Eq.trans (Pre.load_run (ty := 25) rfl Z13 s11 Try.underlying25 rfl Z6) ?_; with_reducible rfl) | (refine Eq.trans (Pre.load_run (ty := 25) rfl Z13 s12 Try.underlying25 rfl Z6) ?_; with_reducible rfl) | (refine Eq.trans (Pre.load_run (ty := 25) rfl Z13 s13 Try.underlying25 rfl Z6) ?_; with_reducible rfl) | (refine Eq.trans (Pre.load_run (ty := 25) rfl Z13 s14 Try.underlying25 rfl Z6) ?_; with_reducible rfl) | (refine Eq.trans (Pre.load_run (ty := 25) rfl Z13 s15 Try.underlying25 rfl Z6) ?_; with_reducible rfl) | (refine Eq.trans (Pre.load_run (ty := 25) rfl Z13 s16 Try.underlying25 rfl Z6) ?_; with_reducible rfl) | (refine Eq.trans (Pre.load_run (ty := 25) rfl Z13 s17 Try.underlying25 rfl Z6) ?_; with_reducible rfl) | (refine Eq.trans (Pre.load_run (ty := 25) rfl Z13 s18 Try.underlying25 rfl Z6) ?_; with_reducible rfl) | (refine Eq.trans (Pre.load_run (ty := 25) rfl Z13 s19 Try.underlying25 rfl Z6) ?_; with_reducible rfl) | (refine Eq.trans (Pre.load_run (ty := 25) rfl Z13 s20 Try.underlying25 rfl Z6) ?_; with_reducible rfl) | (refine Eq.trans (Pre.load_run (ty := 25) rfl Z13 s21 Try.underlying25 rfl Z6) ?_; with_reducible rfl) | (refine Eq.trans (Pre.load_run (ty := 25) rfl Z13 s22 Try.underlying25 rfl Z6) ?_; with_reducible rfl) | (refine Eq.trans (Pre.load_run (ty := 25) rfl Z13 s23 Try.underlying25 rfl Z6) ?_; with_reducible rfl) | (refine Eq.trans (Pre.load_run (ty := 25) rfl Z13 s24 Try.underlying25 rfl Z6) ?_; with_reducible rfl) | (refine Eq.trans (Pre.load_run (ty := 25) rfl Z13 s25 Try.underlying25 rfl Z6) ?_; with_reducible rfl) | (refine Eq.trans (Pre.load_run (ty := 25) rfl Z13 s26 Try.underlying25 rfl Z6) ?_; with_reducible rfl) | (refine Eq.trans (Pre.load_run (ty := 25) rfl Z13 s27 Try.underlying25 rfl Z6) ?_; with_reducible rfl) | (refine Eq.trans (Pre.load_run (ty := 25) rfl Z13 s28 Try.underlying25 rfl Z6) ?_; with_reducible rfl) | (go_simp; with_reducible rfl)
         rotate_left
         ·simp only [Act.put, List.setIfInBounds_toArray, List.set_cons_zero, List.set_cons_succ, i64_w, i32_w]
          rfl
         refine pure_ (i := 11) (N := some 40) (v := ?_) (a' := ?_) #[true, true, true, true, true, true, true, true, true, true, true, true, false, false, false, false, false] rfl rfl (any_of HT_.out Z6) (fun _ _ _ h => h) (Or.inl ⟨Z13, ?_⟩) ?_ ?_
         rotate_left
         ·intro w'
          go_simp
          with_reducible rfl
         rotate_left
         ·simp only [Act.put, List.setIfInBounds_toArray, List.set_cons_zero, List.set_cons_succ, i64_w, i32_w]
          rfl
         refine pure_ (i := 12) (N := some 41) (v := ?_) (a' := ?_) #[true, true, true, true, true, true, true, true, true, true, true, true, true, false, false, false, false] rfl rfl (any_of HT_.out Z6) (fun _ _ _ h => h) (Or.inl ⟨Z13, ?_⟩) ?_ ?_
         rotate_left
         ·intro w'
          go_simp
          with_reducible rfl
         rotate_left
         ·simp only [Act.put, List.setIfInBounds_toArray, List.set_cons_zero, List.set_cons_succ, i64_w, i32_w]
          rfl
         refine take_ (i := 13) (N := some 42) (v := ?_) (a' := ?_) #[true, true, true, true, true, true, true, true, true, true, true, true, true, true, false, false, false] rfl rfl (take_ofW HT_.out HW_.out Z6) (fun _ _ _ h => h) (Or.inl ⟨Z13, ?_⟩) hHeld ?_ ?_
         rotate_left
         ·rintro w' ⟨s0, s1, s2, s3, s4, s5, s6, s7, s8, s9, s10, s11, s12, s13, s14, s15, s16, s17, s18, s19, s20, s21, s22, s23, s24, s25, s26, s27, s28⟩
          first | (refine Eq.trans (Pre.load_run (ty := 25) rfl Z13 s0 Try.underlying25 rfl Z6) ?_; with_reducible rfl) | (refine Eq.trans (Pre.load_run (ty := 25) rfl Z13 s1 Try.underlying25 rfl Z6) ?_; with_reducible rfl) | (refine Eq.trans (Pre.load_run (ty := 25) rfl Z13 s2 Try.underlying25 rfl Z6) ?_; with_reducible rfl) | (refine Eq.trans (Pre.load_run (ty := 25) rfl Z13 s3 Try.underlying25 rfl Z6) ?_; with_reducible rfl) | (refine Eq.trans (Pre.load_run (ty := 25) rfl Z13 s4 Try.underlying25 rfl Z6) ?_; with_reducible rfl) | (refine Eq.trans (Pre.load_run (ty := 25) rfl Z13 s5 Try.underlying25 rfl Z6) ?_; with_reducible rfl) | (refine Eq.trans (Pre.load_run (ty := 25) rfl Z13 s6 Try.underlying25 rfl Z6) ?_; with_reducible rfl) | (refine Eq.trans (Pre.load_run (ty := 25) rfl Z13 s7 Try.underlying25 rfl Z6) ?_; with_reducible rfl) | (refine Eq.trans (Pre.load_run (ty := 25) rfl Z13 s8 Try.underlying25 rfl Z6) ?_; with_reducible rfl) | (refine Eq.trans (Pre.load_run (ty := 25) rfl Z13 s9 Try.underlying25 rfl Z6) ?_; with_reducible rfl) | (refine Eq.trans (Pre.load_run (ty := 25) rfl Z13 s10 Try.underlying25 rfl Z6) ?_; with_reducible rfl) | (refine Eq.trans (Pre.load_run (ty := 25) rfl Z13 s11 Try.underlying25 rfl Z6) ?_; with_reducible rfl) | (refine Eq.trans (Pre.load_run (ty := 25) rfl Z13 s12 Try.underlying25 rfl Z6) ?_; with_reducible rfl) | (refine Eq.trans (Pre.load_run (ty := 25) rfl Z13 s13 Try.underlying25 rfl Z6) ?_; with_reducible rfl) | (refine Eq.trans (Pre.load_run (ty := 25) rfl Z13 s14 Try.underlying25 rfl Z6) ?_; with_reducible rfl) | (refine Eq.trans (Pre.load_run (ty := 25) rfl Z13 s15 Try.underlying25 rfl Z6) ?_; with_reducible rfl) | (refine Eq.trans (Pre.load_run (ty := 25) rfl Z13 s16 Try.underlying25 rfl Z6) ?_; with_reducible rfl) | (refine Eq.trans (Pre.load_run (ty := 25) rfl Z13 s17 Try.underlying25 rfl Z6) ?_; with_reducible rfl) | (refine Eq.trans (Pre.load_run (ty := 25) rfl Z13 s18 Try.underlying25 rfl Z6) ?_; with_reducible rfl) | (refine Eq.trans (Pre.load_run (ty := 25) rfl Z13 s19 Try.underlying25 rfl Z6) ?_; with_reducible rfl) | (refine Eq.trans (Pre.load_run (ty := 25) rfl Z13 s20 Try.underlying25 rfl Z6) ?_; with_reducible rfl) | (refine Eq.trans (Pre.load_run (ty := 25) rfl Z13 s21 Try.underlying25 rfl Z6) ?_; with_reducible rfl) | (refine Eq.trans (Pre.load_run (ty := 25) rfl Z13 s22 Try.underlying25 rfl Z6) ?_; with_reducible rfl) | (refine Eq.trans (Pre.load_run (ty := 25) rfl Z13 s23 Try.underlying25 rfl Z6) ?_; with_reducible rfl) | (refine Eq.trans (Pre.load_run (ty := 25) rfl Z13 s24 Try.underlying25 rfl Z6) ?_; with_reducible rfl) | (refine Eq.trans (Pre.load_run (ty := 25) rfl Z13 s25 Try.underlying25 rfl Z6) ?_; with_reducible rfl) | (refine Eq.trans (Pre.load_run (ty := 25) rfl Z13 s26 Try.underlying25 rfl Z6) ?_; with_reducible rfl) | (refine Eq.trans (Pre.load_run (ty := 25) rfl Z13 s27 Try.underlying25 rfl Z6) ?_; with_reducible rfl) | (refine Eq.trans (Pre.load_run (ty := 25) rfl Z13 s28 Try.underlying25 rfl Z6) ?_; with_reducible rfl) | (go_simp; with_reducible rfl)
         rotate_left
         ·simp only [Act.put, List.setIfInBounds_toArray, List.set_cons_zero, List.set_cons_succ, i64_w, i32_w]
          rfl
         refine one_ (i := 14) (N := some 43) #[true, true, true, true, true, true, true, true, true, true, true, true, true, true, true, false, false] rfl rfl (one_of HT_.out Z6) Z32 (fun K hK => ?_)
         refine goes_ Try.func52 Z6 rfl #[.int .i64 ((rd_T46 ae br).f1), .int .i64 4] Z13 rfl rfl Z5 ?_
         with_reducible refine (roadbookref02_Of.calls k1 ((rd_T46 ae br).f1) 4 aQ _ ut.out).mono ?_
         rintro e nD ⟨rfl, hb⟩
         refine ⟨_, rfl, ?_⟩
         have aG := Aside0.mk (blk_below (g := aa) Z1 hb)
         have aH := Aside0.mk (below_step Z0 hb)
         clear ab
         clear HB
         have ab := aG
         have HB := aH
         clear aG aH
         (try clear hb)
         (try clear hb2)
         (try clear hk)
         (try clear hi)
         refine hK.out _ _ ⟨(blk_cell ab.out 0).trans rfl, (blk_cell ab.out 1).trans rfl, (blk_cell ab.out 2).trans rfl, (blk_cell ab.out 3).trans rfl, (blk_cell ab.out 4).trans rfl, (blk_cell ab.out 5).trans rfl, (blk_cell ab.out 6).trans rfl, (blk_cell ab.out 7).trans rfl, (blk_cell ab.out 8).trans rfl, (blk_cell ab.out 9).trans rfl, (blk_cell ab.out 10).trans rfl, (blk_cell ab.out 11).trans rfl, (blk_cell ab.out 12).trans rfl, (blk_cell ab.out 13).trans rfl, (blk_cell ab.out 14).trans rfl, (blk_cell ab.out 15).trans rfl, (blk_cell ab.out 16).trans rfl, (blk_cell ab.out 17).trans rfl, (blk_cell ab.out 18).trans rfl, (blk_cell ab.out 19).trans rfl, (blk_cell ab.out 20).trans rfl, (blk_cell ab.out 21).trans rfl, (blk_cell ab.out 22).trans rfl, (blk_cell ab.out 23).trans rfl, (blk_cell ab.out 24).trans rfl, ((HB.out.cell (World.block_lt_of_cell? w _ hw106_0)).trans hw106_0), ((HB.out.cell (World.block_lt_of_cell? w _ hw106_1)).trans hw106_1), ((HB.out.cell (World.block_lt_of_cell? w _ hw107_0)).trans hw107_0), ((HB.out.cell (World.block_lt_of_cell? w _ hw107_1)).trans hw107_1)⟩ (fun hHeld => ?_)
         clear hK K
         refine norm_ (a' := ?_) ?_ ?_
         rotate_left
         ·show Act.put _ (some 43) _ = _
          simp only [Act.put, List.setIfInBounds_toArray, List.set_cons_zero, List.set_cons_succ, i64_w, i32_w]
          rfl
         refine pure_ (i := 15) (N := some 44) (v := ?_) (a' := ?_) #[true, true, true, true, true, true, true, true, true, true, true, true, true, true, true, true, false] rfl rfl (any_of HT_.out Z6) (fun _ _ _ h => h) (Or.inl ⟨Z13, ?_⟩) ?_ ?_
         rotate_left
         ·intro w'
          go_simp
          with_reducible rfl
         rotate_left
         ·simp only [Act.put, List.setIfInBounds_toArray, List.set_cons_zero, List.set_cons_succ, i64_w, i32_w]
          rfl
         refine pure_ (i := 16) (N := some 4) (v := ?_) (a' := ?_) #[true, true, true, true, true, true, true, true, true, true, true, true, true, true, true, true, true] rfl rfl (any_of HT_.out Z6) (fun _ _ _ h => h) (Or.inl ⟨Z13, ?_⟩) ?_ ?_
         rotate_left
         ·intro w'
          go_simp
          with_reducible rfl
         rotate_left
         ·simp only [Act.put, List.setIfInBounds_toArray, List.set_cons_zero, List.set_cons_succ, i64_w, i32_w]
          rfl
         refine done_ (done_of HT_.out Z6) ?_
         try go_wp2_with (first | ((with_reducible refine Pre.gate_load 25 rfl ?_); (try (refine gate_guard Z13 ?_; dsimp only)); refine Pre.load_event rfl rfl rfl Z13 Z2 Try.underlying25 rfl Z6 ?_))
         go_roundg k1
         case measure => have := HK1.out; omega
         case rel => exact ⟨((cI ++ ((rd_T46 ae br).f0)) ++ aQ), (wrap64 (br + 1)), Z14, Z14, H', ⟨Z112⟩, ⟨Z1⟩, ⟨Z0⟩⟩
        ·rw [if_neg ej] at H
         exact absurd H Z73
       ·rw [if_neg gW] at H
        exact absurd H Z73
      ·rw [if_neg dB] at H
       exact absurd H Z73
     ·rw [if_neg hf] at H
      have jZ : decide (br < (ae.length : Int)) = false := decide_eq_false hf
      clear hf
      replace H := Option.bind_eq_some_iff.mp H
      obtain ⟨⟨aV, bi⟩, kH, H⟩ := H
      replace H : (if cI.size + aV.size ≤ 9223372036854775807 then (some (cI ++ aV, true)) else (none)) = some (r1, r2) := H
      have gN := Aside0.mk kH
      clear kH
      by_cases gU : cI.size + aV.size ≤ 9223372036854775807
      ·rw [if_pos gU] at H
       have kD := eq_true gU
       have nV : decide (cI.size + aV.size ≤ 9223372036854775807) = true := decide_eq_true gU
       try have uF : (9223372036854775807 < cI.size + aV.size) = False := eq_false (Nat.not_lt.2 gU)
       try (have uG := uF; simp only [ByteArray.size_append] at uG)
       simp only [Option.some.injEq, Prod.mk.injEq] at H
       obtain ⟨rfl, rfl⟩ := H
       have jl := cells_25 ab.out
       go_wp2_with (first | ((with_reducible refine Pre.gate_load 25 rfl ?_); (try (refine gate_guard Z13 ?_; dsimp only)); refine Pre.load_event rfl rfl rfl Z13 Z2 Try.underlying25 rfl Z6 ?_) | ((with_reducible refine gate_callee (f := 51) rfl ?_); refine goesL_ (some 48) rfl rfl Try.func51 Z6 rfl #[.slice aJ ag.length aK] rfl Z5 ?_; (with_reducible refine (roadbookref13_Put.calls k1 _ _ ag aV bi _ ?side1 ?side2 gN.out).mono ?_); (case side1 => exact Z7); (case side2 => exact bg.out); rintro e gn ⟨rfl, hb⟩; refine ⟨_, rfl, ?_⟩; have aG := Aside0.mk (blk_below (g := aa) Z1 hb); have aH := Aside0.mk (below_step Z0 hb); replace ab := aG; replace HB := aH; clear aG aH; (try clear hb); (try clear hb2); (try clear hk); (try clear hi)))
       go_ret2
       exact ⟨Z9, Z0⟩
      ·rw [if_neg gU] at H
       exact absurd H Z73
  ·rw [if_neg c4] at H
   exact absurd H Z73
 ·replace c3 := Bool.eq_false_iff.mpr c3
  subst c3
  have H1 : (some ((⟨#[]⟩ : ByteArray), false)) = some (r1, r2) := by rw [if_neg (show ¬ (false = true) by decide)] at H; exact H
  clear H
  have H := H1
  clear H1
  simp only [Option.some.injEq, Prod.mk.injEq] at H
  obtain ⟨rfl, rfl⟩ := H
  go_enter Try.func27, Try.ntmps27
  go_wp2_with (first | ((with_reducible refine Pre.gate_load 25 rfl ?_); (try (refine gate_guard Z13 ?_; dsimp only)); refine Pre.load_event rfl rfl rfl Z13 Z2 Try.underlying25 rfl Z6 ?_) | ((with_reducible refine gate_dst (N := 1) rfl ?_); refine box_event ?hg (N := 1) ?hd (cs := #[.int .i64 av, .int .i64 au, .int .i64 aw, .string ay, .int .i64 aD, .int .i64 az, .string aA, .int .i64 ax, .int .i64 aE, .string aC, .int .i64 ap, .string an, .int .i64 aj, .int .i64 am, .int .i64 ak, .int .i64 ah, .int .i64 ai, .int .i64 al, .int .i64 ao, .string ac, .string af, .slice aT ae.length aN, .int .i64 aq, .string ar, .slice aJ ag.length aK]) (t := 25) ?hr ?_; (case hd => rfl); (case hg => rfl); (case hr => first | (go_simp; done) | (go_simp; rfl)); intro aa hg ed hbox hb; have aG := Aside0.mk (below_step Z3 hb); have aH := Aside0.mk (hbox); have aI := Aside0.mk ((by rw [hg]; exact (below_size Z3) : w.heap.size ≤ aa)); have aZ := Aside0.mk ((by rw [hg]; exact (below_size Z3) : w.heap.size ≤ aa)); replace HB := aG; have ab := aH; have cl := aI; have bs := aZ; clear aG aH aI aZ; clear hb hbox hg; have iv := cells_25 ab.out) | ((with_reducible refine gate_callee (f := 29) rfl ?_); refine goesL_ (some 9) rfl rfl Try.func29 Z6 rfl #[.agg #[.int .i64 av, .int .i64 au, .int .i64 aw, .string ay, .int .i64 aD, .int .i64 az, .string aA, .int .i64 ax, .int .i64 aE, .string aC, .int .i64 ap, .string an, .int .i64 aj, .int .i64 am, .int .i64 ak, .int .i64 ah, .int .i64 ai, .int .i64 al, .int .i64 ao, .string ac, .string af, .slice aT ae.length aN, .int .i64 aq, .string ar, .slice aJ ag.length aK]] rfl Z5 ?_; (with_reducible refine (roadbookref16_Right.calls k av au aw ay aD az aA ax aE aC ap an aj am ak ah ai al ao ac af _ _ ae aq ar _ _ ag false _ ?side1 ?side2 ?side3 ?side4 A2.out).mono ?_); (case side1 => exact Z8); (case side2 => exact bl.out); (case side3 => exact Z7); (case side4 => exact bg.out); rintro e gD ⟨rfl, hb⟩; refine ⟨_, rfl, ?_⟩; have aG := Aside0.mk (blk_below (g := aa) Z1 hb); have aH := Aside0.mk (below_step Z0 hb); replace ab := aG; replace HB := aH; clear aG aH; (try clear hb); (try clear hb2); (try clear hk); (try clear hi)))
  go_ret2
  exact ⟨Z9, Z0⟩

end Go.Proofs.Ytccjakjjaemmkaa.PR
