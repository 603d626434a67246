-- Written by mp.py, a program of this work (wip/tools), out of the translation; Lean checks it.
import Derived.Test.YtccjakjjaemmkaaPRxZ
import Derived.Test.YtccjakjjaemmkaaPRxext
import Derived.Test.YtccjakjjaemmkaaPRxoctet
import Derived.Test.YtccjakjjaemmkaaPRxrerrRight
namespace Go.Proofs.Ytccjakjjaemmkaa.PR
open Go.RowKit Go.Proofs.YtccjakjjaemmkaaW.PrintWords Go.Proofs.YtccjakjjaemmkaaW.PrintLast Go.Proofs.YtccjakjjaemmkaaW.PrintMore
attribute [local go_sem] max2_int min2_int max_two min_two max_three min_three max_four min_four   -- for this text's walks alone
set_option linter.unusedVariables false
set_option linter.unusedSimpArgs false

/-! ### rerr_Put: function 26 -/
def rerr_Put.l0 : Nat → List Int → List (S46) → Int → Int → Int → Int → Int → ByteArray → Int → Int → ByteArray → Int → Int → ByteArray → Int → ByteArray → Int → Int → Int → Int → Int → Int → Int → ByteArray → ByteArray → List (S46) → Int → ByteArray → List (S48) → Option (ByteArray × Bool)
 | 0, _, _, _, _, _, _, _, _, _, _, _, _, _, _, _, _, _, _, _, _, _, _, _, _, _, _, _, _, _ => none
 | k + 1, x4, ug, vm, rs, bw, bM, bN, bO, bP, bQ, bR, bx, bS, bT, bU, bI, bA, bF, bC, bv, bB, bG, bJ, bD, bE, bq, bK, bL, bu => if rs < vm then (if 0 ≤ rs then (if rs < (ug.length : Int) then ((octet_Put.f k ((rd_T46 ug rs).f1) 4).bind fun fC => (if x4.length + ((rd_T46 ug rs).f0).size < 140737488355328 then ((some (x4 ++ bytesOf ((rd_T46 ug rs).f0) : List Int)).bind fun kw => (if kw.length + fC.1.size < 140737488355328 then (rerr_Put.l0 k (kw ++ bytesOf fC.1) ug vm (wrap64 (rs + 1)) bw bM bN bO bP bQ bR bx bS bT bU bI bA bF bC bv bB bG bJ bD bE bq bK bL bu) else (none))) else (none))) else (none)) else (none)) else ((ext_Put.f k bu).bind fun qL => (if (strOfNums x4).size + qL.1.size ≤ 9223372036854775807 then (some ((strOfNums x4) ++ qL.1, true)) else (none)))
def rerr_Put.f (k : Nat) (av : Int) (au : Int) (aw : Int) (ay : ByteArray) (aD : Int) (az : Int) (aA : ByteArray) (ax : Int) (aE : Int) (aC : ByteArray) (ap : Int) (an : ByteArray) (aj : Int) (am : Int) (ak : Int) (ah : Int) (ai : Int) (al : Int) (ao : Int) (ac : ByteArray) (af : ByteArray) (ae : List (S46)) (aq : Int) (ar : ByteArray) (ag : List (S48)) : Option (ByteArray × Bool) := (rerr_Right.f k av au aw ay aD az aA ax aE aC ap an aj am ak ah ai al ao ac af ae aq ar ag).bind fun ba => (if ba = true then (rerr_Put.l0 k (([3, (wrap64 (ah * 128)) % 256, 0, ((ae.length : Int)) % 256] : List Int)) ae (ae.length : Int) 0 av au aw ay aD az aA ax aE aC ap an aj am ak ah ai al ao ac af ae aq ar ag) else (some ((⟨#[]⟩ : ByteArray), false)))
theorem rerr_Put.mono_l : ∀ k, (∀ y0 y1 y2 y3 y4 y5 y6 y7 y8 y9 fi fj fk fl fm fn fo fp fq fr fs ft fu fv fw fx hH jk kj, LeO (rerr_Put.l0 k y0 y1 y2 y3 y4 y5 y6 y7 y8 y9 fi fj fk fl fm fn fo fp fq fr fs ft fu fv fw fx hH jk kj) (rerr_Put.l0 (k + 1) y0 y1 y2 y3 y4 y5 y6 y7 y8 y9 fi fj fk fl fm fn fo fp fq fr fs ft fu fv fw fx hH jk kj))
 | 0 => fun _ _ _ _ _ _ _ _ _ _ _ _ _ _ _ _ _ _ _ _ _ _ _ _ _ _ _ _ _ r h => by simp [rerr_Put.l0] at h
 | k + 1 => by
  have ih0 := rerr_Put.mono_l k
  ·intro y0 y1 y2 y3 y4 y5 y6 y7 y8 y9 fi fj fk fl fm fn fo fp fq fr fs ft fu fv fw fx hH jk kj
   unfold rerr_Put.l0
   repeat' first
   | (with_reducible exact ih0 ..)
   | (with_reducible exact ext_Put.mono _ _)
   | (with_reducible exact octet_Put.mono _ _ _)
   | (with_reducible exact rerr_Right.mono _ _ _ _ _ _ _ _ _ _ _ _ _ _ _ _ _ _ _ _ _ _ _ _ _ _)
   | (with_reducible exact LeO.refl _)
   | (with_reducible exact LeO.none _)
   | (with_reducible refine LeO.ite ?_ ?_)
   | (with_reducible refine LeO.bind ?_ (fun _ => ?_))
   | exact ih0 ..
   | exact ext_Put.mono _ _
   | exact octet_Put.mono _ _ _
   | exact rerr_Right.mono _ _ _ _ _ _ _ _ _ _ _ _ _ _ _ _ _ _ _ _ _ _ _ _ _ _
   | exact LeO.none _
   | refine LeO.ite ?_ ?_
   | refine LeO.bind ?_ (fun _ => ?_)
theorem rerr_Put.mono : ∀ a0 a1 a2 a3 a4 a5 a6 a7 a8 a9 fJ fK fL fM fN fO fP fQ fR fS fT fU fV fW fX k, LeO (rerr_Put.f k a0 a1 a2 a3 a4 a5 a6 a7 a8 a9 fJ fK fL fM fN fO fP fQ fR fS fT fU fV fW fX) (rerr_Put.f (k + 1) a0 a1 a2 a3 a4 a5 a6 a7 a8 a9 fJ fK fL fM fN fO fP fQ fR fS fT fU fV fW fX) := by
 intro a0 a1 a2 a3 a4 a5 a6 a7 a8 a9 fJ fK fL fM fN fO fP fQ fR fS fT fU fV fW fX k
 have ih0 := rerr_Put.mono_l k
 unfold rerr_Put.f
 repeat' first
   | (with_reducible exact ih0 ..)
   | (with_reducible exact ext_Put.mono _ _)
   | (with_reducible exact octet_Put.mono _ _ _)
   | (with_reducible exact rerr_Right.mono _ _ _ _ _ _ _ _ _ _ _ _ _ _ _ _ _ _ _ _ _ _ _ _ _ _)
   | (with_reducible exact LeO.refl _)
   | (with_reducible exact LeO.none _)
   | (with_reducible refine LeO.ite ?_ ?_)
   | (with_reducible refine LeO.bind ?_ (fun _ => ?_))
   | exact ih0 ..
   | exact ext_Put.mono _ _
   | exact octet_Put.mono _ _ _
   | exact rerr_Right.mono _ _ _ _ _ _ _ _ _ _ _ _ _ _ _ _ _ _ _ _ _ _ _ _ _ _
   | exact LeO.none _
   | refine LeO.ite ?_ ?_
   | refine LeO.bind ?_ (fun _ => ?_)

set_option maxHeartbeats 8000000 in
set_option maxRecDepth 100000 in
theorem rerr_Put.calls (k : Nat) (av : Int) (au : Int) (aw : Int) (ay : ByteArray) (aD : Int) (az : Int) (aA : ByteArray) (ax : Int) (aE : Int) (aC : ByteArray) (ap : Int) (an : ByteArray) (aj : Int) (am : Int) (ak : Int) (ah : Int) (ai : Int) (al : Int) (ao : Int) (ac : ByteArray) (af : ByteArray) (aT : Option Addr) (aN : Nat) (ae : List (S46)) (aq : Int) (ar : ByteArray) (aJ : Option Addr) (aK : Nat) (ag : List (S48)) (r1 : ByteArray) (r2 : Bool) (w : World) (bY : Kd.C k46 w aT ae.length ae) (bZ : ae.length ≤ aN) (ca : Kd.C k48 w aJ ag.length ag) (cb : ag.length ≤ aK) (h : rerr_Put.f k av au aw ay aD az aA ax aE aC ap an aj am ak ah ai al ao ac af ae aq ar ag = some (r1, r2)) :
  Calls Try.prog 26 #[.agg #[.int .i64 av, .int .i64 au, .int .i64 aw, .string ay, .int .i64 aD, .int .i64 az, .string aA, .int .i64 ax, .int .i64 aE, .string aC, .int .i64 ap, .string an, .int .i64 aj, .int .i64 am, .int .i64 ak, .int .i64 ah, .int .i64 ai, .int .i64 al, .int .i64 ao, .string ac, .string af, .slice aT ae.length aN, .int .i64 aq, .string ar, .slice aJ ag.length aK]] w fun e w' => e = .returned (.tuple #[.string r1, .bool r2]) ∧ Below w.heap.size w w' := by
 have gB := Try.underlying25
 have pa := Try.underlying46
 have cT := Aside0.mk bY
 have bl := Aside0.mk bZ
 clear bY bZ
 have cP := Aside0.mk ca
 have bg := Aside0.mk cb
 clear ca cb
 have HB := Aside0.mk (Below.refl w.heap.size w)
 have H : ((rerr_Right.f k av au aw ay aD az aA ax aE aC ap an aj am ak ah ai al ao ac af ae aq ar ag).bind fun ba => (if ba = true then (rerr_Put.l0 k (([3, (wrap64 (ah * 128)) % 256, 0, ((ae.length : Int)) % 256] : List Int)) ae (ae.length : Int) 0 av au aw ay aD az aA ax aE aC ap an aj am ak ah ai al ao ac af ae aq ar ag) else (some ((⟨#[]⟩ : ByteArray), false)))) = some (r1, r2) := h
 clear h
 replace H := Option.bind_eq_some_iff.mp H
 obtain ⟨ba, gN, H⟩ := H
 replace H : (if ba = true then (rerr_Put.l0 k (([3, (wrap64 (ah * 128)) % 256, 0, ((ae.length : Int)) % 256] : List Int)) ae (ae.length : Int) 0 av au aw ay aD az aA ax aE aC ap an aj am ak ah ai al ao ac af ae aq ar ag) else (some ((⟨#[]⟩ : ByteArray), false))) = some (r1, r2) := H
 have A2 := Aside0.mk gN
 clear gN
 by_cases c3 : ba = true
 ·subst c3
  have H1 : (rerr_Put.l0 k (([3, (wrap64 (ah * 128)) % 256, 0, ((ae.length : Int)) % 256] : List Int)) ae (ae.length : Int) 0 av au aw ay aD az aA ax aE aC ap an aj am ak ah ai al ao ac af ae aq ar ag) = some (r1, r2) := by rw [if_pos rfl] at H; exact H
  clear H
  have H := H1
  clear H1
  obtain ⟨fb, hy103⟩ : ∃ y_ : List Int, y_ = (([3, (wrap64 (ah * 128)) % 256, 0, ((ae.length : Int)) % 256] : List Int)) := ⟨_, rfl⟩
  replace H : (rerr_Put.l0 k fb ae (ae.length : Int) 0 av au aw ay aD az aA ax aE aC ap an aj am ak ah ai al ao ac af ae aq ar ag) = some (r1, r2) := by first | (rw [hy103]; with_reducible exact H) | (have H2_ := (Option.bind_some _ _).symm.trans H; rw [hy103]; with_reducible exact H2_) | (have H2_ := (Option.bind_some _ _).symm.trans H; with_reducible exact H2_) | with_reducible exact H | (rw [hy103]; exact H) | exact H
  have Ny103 := Aside0.mk hy103
  clear hy103
  have H' := Aside0.mk H
  clear H
  go_enter Try.func26, Try.ntmps26
  go_wp2_with (first | ((with_reducible refine Pre.gate_load 25 rfl ?_); (try (refine gate_guard Z13 ?_; dsimp only)); refine Pre.load_event rfl rfl rfl Z13 Z45 Try.underlying25 rfl Z6 ?_) | ((with_reducible refine gate_dst (N := 1) rfl ?_); refine box_event ?hg (N := 1) ?hd (cs := #[.int .i64 av, .int .i64 au, .int .i64 aw, .string ay, .int .i64 aD, .int .i64 az, .string aA, .int .i64 ax, .int .i64 aE, .string aC, .int .i64 ap, .string an, .int .i64 aj, .int .i64 am, .int .i64 ak, .int .i64 ah, .int .i64 ai, .int .i64 al, .int .i64 ao, .string ac, .string af, .slice aT ae.length aN, .int .i64 aq, .string ar, .slice aJ ag.length aK]) (t := 25) ?hr ?_; (case hd => rfl); (case hg => rfl); (case hr => first | (go_simp; done) | (go_simp; rfl)); intro aa hg w4 hbox hb; have aG := Aside0.mk (below_step Z3 hb); have aH := Aside0.mk (hbox); have aI := Aside0.mk ((by rw [hg]; exact (below_size Z3) : w.heap.size ≤ aa)); have aZ := Aside0.mk ((by rw [hg]; exact (below_size Z3) : w.heap.size ≤ aa)); replace HB := aG; have ab := aH; have cl := aI; have bs := aZ; clear aG aH aI aZ; clear hb hbox hg; have mS := cells_25 ab.out) | ((with_reducible refine gate_callee (f := 28) rfl ?_); refine goesL_ (some 12) rfl rfl Try.func28 Z6 rfl #[.agg #[.int .i64 av, .int .i64 au, .int .i64 aw, .string ay, .int .i64 aD, .int .i64 az, .string aA, .int .i64 ax, .int .i64 aE, .string aC, .int .i64 ap, .string an, .int .i64 aj, .int .i64 am, .int .i64 ak, .int .i64 ah, .int .i64 ai, .int .i64 al, .int .i64 ao, .string ac, .string af, .slice aT ae.length aN, .int .i64 aq, .string ar, .slice aJ ag.length aK]] rfl Z5 ?_; (with_reducible refine (rerr_Right.calls k av au aw ay aD az aA ax aE aC ap an aj am ak ah ai al ao ac af _ _ ae aq ar _ _ ag true _ ?side1 ?side2 ?side3 ?side4 A2.out).mono ?_); (case side1 => exact Z8); (case side2 => exact bl.out); (case side3 => exact Z7); (case side4 => exact bg.out); rintro e w6 ⟨rfl, hb⟩; refine ⟨_, rfl, ?_⟩; have aG := Aside0.mk (blk_below (g := aa) Z1 hb); have aH := Aside0.mk (below_step Z0 hb); replace ab := aG; replace HB := aH; clear aG aH; (try clear hb); (try clear hb2); (try clear hk); (try clear hi); have jy := cells_25 ab.out) | ((with_reducible refine gate_dst (N := 22) rfl ?_); refine Kd.R_lit (Kd.int .u8) _ 5 ?hg (N := 22) ?hd (xs := ([3, (wrap64 (ah * 128)) % 256, 0, ((ae.length : Int)) % 256] : List Int)) (inner := [.int .u8 3, .int .u8 ((wrap64 (ah * 128)) % 256), .int .u8 0, .int .u8 (((ae.length : Int)) % 256)]) (ok := fun _ => True) (okp := fun _ => True) ?hr ?hp (fun _ hk => hk) trivial (Below.refl _ _) (Nat.le_refl _) Z73 ?_; (case hd => rfl); (case hg => rfl); (case hr => first | (go_simp; done) | (go_simp; rfl)); (case hp => exact (Reps.one (show Kd.M (Kd.int .u8) _ _ _ 3 [.int .u8 3] from rfl) (Reps.one (show Kd.M (Kd.int .u8) _ _ _ ((wrap64 (ah * 128)) % 256) [.int .u8 ((wrap64 (ah * 128)) % 256)] from rfl) (Reps.one (show Kd.M (Kd.int .u8) _ _ _ 0 [.int .u8 0] from rfl) (Reps.one (show Kd.M (Kd.int .u8) _ _ _ (((ae.length : Int)) % 256) [.int .u8 (((ae.length : Int)) % 256)] from rfl) (Reps.none _ _)))))); intro qZ w8 ho9 hb hg_ hnew_; clear hg_ hnew_; (first | rw [← Ny103.out] at ho9 | (simp only [Int.reduceToNat] at ho9; rw [← Ny103.out] at ho9)); have aG := Aside0.mk (Kd.R_lower ho9 (below_size Z0)); have aH := Aside0.mk (blk_below (g := aa) Z1 hb); have aI := Aside0.mk (below_step Z0 hb); have lw := aG; replace ab := aH; replace HB := aI; clear aG aH aI; clear hb ho9; have jH := cells_25 ab.out))
  go_loopg [4, 26] k (fun kq v4 xh w' => ∃ (cI : List Int) (er : Int), xh = .int .i64 er ∧ Aside0 (rerr_Put.l0 kq cI ae (ae.length : Int) er av au aw ay aD az aA ax aE aC ap an aj am ak ah ai al ao ac af ae aq ar ag = some (r1, r2)) ∧ Aside0 (kq ≤ k) ∧ Aside0 (Kd.R (Kd.int .u8) 5 w' w.heap.size (fun _ => True) v4 cI) ∧ Aside0 (w'.heap[aa]? = some (.cells #[.int .i64 av, .int .i64 au, .int .i64 aw, .string ay, .int .i64 aD, .int .i64 az, .string aA, .int .i64 ax, .int .i64 aE, .string aC, .int .i64 ap, .string an, .int .i64 aj, .int .i64 am, .int .i64 ak, .int .i64 ah, .int .i64 ai, .int .i64 al, .int .i64 ao, .string ac, .string af, (.slice aT ae.length aN), .int .i64 aq, .string ar, (.slice aJ ag.length aK)] 25 (0, 0))) ∧ Aside0 (Below w.heap.size w w'))
  case atStart => exact ⟨(fb), (0), Z14, H', ⟨Nat.le_refl _⟩, ⟨Z117⟩, ⟨Z1⟩, ⟨Z0⟩⟩
  case round =>
   clear H'
   try clear c2
   try clear p2
   try clear c3
   try clear p6
   try clear jH
   try clear mS
   try clear jy
   obtain ⟨cI, er, rfl, HA, HK1, HO_4, ab, HB⟩ := hrel
   cases gk with
   | zero => exact absurd HA.out (by simp [rerr_Put.l0])
   | succ k1 =>
    have H := HA.out
    clear HA
    simp only [rerr_Put.l0] at H
    by_cases cU : er < (ae.length : Int)
    ·rw [if_pos cU] at H
     have fE : decide (er < (ae.length : Int)) = true := decide_eq_true cU
     clear cU
     by_cases hf : 0 ≤ er
     ·rw [if_pos hf] at H
      have jZ : decide (0 ≤ er) = true := decide_eq_true hf
      clear hf
      by_cases dB : er < (ae.length : Int)
      ·rw [if_pos dB] at H
       have gF : decide (er < (ae.length : Int)) = true := decide_eq_true dB
       clear dB
       replace H := Option.bind_eq_some_iff.mp H
       obtain ⟨⟨aQ, aV⟩, iu, H⟩ := H
       replace H : (if cI.length + ((rd_T46 ae er).f0).size < 140737488355328 then ((some (cI ++ bytesOf ((rd_T46 ae er).f0) : List Int)).bind fun kw => (if kw.length + aQ.size < 140737488355328 then (rerr_Put.l0 k1 (kw ++ bytesOf aQ) ae (ae.length : Int) (wrap64 (er + 1)) av au aw ay aD az aA ax aE aC ap an aj am ak ah ai al ao ac af ae aq ar ag) else (none))) else (none)) = some (r1, r2) := H
       have mJ := Aside0.mk iu
       clear iu
       by_cases fd : cI.length + ((rd_T46 ae er).f0).size < 140737488355328
       ·rw [if_pos fd] at H
        have LMc15 := Aside0.mk fd
        clear fd
        obtain ⟨kw, hy110⟩ : ∃ y_ : List Int, y_ = (cI ++ bytesOf ((rd_T46 ae er).f0)) := ⟨_, rfl⟩
        replace H : (if kw.length + aQ.size < 140737488355328 then (rerr_Put.l0 k1 (kw ++ bytesOf aQ) ae (ae.length : Int) (wrap64 (er + 1)) av au aw ay aD az aA ax aE aC ap an aj am ak ah ai al ao ac af ae aq ar ag) else (none)) = some (r1, r2) := by first | (rw [hy110]; with_reducible exact H) | (have H2_ := (Option.bind_some _ _).symm.trans H; rw [hy110]; with_reducible exact H2_) | (have H2_ := (Option.bind_some _ _).symm.trans H; with_reducible exact H2_) | with_reducible exact H | (rw [hy110]; exact H) | exact H
        have Ny110 := Aside0.mk hy110
        clear hy110
        by_cases ej : kw.length + aQ.size < 140737488355328
        ·rw [if_pos ej] at H
         have LMc16 := Aside0.mk ej
         clear ej
         obtain ⟨rt, hy113⟩ : ∃ y_ : List Int, y_ = (kw ++ bytesOf aQ) := ⟨_, rfl⟩
         replace H : (rerr_Put.l0 k1 rt ae (ae.length : Int) (wrap64 (er + 1)) av au aw ay aD az aA ax aE aC ap an aj am ak ah ai al ao ac af ae aq ar ag) = some (r1, r2) := by first | (rw [hy113]; with_reducible exact H) | (have H2_ := (Option.bind_some _ _).symm.trans H; rw [hy113]; with_reducible exact H2_) | (have H2_ := (Option.bind_some _ _).symm.trans H; with_reducible exact H2_) | with_reducible exact H | (rw [hy113]; exact H) | exact H
         have Ny113 := Aside0.mk hy113
         clear hy113
         have H' := Aside0.mk H
         clear H
         have p106 : 0 ≤ (er : Int) := of_decide_eq_true Z10
         have q106 : er < (ae.length : Int) := of_decide_eq_true Z10
         obtain ⟨ad106, e106, hx106_0, hx106_1⟩ := at_T46 cT.out er p106 q106
         cases e106
         replace hx106_0 := (HB.out.cell (World.block_lt_of_cell? w _ hx106_0)).trans hx106_0
         replace hx106_1 := (HB.out.cell (World.block_lt_of_cell? w _ hx106_1)).trans hx106_1
         replace p106 := eq_true p106
         replace q106 := eq_true q106
         go_wp2_with (first | ((with_reducible refine Pre.gate_load 25 rfl ?_); (try (refine gate_guard Z13 ?_; dsimp only)); refine Pre.load_event rfl rfl rfl Z13 Z45 Try.underlying25 rfl Z6 ?_) | ((with_reducible refine gate_dst (N := 6) rfl ?_); refine box_event ?hg (N := 6) ?hd (cs := #[.string ⟨#[]⟩, .int .i64 0]) (t := 46) ?hr ?_; (case hd => rfl); (case hg => rfl); (case hr => first | (go_simp; done) | (go_simp; rfl)); intro cd hg kz hbox hb; have aG := Aside0.mk (Kd.R_below Z113 hb); have aH := Aside0.mk (blk_below (g := aa) Z1 hb); have aI := Aside0.mk (below_step Z0 hb); have aZ := Aside0.mk (hbox); have bH := Aside0.mk ((by rw [hg]; exact (below_size Z0) : w.heap.size ≤ cd)); have cx := Aside0.mk ((by rw [hg]; exact (below_size Z0) : w.heap.size ≤ cd)); have du := Aside0.mk ((by rw [hg]; exact Nat.ne_of_lt (blk_lt (g := aa) Z1) : aa ≠ cd)); have gE := Aside0.mk ((by rw [hg]; exact Nat.ne_of_gt (blk_lt (g := aa) Z1) : cd ≠ aa)); replace HO_4 := aG; replace ab := aH; replace HB := aI; have bX := aZ; have ng := bH; have jz := cx; have hh := du; have jq := gE; clear aG aH aI aZ bH cx du gE; clear hb hbox hg; have uh := jq.out; have ui := hh.out; have pX : kz.cell? ⟨cd, 0, none⟩ = some (.string ⟨#[]⟩) := (blk_cell bX.out 0).trans rfl; have pY : kz.cell? ⟨cd, 1, none⟩ = some (.int .i64 0) := (blk_cell bX.out 1).trans rfl; have hfz19_0 := blk_frozen bX.out 0; have hfz19_1 := blk_frozen bX.out 1) | ((with_reducible refine gate_callee (f := 67) rfl ?_); refine goesL_ (some 33) rfl rfl Try.func67 Z6 rfl #[.int .i64 ((rd_T46 ae er).f1), .int .i64 4] rfl Z5 ?_; (with_reducible refine (octet_Put.calls k1 ((rd_T46 ae er).f1) 4 aQ aV _ mJ.out).mono ?_); rintro e kG ⟨rfl, hb⟩; refine ⟨_, rfl, ?_⟩; have aG := Aside0.mk (Kd.R_below (by (with_reducible repeat (first | apply Kd.R_alloc | apply Kd.R_drewN | apply Kd.R_drew)); exact (Kd.R_mono (Kd.R_far (p := ⟨cd, 1, none⟩) (Kd.R_far (p := ⟨cd, 0, none⟩) (Kd.R_types HO_4.out bX.out Z32) (fun _ hk => hk.2) (.string ((rd_T46 ae er).f0))) (fun _ hk => hk.2) (.int .i64 ((rd_T46 ae er).f1))) (fun _ h_ => h_.1))) hb); have aH := Aside0.mk (blk_below (g := aa) (o := .cells #[.int .i64 av, .int .i64 au, .int .i64 aw, .string ay, .int .i64 aD, .int .i64 az, .string aA, .int .i64 ax, .int .i64 aE, .string aC, .int .i64 ap, .string an, .int .i64 aj, .int .i64 am, .int .i64 ak, .int .i64 ah, .int .i64 ai, .int .i64 al, .int .i64 ao, .string ac, .string af, .slice (some ad106) ae.length aN, .int .i64 aq, .string ar, .slice aJ ag.length aK] 25 (0, 0)) (by (with_reducible repeat (first | refine blk_drewN ?_ _ | refine blk_drew ?_ | refine blk_alloc ?_ _)); refine blk_far ?_ hh.out _; (with_reducible repeat (first | refine blk_drewN ?_ _ | refine blk_drew ?_ | refine blk_alloc ?_ _)); refine blk_far ?_ hh.out _; (with_reducible repeat (first | refine blk_drewN ?_ _ | refine blk_drew ?_ | refine blk_alloc ?_ _)); exact ab.out) hb); have aI := Aside0.mk (blk_below (g := cd) (o := .cells #[.string ((rd_T46 ae er).f0), .int .i64 ((rd_T46 ae er).f1)] 46 (0, 0)) (by (with_reducible repeat (first | refine blk_drewN ?_ _ | refine blk_drew ?_ | refine blk_alloc ?_ _)); refine blk_put (cs := #[.string ((rd_T46 ae er).f0), .int .i64 0]) ?_ 1 _ rfl; (with_reducible repeat (first | refine blk_drewN ?_ _ | refine blk_drew ?_ | refine blk_alloc ?_ _)); refine blk_put (cs := #[.string ⟨#[]⟩, .int .i64 0]) ?_ 0 _ rfl; (with_reducible repeat (first | refine blk_drewN ?_ _ | refine blk_drew ?_ | refine blk_alloc ?_ _)); exact bX.out) hb); have aZ := Aside0.mk (below_step Z38 hb); replace HO_4 := aG; replace ab := aH; replace bX := aI; replace HB := aZ; clear aG aH aI aZ; (try clear hb); (try clear hb2); (try clear hk); (try clear hi); have hcz21_0 : kG.cell? ⟨cd, 0, none⟩ = some (.string ((rd_T46 ae er).f0)) := (blk_cell bX.out 0).trans rfl; have hcz21_1 : kG.cell? ⟨cd, 1, none⟩ = some (.int .i64 ((rd_T46 ae er).f1)) := (blk_cell bX.out 1).trans rfl; have hfz21_0 := blk_frozen bX.out 0; have hfz21_1 := blk_frozen bX.out 1) | (at_builtin; refine print_append_str (w0 := w) w.heap.size rfl (.tmp 36) _ 51 9 5 rfl Try.underlying51 Try.underlying9 info5 u4 cI ((rd_T46 ae er).f0) rfl rfl ?aO ?aB ?aS ?aL ?_; (case aB => exact Z38); (case aO => exact (Kd.own_of_R Z113)); (case aS => exact (below_size Z38)); (case aL => have := LMc15.out; omega); intro uj ij ho0 hb hg; have ho := Kd.R_of_own (h1 := fun _ => rfl) (ok := fun _ => True) ho0 (fun _ _ => trivial); clear ho0; have hat := True.intro; rw [← Ny110.out] at ho; change Kd.R (Kd.int .u8) 5 ij w.heap.size (fun _ => True) uj kw at ho; have aG := Aside0.mk (blk_grown (g := aa) (o := .cells #[.int .i64 av, .int .i64 au, .int .i64 aw, .string ay, .int .i64 aD, .int .i64 az, .string aA, .int .i64 ax, .int .i64 aE, .string aC, .int .i64 ap, .string an, .int .i64 aj, .int .i64 am, .int .i64 ak, .int .i64 ah, .int .i64 ai, .int .i64 al, .int .i64 ao, .string ac, .string af, .slice (some ad106) ae.length aN, .int .i64 aq, .string ar, .slice aJ ag.length aK] 25 (0, 0)) Z1 hg (Kd.R_ne HO_4.out ab.out Z32)); have aH := Aside0.mk (blk_grown (g := cd) (o := .cells #[.string ((rd_T46 ae er).f0), .int .i64 ((rd_T46 ae er).f1)] 46 (0, 0)) Z46 hg (Kd.R_ne HO_4.out bX.out Z32)); have aI := Aside0.mk (hb); have aZ := Aside0.mk (ho); clear HO_4; replace ab := aG; replace bX := aH; replace HB := aI; have ns := aZ; clear aG aH aI aZ; clear ho hb hg hat) | (at_builtin; refine print_append_str (w0 := w) w.heap.size rfl (.tmp 40) _ 51 9 5 rfl Try.underlying51 Try.underlying9 info5 uj kw aQ rfl rfl ?aO ?aB ?aS ?aL ?_; (case aB => exact Z38); (case aO => exact (Kd.own_of_R (by (with_reducible repeat (first | apply Kd.R_alloc | apply Kd.R_drewN | apply Kd.R_drew)); exact ns.out))); (case aS => exact (below_size Z38)); (case aL => have := LMc16.out; omega); intro vI gn ho0 hb hg; have ho := Kd.R_of_own (h1 := fun _ => rfl) (ok := fun _ => True) ho0 (fun _ _ => trivial); clear ho0; have hat := True.intro; rw [← Ny113.out] at ho; change Kd.R (Kd.int .u8) 5 gn w.heap.size (fun _ => True) vI rt at ho; have aG := Aside0.mk (blk_grown (g := aa) (o := .cells #[.int .i64 av, .int .i64 au, .int .i64 aw, .string ay, .int .i64 aD, .int .i64 az, .string aA, .int .i64 ax, .int .i64 aE, .string aC, .int .i64 ap, .string an, .int .i64 aj, .int .i64 am, .int .i64 ak, .int .i64 ah, .int .i64 ai, .int .i64 al, .int .i64 ao, .string ac, .string af, .slice (some ad106) ae.length aN, .int .i64 aq, .string ar, .slice aJ ag.length aK] 25 (0, 0)) Z1 hg (Kd.R_ne ns.out ab.out Z32)); have aH := Aside0.mk (blk_grown (g := cd) (o := .cells #[.string ((rd_T46 ae er).f0), .int .i64 ((rd_T46 ae er).f1)] 46 (0, 0)) Z46 hg (Kd.R_ne ns.out bX.out Z32)); have aI := Aside0.mk (hb); have aZ := Aside0.mk (ho); clear ns; replace ab := aG; replace bX := aH; replace HB := aI; have uk := aZ; clear aG aH aI aZ; clear ho hb hg hat))
         go_roundg k1
         case measure => have := HK1.out; omega
         case rel => exact ⟨(rt), (wrap64 (er + 1)), Z14, H', ⟨Z112⟩, ⟨by (with_reducible repeat (first | apply Kd.R_alloc | apply Kd.R_drewN | apply Kd.R_drew)); exact uk.out⟩, ⟨Z1⟩, ⟨Z38⟩⟩
        ·rw [if_neg ej] at H
         exact absurd H Z73
       ·rw [if_neg fd] at H
        exact absurd H Z73
      ·rw [if_neg dB] at H
       exact absurd H Z73
     ·rw [if_neg hf] at H
      exact absurd H Z73
    ·rw [if_neg cU] at H
     have fE : decide (er < (ae.length : Int)) = false := decide_eq_false cU
     clear cU
     replace H := Option.bind_eq_some_iff.mp H
     obtain ⟨⟨ce, cq⟩, mb, H⟩ := H
     replace H : (if (strOfNums cI).size + ce.size ≤ 9223372036854775807 then (some ((strOfNums cI) ++ ce, true)) else (none)) = some (r1, r2) := H
     have im := Aside0.mk mb
     clear mb
     by_cases kf : (strOfNums cI).size + ce.size ≤ 9223372036854775807
     ·rw [if_pos kf] at H
      have qk := eq_true kf
      have ql : decide ((strOfNums cI).size + ce.size ≤ 9223372036854775807) = true := decide_eq_true kf
      try have ul : (9223372036854775807 < (strOfNums cI).size + ce.size) = False := eq_false (Nat.not_lt.2 kf)
      try (have um := ul; simp only [ByteArray.size_append] at um)
      simp only [Option.some.injEq, Prod.mk.injEq] at H
      obtain ⟨rfl, rfl⟩ := H
      have iO := cells_25 ab.out
      go_wp2_with (first | ((with_reducible refine Pre.gate_load 25 rfl ?_); (try (refine gate_guard Z13 ?_; dsimp only)); refine Pre.load_event rfl rfl rfl Z13 Z45 Try.underlying25 rfl Z6 ?_) | ((with_reducible refine gate_callee (f := 49) rfl ?_); refine goesL_ (some 47) rfl rfl Try.func49 Z6 rfl #[.slice aJ ag.length aK] rfl Z5 ?_; (with_reducible refine (ext_Put.calls k1 _ _ ag ce cq _ ?side1 ?side2 im.out).mono ?_); (case side1 => exact Z7); (case side2 => exact bg.out); rintro e iy ⟨rfl, hb⟩; refine ⟨_, rfl, ?_⟩; have aG := Aside0.mk (Kd.R_below Z113 hb); have aH := Aside0.mk (blk_below (g := aa) Z1 hb); have aI := Aside0.mk (below_step Z0 hb); replace HO_4 := aG; replace ab := aH; replace HB := aI; clear aG aH aI; (try clear hb); (try clear hb2); (try clear hk); (try clear hi); have hcv28 := own_string (P := Try.prog) Try.underlying51 Try.underlying5 Try.underlying9 (Kd.own_of_R HO_4.out)))
      go_ret2
      exact ⟨Z9, Z0⟩
     ·rw [if_neg kf] at H
      exact absurd H Z73
 ·replace c3 := Bool.eq_false_iff.mpr c3
  subst c3
  have H1 : (some ((⟨#[]⟩ : ByteArray), false)) = some (r1, r2) := by rw [if_neg (show ¬ (false = true) by decide)] at H; exact H
  clear H
  have H := H1
  clear H1
  simp only [Option.some.injEq, Prod.mk.injEq] at H
  obtain ⟨rfl, rfl⟩ := H
  go_enter Try.func26, Try.ntmps26
  go_wp2_with (first | ((with_reducible refine Pre.gate_load 25 rfl ?_); (try (refine gate_guard Z13 ?_; dsimp only)); refine Pre.load_event rfl rfl rfl Z13 Z45 Try.underlying25 rfl Z6 ?_) | ((with_reducible refine gate_dst (N := 1) rfl ?_); refine box_event ?hg (N := 1) ?hd (cs := #[.int .i64 av, .int .i64 au, .int .i64 aw, .string ay, .int .i64 aD, .int .i64 az, .string aA, .int .i64 ax, .int .i64 aE, .string aC, .int .i64 ap, .string an, .int .i64 aj, .int .i64 am, .int .i64 ak, .int .i64 ah, .int .i64 ai, .int .i64 al, .int .i64 ao, .string ac, .string af, .slice aT ae.length aN, .int .i64 aq, .string ar, .slice aJ ag.length aK]) (t := 25) ?hr ?_; (case hd => rfl); (case hg => rfl); (case hr => first | (go_simp; done) | (go_simp; rfl)); intro aa hg hX hbox hb; have aG := Aside0.mk (below_step Z3 hb); have aH := Aside0.mk (hbox); have aI := Aside0.mk ((by rw [hg]; exact (below_size Z3) : w.heap.size ≤ aa)); have aZ := Aside0.mk ((by rw [hg]; exact (below_size Z3) : w.heap.size ≤ aa)); replace HB := aG; have ab := aH; have cl := aI; have bs := aZ; clear aG aH aI aZ; clear hb hbox hg; have nh := cells_25 ab.out) | ((with_reducible refine gate_callee (f := 28) rfl ?_); refine goesL_ (some 12) rfl rfl Try.func28 Z6 rfl #[.agg #[.int .i64 av, .int .i64 au, .int .i64 aw, .string ay, .int .i64 aD, .int .i64 az, .string aA, .int .i64 ax, .int .i64 aE, .string aC, .int .i64 ap, .string an, .int .i64 aj, .int .i64 am, .int .i64 ak, .int .i64 ah, .int .i64 ai, .int .i64 al, .int .i64 ao, .string ac, .string af, .slice aT ae.length aN, .int .i64 aq, .string ar, .slice aJ ag.length aK]] rfl Z5 ?_; (with_reducible refine (rerr_Right.calls k av au aw ay aD az aA ax aE aC ap an aj am ak ah ai al ao ac af _ _ ae aq ar _ _ ag false _ ?side1 ?side2 ?side3 ?side4 A2.out).mono ?_); (case side1 => exact Z8); (case side2 => exact bl.out); (case side3 => exact Z7); (case side4 => exact bg.out); rintro e gQ ⟨rfl, hb⟩; refine ⟨_, rfl, ?_⟩; have aG := Aside0.mk (blk_below (g := aa) Z1 hb); have aH := Aside0.mk (below_step Z0 hb); replace ab := aG; replace HB := aH; clear aG aH; (try clear hb); (try clear hb2); (try clear hk); (try clear hi)))
  go_ret2
  exact ⟨Z9, Z0⟩

end Go.Proofs.Ytccjakjjaemmkaa.PR
