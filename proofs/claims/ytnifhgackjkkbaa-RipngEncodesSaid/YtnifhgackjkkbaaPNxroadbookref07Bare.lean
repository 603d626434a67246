-- Written by mp.py, a program of this work (wip/tools), out of the translation; Lean checks it.
import Derived.Test.YtnifhgackjkkbaaPNxZ
import Derived.Test.YtnifhgackjkkbaaPNxroadbookref07Same
import Derived.Test.YtnifhgackjkkbaaBuild
import Derived.Test.YtnifhgackjkkbaaStore
import Derived.Test.YtnifhgackjkkbaaOst
namespace Go.Proofs.Ytnifhgackjkkbaa.PN
open Go.RowKit Go.Proofs.YtnifhgackjkkbaaW.PrintWords Go.Proofs.YtnifhgackjkkbaaW.PrintLast Go.Proofs.YtnifhgackjkkbaaW.PrintMore
attribute [local go_sem] max2_int min2_int max_two min_two max_three min_three max_four min_four   -- for this text's walks alone
set_option linter.unusedVariables false
set_option linter.unusedSimpArgs false

/-! ### roadbookref07_Bare: function 31 -/
def roadbookref07_Bare.f (k : Nat) (aA : Int) (aq : Int) (ar : Int) (av : ByteArray) (aw : Int) (ax : Int) (aC : ByteArray) (aD : Int) (ay : Int) (az : ByteArray) (ag : Int) (ai : ByteArray) (ao : Int) (ac : Int) (ap : Int) (an : Int) (ak : Int) (al : Int) (ae : Int) (am : ByteArray) (aj : ByteArray) (ab : List S66) (af : Int) (ah : ByteArray) (au : List S68) : Option Bool := if aA = 2 then roadbookref07_Same.f k 2 aq 0 ⟨#[]⟩ 0 0 aC aD ay az ag ⟨#[]⟩ 0 0 0 0 0 0 0 ⟨#[]⟩ ⟨#[]⟩ [] 0 ⟨#[]⟩ [] 2 aq ar av aw ax aC aD ay az ag ai ao ac ap an ak al ae am aj ab af ah au else none
theorem roadbookref07_Bare.mono : ∀ aA aq ar av aw ax aC aD ay az ag ai ao ac ap an ak al ae am aj ab af ah au k, LeO (roadbookref07_Bare.f k aA aq ar av aw ax aC aD ay az ag ai ao ac ap an ak al ae am aj ab af ah au) (roadbookref07_Bare.f (k + 1) aA aq ar av aw ax aC aD ay az ag ai ao ac ap an ak al ae am aj ab af ah au) := by
 intro aA aq ar av aw ax aC aD ay az ag ai ao ac ap an ak al ae am aj ab af ah au k
 unfold roadbookref07_Bare.f
 by_cases c2 : aA = 2
 ·rw [if_pos c2, if_pos c2]; exact roadbookref07_Same.mono _ _ _ _ _ _ _ _ _ _ _ _ _ _ _ _ _ _ _ _ _ _ _ _ _ _ _ _ _ _ _ _ _ _ _ _ _ _ _ _ _ _ _ _ _ _ _ _ _ _ _
 rw [if_neg c2, if_neg c2]; clear c2
 exact fun _ h => h
theorem roadbookref07_Bare.f2 (k : Nat) (aq : Int) (ar : Int) (av : ByteArray) (aw : Int) (ax : Int) (aC : ByteArray) (aD : Int) (ay : Int) (az : ByteArray) (ag : Int) (ai : ByteArray) (ao : Int) (ac : Int) (ap : Int) (an : Int) (ak : Int) (al : Int) (ae : Int) (am : ByteArray) (aj : ByteArray) (ab : List S66) (af : Int) (ah : ByteArray) (au : List S68) : roadbookref07_Bare.f k 2 aq ar av aw ax aC aD ay az ag ai ao ac ap an ak al ae am aj ab af ah au = roadbookref07_Same.f k 2 aq 0 ⟨#[]⟩ 0 0 aC aD ay az ag ⟨#[]⟩ 0 0 0 0 0 0 0 ⟨#[]⟩ ⟨#[]⟩ [] 0 ⟨#[]⟩ [] 2 aq ar av aw ax aC aD ay az ag ai ao ac ap an ak al ae am aj ab af ah au := by
 unfold roadbookref07_Bare.f
 simp (config := {decide := true}) only [if_true, if_false]
set_option maxRecDepth 100000 in
theorem roadbookref07_Bare.bd8 (v0 : Int) (dd : Option Addr) (n24 C24 : Nat) : Try.prog.built 34 [(0, .int .i64 v0), (24, .slice dd n24 C24)] = some #[.int .i64 v0, .int .i64 0, .int .i64 0, .string ⟨#[]⟩, .int .i64 0, .int .i64 0, .string ⟨#[]⟩, .int .i64 0, .int .i64 0, .string ⟨#[]⟩, .int .i64 0, .string ⟨#[]⟩, .int .i64 0, .int .i64 0, .int .i64 0, .int .i64 0, .int .i64 0, .int .i64 0, .int .i64 0, .string ⟨#[]⟩, .string ⟨#[]⟩, .slice none 0 0, .int .i64 0, .string ⟨#[]⟩, .slice dd n24 C24] := by kernel_rfl
set_option maxRecDepth 100000 in
theorem roadbookref07_Bare.bd33 (v0 : Int) (v1 : Int) (v2 : Int) (v3 : ByteArray) (v4 : Int) (v8 : Int) (v6 : ByteArray) (v7 : Int) (v9 : ByteArray) (fe : Int) : Try.prog.built 34 [(0, .int .i64 v0), (1, .int .i64 v1), (2, .int .i64 v2), (3, .string v3), (4, .int .i64 v4), (8, .int .i64 v8), (6, .string v6), (7, .int .i64 v7), (9, .string v9), (10, .int .i64 fe)] = some #[.int .i64 v0, .int .i64 v1, .int .i64 v2, .string v3, .int .i64 v4, .int .i64 0, .string v6, .int .i64 v7, .int .i64 v8, .string v9, .int .i64 fe, .string ⟨#[]⟩, .int .i64 0, .int .i64 0, .int .i64 0, .int .i64 0, .int .i64 0, .int .i64 0, .int .i64 0, .string ⟨#[]⟩, .string ⟨#[]⟩, .slice none 0 0, .int .i64 0, .string ⟨#[]⟩, .slice none 0 0] := by kernel_rfl
set_option maxRecDepth 100000 in
theorem roadbookref07_Bare.bd50 (v0 : Int) (v1 : Int) (v8 : Int) (v6 : ByteArray) (v7 : Int) (v9 : ByteArray) (fe : Int) : Try.prog.built 34 [(0, .int .i64 v0), (1, .int .i64 v1), (8, .int .i64 v8), (6, .string v6), (7, .int .i64 v7), (9, .string v9), (10, .int .i64 fe)] = some #[.int .i64 v0, .int .i64 v1, .int .i64 0, .string ⟨#[]⟩, .int .i64 0, .int .i64 0, .string v6, .int .i64 v7, .int .i64 v8, .string v9, .int .i64 fe, .string ⟨#[]⟩, .int .i64 0, .int .i64 0, .int .i64 0, .int .i64 0, .int .i64 0, .int .i64 0, .int .i64 0, .string ⟨#[]⟩, .string ⟨#[]⟩, .slice none 0 0, .int .i64 0, .string ⟨#[]⟩, .slice none 0 0] := by kernel_rfl
set_option maxHeartbeats 8000000 in
set_option maxRecDepth 100000 in
theorem roadbookref07_Bare.calls (k : Nat) (aA : Int) (aq : Int) (ar : Int) (av : ByteArray) (aw : Int) (ax : Int) (aC : ByteArray) (aD : Int) (ay : Int) (az : ByteArray) (ag : Int) (ai : ByteArray) (ao : Int) (ac : Int) (ap : Int) (an : Int) (ak : Int) (al : Int) (ae : Int) (am : ByteArray) (aj : ByteArray) (bZ : Option Addr) (ca : Nat) (ab : List S66) (af : Int) (ah : ByteArray) (cC : Option Addr) (cD : Nat) (au : List S68) (r : Bool) (w : World) (cM : Kd.C k66 w bZ ab.length ab) (cN : ab.length ≤ ca) (cO : Kd.C k68 w cC au.length au) (cP : au.length ≤ cD) (h : roadbookref07_Bare.f k aA aq ar av aw ax aC aD ay az ag ai ao ac ap an ak al ae am aj ab af ah au = some r) :
  Calls Try.prog 31 #[.agg #[.int .i64 aA, .int .i64 aq, .int .i64 ar, .string av, .int .i64 aw, .int .i64 ax, .string aC, .int .i64 aD, .int .i64 ay, .string az, .int .i64 ag, .string ai, .int .i64 ao, .int .i64 ac, .int .i64 ap, .int .i64 an, .int .i64 ak, .int .i64 al, .int .i64 ae, .string am, .string aj, .slice bZ ab.length ca, .int .i64 af, .string ah, .slice cC au.length cD]] w fun e w' => e = .returned (.bool r) ∧ Below w.heap.size w w' := by
 have hu25 := Try.underlying34
 have dZ := Aside0.mk cM
 have cU := Aside0.mk cN
 clear cM cN
 have dI := Aside0.mk cO
 have cZ := Aside0.mk cP
 clear cO cP
 have HK : Aside0 (aA = 2) := by
  by_cases c : aA = 2
  ·exact ⟨c⟩
  ·unfold roadbookref07_Bare.f at h; rw [if_neg c] at h; exact absurd h Z36
 have HB := Aside0.mk (Below.refl w.heap.size w)
 have dg := Aside0.mk h
 clear h
 go_enter Try.func31, Try.ntmps31
 go_upto_block 0 with (first | ((with_reducible refine gate_dst (N := 1) rfl ?_); refine Sq.box 1 #[.int .i64 aA, .int .i64 aq, .int .i64 ar, .string av, .int .i64 aw, .int .i64 ax, .string aC, .int .i64 aD, .int .i64 ay, .string az, .int .i64 ag, .string ai, .int .i64 ao, .int .i64 ac, .int .i64 ap, .int .i64 an, .int .i64 ak, .int .i64 al, .int .i64 ae, .string am, .string aj, .slice bZ ab.length ca, .int .i64 af, .string ah, .slice cC au.length cD] 34 ?_; intro gm hg w4 hbox hb; have cQ := Aside0.mk (below_step Z0 hb); have de := Aside0.mk hbox; have GEm := Aside0.mk (Sq.ge hg Z0); replace HB := cQ; have BKm := de; clear cQ de; clear hb hbox hg; have hcm0 := (blk_cell BKm.out 0).trans rfl; have hcm24 := (blk_cell BKm.out 24).trans rfl) | ((with_reducible refine gate_dst (N := 8) rfl ?_); refine Pre.build_event 8 34 [(0, .tmp 5), (24, .tmp 7)] rfl rfl rfl (roadbookref07_Bare.bd8 _ _ _ _) ?_) | ((with_reducible refine gate_dst (N := 3) rfl ?_); refine Sq.box 3 #[.int .i64 0, .int .i64 0, .int .i64 0, .string ⟨#[]⟩, .int .i64 0, .int .i64 0, .string ⟨#[]⟩, .int .i64 0, .int .i64 0, .string ⟨#[]⟩, .int .i64 0, .string ⟨#[]⟩, .int .i64 0, .int .i64 0, .int .i64 0, .int .i64 0, .int .i64 0, .int .i64 0, .int .i64 0, .string ⟨#[]⟩, .string ⟨#[]⟩, .slice none 0 0, .int .i64 0, .string ⟨#[]⟩, .slice none 0 0] 34 ?_; intro gx hg w7 hbox hb; have cQ := Aside0.mk (blk_below (g := gm) Z32 hb); have de := Aside0.mk (below_step Z26 hb); have eH := Aside0.mk hbox; have GEx := Aside0.mk (Sq.ge hg Z26); have NBmx := Aside0.mk (Sq.nl hg (blk_lt (g := gm) Z32)); clear BKm; clear HB; clear hcm0 hcm24; have BKm := cQ; have HB := de; have BKx := eH; clear cQ de eH; clear hb hbox hg; have hnb := NBmx.out; have hnc := NBmx.out.symm) | ((with_reducible refine Pre.gate_store 34 rfl ?_); refine Pre.store_abs rfl rfl rfl Z27 Z27 (by (with_reducible repeat (first | refine blk_drewN ?_ _ | refine blk_drew ?_ | refine blk_alloc ?_ _)); exact BKx.out) Z16 Z27 Z27 ?_; intro wS hbS sS; have cQ := Aside0.mk (sS.blk Z32 NBmx.out); have de := Aside0.mk (sS.below Z26 GEx.out); have eH := Aside0.mk hbS; clear BKm HB BKx hbS sS; have BKm := cQ; have HB := de; have BKx := eH; clear cQ de eH; have hcm0 := (blk_cell BKm.out 0).trans rfl))
 (try simp only [Act.put, Sq.s1, Sq.s2, Sq.s3])
 go_cut [] (fun wc => ∃ (p0 : Int) (p1 : Int) (p2 : Int) (p3 : ByteArray) (p4 : Int) (p5 : Int) (p6 : ByteArray) (p7 : Int) (p8 : Int) (p9 : ByteArray) (p10 : Int) (p11 : ByteArray) (p12 : Int) (p13 : Int) (p14 : Int) (p15 : Int) (p16 : Int) (p17 : Int) (p18 : Int) (p19 : ByteArray) (p20 : ByteArray) (p21 : List S66) (P21 : Option Addr) (C21 : Nat) (p22 : Int) (p23 : ByteArray) (p24 : List S68) (P24 : Option Addr) (C24 : Nat), Aside0 (roadbookref07_Same.f k p0 p1 p2 p3 p4 p5 p6 p7 p8 p9 p10 p11 p12 p13 p14 p15 p16 p17 p18 p19 p20 p21 p22 p23 p24 aA aq ar av aw ax aC aD ay az ag ai ao ac ap an ak al ae am aj ab af ah au = some r) ∧ Aside0 (wc.heap[gm]? = some (.cells #[.int .i64 aA, .int .i64 aq, .int .i64 ar, .string av, .int .i64 aw, .int .i64 ax, .string aC, .int .i64 aD, .int .i64 ay, .string az, .int .i64 ag, .string ai, .int .i64 ao, .int .i64 ac, .int .i64 ap, .int .i64 an, .int .i64 ak, .int .i64 al, .int .i64 ae, .string am, .string aj, .slice bZ ab.length ca, .int .i64 af, .string ah, .slice cC au.length cD] 34 (0, 0))) ∧ Aside0 (wc.heap[gx]? = some (.cells #[.int .i64 p0, .int .i64 p1, .int .i64 p2, .string p3, .int .i64 p4, .int .i64 p5, .string p6, .int .i64 p7, .int .i64 p8, .string p9, .int .i64 p10, .string p11, .int .i64 p12, .int .i64 p13, .int .i64 p14, .int .i64 p15, .int .i64 p16, .int .i64 p17, .int .i64 p18, .string p19, .string p20, .slice P21 p21.length C21, .int .i64 p22, .string p23, .slice P24 p24.length C24] 34 (0, 0))) ∧ Aside0 (Below w.heap.size w wc) ∧ Aside0 (Kd.C k66 wc P21 p21.length p21) ∧ Aside0 (p21.length ≤ C21) ∧ Aside0 (Kd.C k68 wc P24 p24.length p24) ∧ Aside0 (p24.length ≤ C24))
 case first =>
  have c2 := HK.out
  clear HK
  subst c2
  have HRES : Aside0 (roadbookref07_Same.f k 2 aq 0 ⟨#[]⟩ 0 0 aC aD ay az ag ⟨#[]⟩ 0 0 0 0 0 0 0 ⟨#[]⟩ ⟨#[]⟩ [] 0 ⟨#[]⟩ [] 2 aq ar av aw ax aC aD ay az ag ai ao ac ap an ak al ae am aj ab af ah au = some r) := ⟨(roadbookref07_Bare.f2 k aq ar av aw ax aC aD ay az ag ai ao ac ap an ak al ae am aj ab af ah au).symm.trans dg.out⟩
  clear dg
  have hcm1 := (blk_cell BKm.out 1).trans rfl
  have hcm6 := (blk_cell BKm.out 6).trans rfl
  have hcm7 := (blk_cell BKm.out 7).trans rfl
  have hcm8 := (blk_cell BKm.out 8).trans rfl
  have hcm9 := (blk_cell BKm.out 9).trans rfl
  have hcm10 := (blk_cell BKm.out 10).trans rfl
  go_wp2_with (first | ((with_reducible refine gate_dst (N := 50) rfl ?_); refine Pre.build_event 50 34 [(0, .tmp 37), (1, .tmp 39), (8, .tmp 41), (6, .tmp 43), (7, .tmp 45), (9, .tmp 47), (10, .tmp 49)] rfl rfl rfl (roadbookref07_Bare.bd50 _ _ _ _ _ _ _) ?_) | ((with_reducible refine Pre.gate_store 34 rfl ?_); refine Pre.store_abs rfl rfl rfl Z27 Z27 (by (with_reducible repeat (first | refine blk_drewN ?_ _ | refine blk_drew ?_ | refine blk_alloc ?_ _)); exact BKx.out) Z16 Z27 Z27 ?_; intro wS hbS sS; have cQ := Aside0.mk (sS.blk Z32 NBmx.out); have de := Aside0.mk (sS.below Z26 GEx.out); have eH := Aside0.mk hbS; clear BKm HB BKx hbS sS; have BKm := cQ; have HB := de; have BKx := eH; clear cQ de eH))
  go_meet
  case rel => exact ⟨2, aq, 0, ⟨#[]⟩, 0, 0, aC, aD, ay, az, ag, ⟨#[]⟩, 0, 0, 0, 0, 0, 0, 0, ⟨#[]⟩, ⟨#[]⟩, [], none, 0, 0, ⟨#[]⟩, [], none, 0, HRES, ⟨BKm.out⟩, BKx, ⟨HB.out⟩, ⟨Kd.C_nil _ _⟩, ⟨Nat.le_refl 0⟩, ⟨Kd.C_nil _ _⟩, ⟨Nat.le_refl 0⟩⟩
 case rest =>
  clear hcm0 dg BKm BKx HB
  obtain ⟨p0, p1, p2, p3, p4, p5, p6, p7, p8, p9, p10, p11, p12, p13, p14, p15, p16, p17, p18, p19, p20, p21, P21, C21, p22, p23, p24, P24, C24, HRES, BKm, BKx, HB, HP21, HQ21, HP24, HQ24⟩ := hcut
  go_wp2_with (first | ((with_reducible refine Pre.gate_load 34 rfl ?_); refine Pre.load_event rfl rfl rfl Z27 (by (with_reducible repeat (first | refine blk_drewN ?_ _ | refine blk_drew ?_ | refine blk_alloc ?_ _)); (with_reducible first | exact BKx.out | exact BKm.out)) Try.underlying34 rfl Z16 ?_) | ((with_reducible refine gate_callee (f := 25) rfl ?_); refine goesL_ (some 213) rfl rfl Try.func25 Z16 rfl #[.agg #[.int .i64 p0, .int .i64 p1, .int .i64 p2, .string p3, .int .i64 p4, .int .i64 p5, .string p6, .int .i64 p7, .int .i64 p8, .string p9, .int .i64 p10, .string p11, .int .i64 p12, .int .i64 p13, .int .i64 p14, .int .i64 p15, .int .i64 p16, .int .i64 p17, .int .i64 p18, .string p19, .string p20, .slice P21 p21.length C21, .int .i64 p22, .string p23, .slice P24 p24.length C24], .agg #[.int .i64 aA, .int .i64 aq, .int .i64 ar, .string av, .int .i64 aw, .int .i64 ax, .string aC, .int .i64 aD, .int .i64 ay, .string az, .int .i64 ag, .string ai, .int .i64 ao, .int .i64 ac, .int .i64 ap, .int .i64 an, .int .i64 ak, .int .i64 al, .int .i64 ae, .string am, .string aj, .slice bZ ab.length ca, .int .i64 af, .string ah, .slice cC au.length cD]] rfl (by (try simp only [List.map_toArray, List.map_cons, List.map_nil]); first | done | rfl) ?_; (with_reducible refine (roadbookref07_Same.calls k p0 p1 p2 p3 p4 p5 p6 p7 p8 p9 p10 p11 p12 p13 p14 p15 p16 p17 p18 p19 p20 _ _ p21 p22 p23 _ _ p24 aA aq ar av aw ax aC aD ay az ag ai ao ac ap an ak al ae am aj _ _ ab af ah _ _ au _ _ ?side1 ?side2 ?side3 ?side4 ?side5 ?side6 ?side7 ?side8 HRES.out).mono ?_); (case side1 => exact (by repeat (first | exact HP21.out | (with_reducible refine Kd.C_alloc ?_ _) | (with_reducible refine Kd.C_drewN ?_ _) | (with_reducible refine Kd.C_drew ?_)))); (case side2 => exact HQ21.out); (case side3 => exact (by repeat (first | exact HP24.out | (with_reducible refine Kd.C_alloc ?_ _) | (with_reducible refine Kd.C_drewN ?_ _) | (with_reducible refine Kd.C_drew ?_)))); (case side4 => exact HQ24.out); (case side5 => exact Z17); (case side6 => exact cU.out); (case side7 => exact Z22); (case side8 => exact cZ.out); rintro e w6 ⟨rfl, hb⟩; refine ⟨_, rfl, ?_⟩; replace HB := Aside0.mk (below_step Z39 hb); clear hb))
  go_ret
  exact ⟨rfl, Z39⟩

end Go.Proofs.Ytnifhgackjkkbaa.PN
