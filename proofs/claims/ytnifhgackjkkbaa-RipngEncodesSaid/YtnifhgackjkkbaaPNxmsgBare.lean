-- Written by mp.py, a program of this work (wip/tools), out of the translation; Lean checks it.
import Derived.Test.YtnifhgackjkkbaaPNxZ
import Derived.Test.YtnifhgackjkkbaaPNxstringslite
import Derived.Test.YtnifhgackjkkbaaBuild
import Derived.Test.YtnifhgackjkkbaaStore
namespace Go.Proofs.Ytnifhgackjkkbaa.PN
open Go.RowKit Go.Proofs.YtnifhgackjkkbaaW.PrintWords Go.Proofs.YtnifhgackjkkbaaW.PrintLast Go.Proofs.YtnifhgackjkkbaaW.PrintMore
attribute [local go_sem] max2_int min2_int max_two min_two max_three min_three max_four min_four   -- for this text's walks alone
set_option linter.unusedVariables false
set_option linter.unusedSimpArgs false

/-! ### msg_Bare: function 27 -/
def msg_Bare.z (k : Int) (p0 : Int) (p1 : Int) (p2 : Int) (p3 : Int) (p4 : Int) (p5 : Int) (p6 : Int) (p7 : Int) (p8 : Int) (p9 : Int) (p10 : Int) (p11 : Int) (p12 : Int) (p13 : Int) (p14 : Int) (p15 : Int) (p16 : ByteArray) (p17 : ByteArray) (p18 : ByteArray) (p19 : ByteArray) (p20 : ByteArray) (p21 : ByteArray) (p22 : ByteArray) : Bool := (p0 == k && (p1 == 0 && (p2 == 0 && (p3 == 0 && (p4 == 0 && (p5 == 0 && (p6 == 0 && (p7 == 0 && (p8 == 0 && (p9 == 0 && (p10 == 0 && (p11 == 0 && (p12 == 0 && (p13 == 0 && (p14 == 0 && (p15 == 0 && (p16.toList == (⟨#[]⟩ : ByteArray).toList && (p17.toList == (⟨#[]⟩ : ByteArray).toList && (p18.toList == (⟨#[]⟩ : ByteArray).toList && (p19.toList == (⟨#[]⟩ : ByteArray).toList && (p20.toList == (⟨#[]⟩ : ByteArray).toList && (p21.toList == (⟨#[]⟩ : ByteArray).toList && (p22.toList == (⟨#[]⟩ : ByteArray).toList)))))))))))))))))))))))
def msg_Bare.b (aA : Int) (aq : Int) (ar : Int) (av : ByteArray) (aw : Int) (ax : Int) (aC : ByteArray) (aD : Int) (ay : Int) (az : ByteArray) (ag : Int) (ai : ByteArray) (ao : Int) (ac : Int) (ap : Int) (an : Int) (ak : Int) (al : Int) (ae : Int) (am : ByteArray) (aj : ByteArray) (ab : List S66) (af : Int) (ah : ByteArray) (au : List S68) : Bool := if aA = 2 then (msg_Bare.z 2 2 0 ar aw ax 0 0 0 ao ac ap an ak al ae af av (⟨#[]⟩ : ByteArray) (⟨#[]⟩ : ByteArray) ai am aj ah && ((ab.length : Int) == 0)) && ((au.length : Int) == 0) else false
def msg_Bare.f (aA : Int) (aq : Int) (ar : Int) (av : ByteArray) (aw : Int) (ax : Int) (aC : ByteArray) (aD : Int) (ay : Int) (az : ByteArray) (ag : Int) (ai : ByteArray) (ao : Int) (ac : Int) (ap : Int) (an : Int) (ak : Int) (al : Int) (ae : Int) (am : ByteArray) (aj : ByteArray) (ab : List S66) (af : Int) (ah : ByteArray) (au : List S68) : Option Bool := if aA = 2 then some (msg_Bare.b aA aq ar av aw ax aC aD ay az ag ai ao ac ap an ak al ae am aj ab af ah au) else none
theorem msg_Bare.b2 (aq : Int) (ar : Int) (av : ByteArray) (aw : Int) (ax : Int) (aC : ByteArray) (aD : Int) (ay : Int) (az : ByteArray) (ag : Int) (ai : ByteArray) (ao : Int) (ac : Int) (ap : Int) (an : Int) (ak : Int) (al : Int) (ae : Int) (am : ByteArray) (aj : ByteArray) (ab : List S66) (af : Int) (ah : ByteArray) (au : List S68) : msg_Bare.b 2 aq ar av aw ax aC aD ay az ag ai ao ac ap an ak al ae am aj ab af ah au = ((msg_Bare.z 2 2 0 ar aw ax 0 0 0 ao ac ap an ak al ae af av (⟨#[]⟩ : ByteArray) (⟨#[]⟩ : ByteArray) ai am aj ah && ((ab.length : Int) == 0)) && ((au.length : Int) == 0)) := by
 unfold msg_Bare.b
 simp (config := {decide := true}) only [if_true, if_false]
theorem msg_Bare.eqz (d : Nat) (w : World) (k : Int) (p0 : Int) (p1 : Int) (p2 : Int) (p3 : Int) (p4 : Int) (p5 : Int) (p6 : Int) (p7 : Int) (p8 : Int) (p9 : Int) (p10 : Int) (p11 : Int) (p12 : Int) (p13 : Int) (p14 : Int) (p15 : Int) (p16 : ByteArray) (p17 : ByteArray) (p18 : ByteArray) (p19 : ByteArray) (p20 : ByteArray) (p21 : ByteArray) (p22 : ByteArray) :
  (Op.equalIn (d + 2) 70 (.agg #[.int .i64 p0, .int .i64 p1, .int .i64 p2, .int .i64 p3, .int .i64 p4, .int .i64 p5, .int .i64 p6, .int .i64 p7, .int .i64 p8, .int .i64 p9, .int .i64 p10, .int .i64 p11, .int .i64 p12, .int .i64 p13, .int .i64 p14, .int .i64 p15, .string p16, .string p17, .string p18, .string p19, .string p20, .string p21, .string p22]) (.agg #[.int .i64 k, .int .i64 0, .int .i64 0, .int .i64 0, .int .i64 0, .int .i64 0, .int .i64 0, .int .i64 0, .int .i64 0, .int .i64 0, .int .i64 0, .int .i64 0, .int .i64 0, .int .i64 0, .int .i64 0, .int .i64 0, .string ⟨#[]⟩, .string ⟨#[]⟩, .string ⟨#[]⟩, .string ⟨#[]⟩, .string ⟨#[]⟩, .string ⟨#[]⟩, .string ⟨#[]⟩])).run Try.prog w = .ok (msg_Bare.z k p0 p1 p2 p3 p4 p5 p6 p7 p8 p9 p10 p11 p12 p13 p14 p15 p16 p17 p18 p19 p20 p21 p22) w := by
 unfold msg_Bare.z
 refine eqA_of Try.underlying70 Z16 ?_
 refine eqf_cons Z27 Z23 Z23 Z38 ?_
 refine eqf_cons Z27 Z23 Z23 Z38 ?_
 refine eqf_cons Z27 Z23 Z23 Z38 ?_
 refine eqf_cons Z27 Z23 Z23 Z38 ?_
 refine eqf_cons Z27 Z23 Z23 Z38 ?_
 refine eqf_cons Z27 Z23 Z23 Z38 ?_
 refine eqf_cons Z27 Z23 Z23 Z38 ?_
 refine eqf_cons Z27 Z23 Z23 Z38 ?_
 refine eqf_cons Z27 Z23 Z23 Z38 ?_
 refine eqf_cons Z27 Z23 Z23 Z38 ?_
 refine eqf_cons Z27 Z23 Z23 Z38 ?_
 refine eqf_cons Z27 Z23 Z23 Z38 ?_
 refine eqf_cons Z27 Z23 Z23 Z38 ?_
 refine eqf_cons Z27 Z23 Z23 Z38 ?_
 refine eqf_cons Z27 Z23 Z23 Z38 ?_
 refine eqf_cons Z27 Z23 Z23 Z38 ?_
 refine eqf_cons Z27 Z23 Z23 Z38 ?_
 refine eqf_cons Z27 Z23 Z23 Z38 ?_
 refine eqf_cons Z27 Z23 Z23 Z38 ?_
 refine eqf_cons Z27 Z23 Z23 Z38 ?_
 refine eqf_cons Z27 Z23 Z23 Z38 ?_
 refine eqf_cons Z27 Z23 Z23 Z38 ?_
 exact eqf_last Z27 Z23 Z23 Z38
set_option maxRecDepth 100000 in
theorem msg_Bare.bd (v : Int) : Try.prog.built 70 [(0, .int .i64 v)] = some #[.int .i64 v, .int .i64 0, .int .i64 0, .int .i64 0, .int .i64 0, .int .i64 0, .int .i64 0, .int .i64 0, .int .i64 0, .int .i64 0, .int .i64 0, .int .i64 0, .int .i64 0, .int .i64 0, .int .i64 0, .int .i64 0, .string ⟨#[]⟩, .string ⟨#[]⟩, .string ⟨#[]⟩, .string ⟨#[]⟩, .string ⟨#[]⟩, .string ⟨#[]⟩, .string ⟨#[]⟩] := by kernel_rfl
set_option maxHeartbeats 8000000 in
set_option maxRecDepth 100000 in
theorem msg_Bare.calls (aA : Int) (aq : Int) (ar : Int) (av : ByteArray) (aw : Int) (ax : Int) (aC : ByteArray) (aD : Int) (ay : Int) (az : ByteArray) (ag : Int) (ai : ByteArray) (ao : Int) (ac : Int) (ap : Int) (an : Int) (ak : Int) (al : Int) (ae : Int) (am : ByteArray) (aj : ByteArray) (bZ : Option Addr) (ca : Nat) (ab : List S66) (af : Int) (ah : ByteArray) (cC : Option Addr) (cD : Nat) (au : List S68) (r : Bool) (w : World) (cM : Kd.C k66 w bZ ab.length ab) (cN : ab.length ≤ ca) (cO : Kd.C k68 w cC au.length au) (cP : au.length ≤ cD) (h : msg_Bare.f aA aq ar av aw ax aC aD ay az ag ai ao ac ap an ak al ae am aj ab af ah au = some r) :
  Calls Try.prog 27 #[.agg #[.int .i64 aA, .int .i64 aq, .int .i64 ar, .string av, .int .i64 aw, .int .i64 ax, .string aC, .int .i64 aD, .int .i64 ay, .string az, .int .i64 ag, .string ai, .int .i64 ao, .int .i64 ac, .int .i64 ap, .int .i64 an, .int .i64 ak, .int .i64 al, .int .i64 ae, .string am, .string aj, .slice bZ ab.length ca, .int .i64 af, .string ah, .slice cC au.length cD]] w fun e w' => e = .returned (.bool r) ∧ Below w.heap.size w w' := by
 have hu25 := Try.underlying34
 have hu71 := Try.underlying70
 have dZ := Aside0.mk cM
 have cU := Aside0.mk cN
 clear cM cN
 have dI := Aside0.mk cO
 have cZ := Aside0.mk cP
 clear cO cP
 have hk : aA = 2 := by
  by_cases c : aA = 2
  ·exact c
  ·unfold msg_Bare.f at h; rw [if_neg c] at h; exact absurd h Z36
 unfold msg_Bare.f at h
 rw [if_pos hk] at h
 have HK := Aside0.mk hk
 clear hk
 have HB := Aside0.mk (Below.refl w.heap.size w)
 have dg := Aside0.mk (Option.some.inj h)
 clear h
 have A2 : Aside0 (msg_strip.f aA aq ar av aw ax aC aD ay az ag ai ao ac ap an ak al ae am aj ab af ah au = some (aA, aq, ar, aw, ax, aD, ay, ag, ao, ac, ap, an, ak, al, ae, af, av, aC, az, ai, am, aj, ah)) := ⟨rfl⟩
 go_enter Try.func27, Try.ntmps27
 go_upto_block 0 with (first | ((with_reducible refine Pre.gate_store 70 rfl ?_); refine Pre.store_abs rfl rfl rfl Z27 Z27 (by (with_reducible repeat (first | refine blk_drewN ?_ _ | refine blk_drew ?_ | refine blk_alloc ?_ _)); exact BKx.out) Z16 Z27 Z27 ?_; intro wS hbS sS; have cQ := Aside0.mk (sS.blk Z32 NBmx.out); have de := Aside0.mk (sS.below Z26 GEx.out); have eH := Aside0.mk hbS; clear BKm HB BKx hbS sS; have BKm := cQ; have HB := de; have BKx := eH; clear cQ de eH; have hcm21 := (blk_cell BKm.out 21).trans rfl; have hcm0 := (blk_cell BKm.out 0).trans rfl) | ((with_reducible refine Pre.gate_load 34 rfl ?_); refine Pre.load_event rfl rfl rfl Z27 Z29 Try.underlying34 rfl Z16 ?_) | ((with_reducible refine gate_dst (N := 1) rfl ?_); refine Sq.box 1 #[.int .i64 aA, .int .i64 aq, .int .i64 ar, .string av, .int .i64 aw, .int .i64 ax, .string aC, .int .i64 aD, .int .i64 ay, .string az, .int .i64 ag, .string ai, .int .i64 ao, .int .i64 ac, .int .i64 ap, .int .i64 an, .int .i64 ak, .int .i64 al, .int .i64 ae, .string am, .string aj, .slice bZ ab.length ca, .int .i64 af, .string ah, .slice cC au.length cD] 34 ?_; intro gm hg w4 hbox hb; have cQ := Aside0.mk (below_step Z0 hb); have de := Aside0.mk hbox; have GEm := Aside0.mk (Sq.ge hg Z0); replace HB := cQ; have BKm := de; clear cQ de; clear hb hbox hg) | ((with_reducible refine gate_callee (f := 43) rfl ?_); refine goesL_ (some 7) rfl rfl Try.func43 Z16 rfl #[.agg #[.int .i64 aA, .int .i64 aq, .int .i64 ar, .string av, .int .i64 aw, .int .i64 ax, .string aC, .int .i64 aD, .int .i64 ay, .string az, .int .i64 ag, .string ai, .int .i64 ao, .int .i64 ac, .int .i64 ap, .int .i64 an, .int .i64 ak, .int .i64 al, .int .i64 ae, .string am, .string aj, .slice bZ ab.length ca, .int .i64 af, .string ah, .slice cC au.length cD]] rfl (by (try simp only [List.map_toArray, List.map_cons, List.map_nil]); first | done | rfl) ?_; (with_reducible refine (msg_strip.calls aA aq ar av aw ax aC aD ay az ag ai ao ac ap an ak al ae am aj _ _ ab af ah _ _ au aA aq ar aw ax aD ay ag ao ac ap an ak al ae af av aC az ai am aj ah _ ?side1 ?side2 ?side3 ?side4 A2.out).mono ?_); (case side1 => exact Z17); (case side2 => exact cU.out); (case side3 => exact Z22); (case side4 => exact cZ.out); rintro e w6 ⟨rfl, hb⟩; refine ⟨_, rfl, ?_⟩; replace BKm := Aside0.mk (blk_below (g := gm) Z32 hb); replace HB := Aside0.mk (below_step Z26 hb); clear hb) | ((with_reducible refine gate_dst (N := 3) rfl ?_); refine Sq.box 3 #[.int .i64 0, .int .i64 0, .int .i64 0, .int .i64 0, .int .i64 0, .int .i64 0, .int .i64 0, .int .i64 0, .int .i64 0, .int .i64 0, .int .i64 0, .int .i64 0, .int .i64 0, .int .i64 0, .int .i64 0, .int .i64 0, .string ⟨#[]⟩, .string ⟨#[]⟩, .string ⟨#[]⟩, .string ⟨#[]⟩, .string ⟨#[]⟩, .string ⟨#[]⟩, .string ⟨#[]⟩] 70 ?_; intro gx hg w7 hbox hb; have cQ := Aside0.mk (blk_below (g := gm) Z32 hb); have de := Aside0.mk (below_step Z26 hb); have eH := Aside0.mk hbox; have GEx := Aside0.mk (Sq.ge hg Z26); have NBmx := Aside0.mk (Sq.nl hg (blk_lt (g := gm) Z32)); replace BKm := cQ; replace HB := de; have BKx := eH; clear cQ de eH; clear hb hbox hg; have hnb := NBmx.out; have hnc := NBmx.out.symm; (try clear hb)))
 (try simp only [Act.put, Sq.s1, Sq.s2, Sq.s3])
 go_cut [4, 5] (fun v4 v5 wc => ∃ (b4 b5 : Bool) (p0 : Int) (p1 : Int) (p2 : Int) (p3 : Int) (p4 : Int) (p5 : Int) (p6 : Int) (p7 : Int) (p8 : Int) (p9 : Int) (p10 : Int) (p11 : Int) (p12 : Int) (p13 : Int) (p14 : Int) (p15 : Int) (p16 : ByteArray) (p17 : ByteArray) (p18 : ByteArray) (p19 : ByteArray) (p20 : ByteArray) (p21 : ByteArray) (p22 : ByteArray), v4 = .bool b4 ∧ v5 = .bool b5 ∧ Aside0 (((msg_Bare.z aA p0 p1 p2 p3 p4 p5 p6 p7 p8 p9 p10 p11 p12 p13 p14 p15 p16 p17 p18 p19 p20 p21 p22 && b4) && b5) = r) ∧ Aside0 (wc.heap[gm]? = some (.cells #[.int .i64 aA, .int .i64 aq, .int .i64 ar, .string av, .int .i64 aw, .int .i64 ax, .string aC, .int .i64 aD, .int .i64 ay, .string az, .int .i64 ag, .string ai, .int .i64 ao, .int .i64 ac, .int .i64 ap, .int .i64 an, .int .i64 ak, .int .i64 al, .int .i64 ae, .string am, .string aj, .slice bZ ab.length ca, .int .i64 af, .string ah, .slice cC au.length cD] 34 (0, 0))) ∧ Aside0 (wc.heap[gx]? = some (.cells #[.int .i64 p0, .int .i64 p1, .int .i64 p2, .int .i64 p3, .int .i64 p4, .int .i64 p5, .int .i64 p6, .int .i64 p7, .int .i64 p8, .int .i64 p9, .int .i64 p10, .int .i64 p11, .int .i64 p12, .int .i64 p13, .int .i64 p14, .int .i64 p15, .string p16, .string p17, .string p18, .string p19, .string p20, .string p21, .string p22] 70 (0, 0))) ∧ Aside0 (Below w.heap.size w wc))
 case first =>
  have c2 := HK.out
  clear HK
  subst c2
  have HRES : Aside0 (((msg_Bare.z 2 2 0 ar aw ax 0 0 0 ao ac ap an ak al ae af av (⟨#[]⟩ : ByteArray) (⟨#[]⟩ : ByteArray) ai am aj ah && ((ab.length : Int) == 0)) && ((au.length : Int) == 0)) = r) := ⟨(msg_Bare.b2 aq ar av aw ax aC aD ay az ag ai ao ac ap an ak al ae am aj ab af ah au).symm.trans dg.out⟩
  clear dg A2
  have hcx1 := (blk_cell BKx.out 1).trans rfl
  have hfx1 := blk_frozen BKx.out 1
  have hcx5 := (blk_cell BKx.out 5).trans rfl
  have hfx5 := blk_frozen BKx.out 5
  have hcx6 := (blk_cell BKx.out 6).trans rfl
  have hfx6 := blk_frozen BKx.out 6
  have hcx7 := (blk_cell BKx.out 7).trans rfl
  have hfx7 := blk_frozen BKx.out 7
  have hcx17 := (blk_cell BKx.out 17).trans rfl
  have hfx17 := blk_frozen BKx.out 17
  have hcx18 := (blk_cell BKx.out 18).trans rfl
  have hfx18 := blk_frozen BKx.out 18
  have hcm24 := (blk_cell BKm.out 24).trans rfl
  go_wp2
  go_meet
  case rel => exact ⟨((ab.length : Int) == 0), ((au.length : Int) == 0), 2, 0, ar, aw, ax, 0, 0, 0, ao, ac, ap, an, ak, al, ae, af, av, (⟨#[]⟩ : ByteArray), (⟨#[]⟩ : ByteArray), ai, am, aj, ah, rfl, rfl, HRES, ⟨(blk_far (blk_far (blk_far (blk_far (blk_far (blk_far BKm.out NBmx.out _) NBmx.out _) NBmx.out _) NBmx.out _) NBmx.out _) NBmx.out _)⟩, ⟨Pre.heap_norm (blk_set (blk_set (blk_set (blk_set (blk_set (blk_set BKx.out 1 _) 6 _) 17 _) 5 _) 18 _) 7 _) Z30⟩, ⟨(below_set (below_set (below_set (below_set (below_set (below_set HB.out GEx.out) GEx.out) GEx.out) GEx.out) GEx.out) GEx.out)⟩⟩
 case rest =>
  clear hcm0 hcm21 dg A2 BKm BKx HB HK
  obtain ⟨b4, b5, p0, p1, p2, p3, p4, p5, p6, p7, p8, p9, p10, p11, p12, p13, p14, p15, p16, p17, p18, p19, p20, p21, p22, rfl, rfl, HRES, BKm, BKx, HB⟩ := hcut
  have hcm0 := (blk_cell BKm.out 0).trans rfl
  have hE := fun (d : Nat) (w : World) => msg_Bare.eqz d w aA p0 p1 p2 p3 p4 p5 p6 p7 p8 p9 p10 p11 p12 p13 p14 p15 p16 p17 p18 p19 p20 p21 p22
  generalize msg_Bare.z aA p0 p1 p2 p3 p4 p5 p6 p7 p8 p9 p10 p11 p12 p13 p14 p15 p16 p17 p18 p19 p20 p21 p22 = bz at HRES hE
  cases bz <;> cases b4 <;> cases b5
  all_goals
   obtain rfl := HRES.out
   clear HRES
   go_wp2_with (first | ((with_reducible refine Pre.gate_load 70 rfl ?_); refine Pre.load_event rfl rfl rfl Z27 Z29 Try.underlying70 rfl Z16 ?_) | ((with_reducible refine gate_dst (N := 108) rfl ?_); refine Pre.build_event 108 70 [(0, .tmp 107)] rfl rfl rfl (msg_Bare.bd _) ?_))
   go_ret
   exact ⟨rfl, Z39⟩

end Go.Proofs.Ytnifhgackjkkbaa.PN
